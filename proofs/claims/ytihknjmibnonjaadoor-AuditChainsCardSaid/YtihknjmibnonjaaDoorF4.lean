/- Written by a program of this session over the kit's print: YtihknjmibnonjaaDoorF4. -/
import Derived.Test.YtihknjmibnonjaaDoorH
import Derived.Test.YtihknjmibnonjaaDoorE23
import Derived.Test.YtihknjmibnonjaaDoorF9
import Derived.Test.YtihknjmibnonjaaDoorF16
import Derived.Test.YtihknjmibnonjaaDoorF17
import Derived.Test.YtihknjmibnonjaaDoorAAll
import Derived.WalkKit
import Derived.BigCall
import Derived.Test.YtihknjmibnonjaaDoorE23
import Derived.Test.YtihknjmibnonjaaDoorF10
import Derived.Deep.RegionWith
import Derived.BigQuiet
namespace Go.Proofs.YtihknjmibnonjaaDoor.X
open Go.RowKit Go.Proofs.YtihknjmibnonjaaDoorW.PrintWords Go.Proofs.YtihknjmibnonjaaDoorW.PrintLast Go.Proofs.YtihknjmibnonjaaDoorW.PrintMore Go.Proofs.YtihknjmibnonjaaDoor.More
attribute [local go_sem] max2_int min2_int max_two min_two max_three min_three max_four min_four binOp_string_leq binOp_string_gtr   -- for this text's walks alone
set_option linter.unusedVariables false
set_option linter.unusedSimpArgs false

/-! ### donjonlaw14_AuditChains: function 4 -/
open Go.Proofs.YtihknjmibnonjaaDoor.Pure Go.Proofs.YtihknjmibnonjaaDoor.Lib Go.Proofs.YtihknjmibnonjaaDoor.More
attribute [local go_sem high] eqA23
def donjonlaw14_AuditChains.f (l0 : List (S26)) (a1_0 a1_1 a1_2 a1_3 : Int) : Option Bool := some true
set_option maxHeartbeats 16000000 in
set_option maxRecDepth 100000 in
theorem AuditChains.run (A0 : Option Addr) (c0 : Nat) (l : List SE) (x : SL) (w : World) (hG : Laid w) (hr0 : Kd.C k26 w A0 l.length l) : Calls Tryd.prog 4 #[.slice A0 l.length c0, lv x] w fun e w' => e = .returned (.bool true) ∧ Below w.heap.size w w' := by
  obtain ⟨a, ha⟩ : ∃ a, goodS x = a := ⟨_, rfl⟩
  have HGX : Aside0 (donjonlaw4_Good.f x.f0 x.f1 x.f2 x.f3 = some (a.f0, a.f1, a.f2, a.f3)) := ⟨by rw [goodS_f, ha]⟩
  have HLA : Aside0 (labOk a) := ⟨by rw [← ha]; exact goodS_lab x⟩
  have HX := Aside0.mk HLA.out.wf
  have HG := Aside0.mk hG
  obtain ⟨N, hN⟩ : ∃ N, l.length = N := ⟨_, rfl⟩
  rw [hN] at hr0 ⊢
  have HC0 := Aside0.mk hr0
  have HN := Aside0.mk hN
  have HE0 : Aside0 (donjonref8_Of.f 100 0 (⟨#[]⟩ : ByteArray) = some (ofV 0 ⟨#[]⟩)) := ⟨ref_empty⟩
  clear ha hG hr0 hN
  unfold lv
  go_enter Tryd.func4, Tryd.ntmps4
  go_wp2_with fail
  refine (known14 _ (Laid.below HG.out (below_alloc (Below.refl _ _) _))).mono ?_
  rintro e w1 ⟨rfl, hb⟩
  have HB1 := Aside0.mk (below_step (below_alloc (Below.refl _ w) _) hb)
  have BX1 : Aside0 (BoxL w1 w.heap.size x) := ⟨blk_below (blk_new w _) hb⟩
  clear hb
  have x0 : w1.cell? ⟨w.heap.size, 0, none⟩ = some (.int .i64 x.f0) := (blk_cell BX1.out 0).trans rfl
  have x1 : w1.cell? ⟨w.heap.size, 1, none⟩ = some (.int .i64 x.f1) := (blk_cell BX1.out 1).trans rfl
  have x2 : w1.cell? ⟨w.heap.size, 2, none⟩ = some (.int .i64 x.f2) := (blk_cell BX1.out 2).trans rfl
  have x3 : w1.cell? ⟨w.heap.size, 3, none⟩ = some (.int .i64 x.f3) := (blk_cell BX1.out 3).trans rfl
  go_wp2_with fail
  refine (donjonlaw4_Good.calls x.f0 x.f1 x.f2 x.f3 a.f0 a.f1 a.f2 a.f3 _ HGX.out).mono ?_
  rintro e w2 ⟨rfl, hb⟩
  have HB2 := Aside0.mk (below_step HB1.out hb)
  have BX2 := Aside0.mk (BX1.out.below hb)
  clear hb HB1 BX1 x0 x1 x2 x3
  have x0 : w2.cell? ⟨w.heap.size, 0, none⟩ = some (.int .i64 x.f0) := (blk_cell BX2.out 0).trans rfl
  have x1 : w2.cell? ⟨w.heap.size, 1, none⟩ = some (.int .i64 x.f1) := (blk_cell BX2.out 1).trans rfl
  have x2 : w2.cell? ⟨w.heap.size, 2, none⟩ = some (.int .i64 x.f2) := (blk_cell BX2.out 2).trans rfl
  have x3 : w2.cell? ⟨w.heap.size, 3, none⟩ = some (.int .i64 x.f3) := (blk_cell BX2.out 3).trans rfl
  have fx0 := blk_frozen BX2.out 0
  have fx1 := blk_frozen BX2.out 1
  have fx2 := blk_frozen BX2.out 2
  have fx3 := blk_frozen BX2.out 3
  go_wp2_with fail
  have BX3 : Aside0 (BoxL (((((w2.setCell ⟨w.heap.size, 0, none⟩ (.int .i64 a.f0)).setCell ⟨w.heap.size, 1, none⟩ (.int .i64 a.f1)).setCell ⟨w.heap.size, 2, none⟩ (.int .i64 a.f2)).setCell ⟨w.heap.size, 3, none⟩ (.int .i64 a.f3))) w.heap.size a) := ⟨BX2.out.put a⟩
  have HB3 : Aside0 (Below w.heap.size w (((((w2.setCell ⟨w.heap.size, 0, none⟩ (.int .i64 a.f0)).setCell ⟨w.heap.size, 1, none⟩ (.int .i64 a.f1)).setCell ⟨w.heap.size, 2, none⟩ (.int .i64 a.f2)).setCell ⟨w.heap.size, 3, none⟩ (.int .i64 a.f3)))) := ⟨below_set4 HB2.out (Nat.le_refl _)⟩
  clear HB2 BX2 x0 x1 x2 x3 fx0 fx1 fx2 fx3
  generalize ((((w2.setCell ⟨w.heap.size, 0, none⟩ (.int .i64 a.f0)).setCell ⟨w.heap.size, 1, none⟩ (.int .i64 a.f1)).setCell ⟨w.heap.size, 2, none⟩ (.int .i64 a.f2)).setCell ⟨w.heap.size, 3, none⟩ (.int .i64 a.f3)) = w3 at BX3 HB3 ⊢
  refine (log_New.calls _).mono ?_
  rintro e_ w4 ⟨lb, mb, rfl, glb, gmb, hL, hb⟩
  have HBASE : Aside0 (w.heap.size < w3.heap.size) := ⟨blk_lt BX3.out⟩
  have HB4 := Aside0.mk (below_step HB3.out hb)
  have BX4 := Aside0.mk (BX3.out.below hb)
  have HL4 := Aside0.mk hL
  have GM := Aside0.mk gmb
  have GLB := Aside0.mk glb
  have HSZ4 := Aside0.mk (below_size hb)
  clear hb hL glb gmb HB3 BX3
  generalize w3.heap.size = base at HBASE HL4 GM GLB HSZ4
  generalize (fun _ => Value.slice none 0 0 : SL → Value) = hdr0 at HL4
  go_wp2_with fail
  refine (donjonref8_Of.calls 100 0 ⟨#[]⟩ _ _ HE0.out).mono ?_
  rintro e_ w5 ⟨rfl, hb⟩
  have HB5 := Aside0.mk (below_step HB4.out hb)
  have BX5 := Aside0.mk (BX4.out.below hb)
  have HL5 := Aside0.mk (HL4.out.below hb)
  have HSZ5 := Aside0.mk (Nat.le_trans HSZ4.out (below_size hb))
  clear hb HB4 BX4 HL4 HSZ4
  go_wp2
  go_loopw [6, 7, 8] (fun v6 v7 v8 wr => ∃ (i nn : Int) (rows : SL → List SE), v6 = .int .u64 (chainE (rows a)) ∧ v7 = .int .i64 nn ∧ v8 = .int .i64 i ∧ Aside0 (0 ≤ i ∧ i ≤ 35) ∧ Aside0 (((rows a).length : Int) = nn ∧ (∀ y, ((rows y).length : Int) ≤ i) ∧ ∀ e ∈ rows a, e.f2.size + e.f4.size ≤ 50000000) ∧ Aside0 (∃ hdr, LogIs wr lb mb i.toNat base hdr rows) ∧ Aside0 (BoxL wr w.heap.size a) ∧ Aside0 (Below w.heap.size w wr) ∧ Aside0 (base ≤ wr.heap.size)) (fun _ _ v8 _ => 60 - (intOf v8).toNat)
  case atStart => exact ⟨0, 0, fun _ => [], by rw [chainE_nil], rfl, rfl, ⟨by omega⟩, ⟨rfl, fun _ => Int.le_refl _, fun _ he => by cases he⟩, ⟨_, HL5.out⟩, BX5, HB5, HSZ5⟩
  case round =>
    clear HL5 BX5 HB5 HSZ5
    obtain ⟨i, nn, rows, rfl, rfl, rfl, HI, HRW, HLX, BX, HB, HSZ⟩ := hrel
    have HNN := Aside0.mk HRW.out.1
    have HLEN := Aside0.mk HRW.out.2.1
    have HSZE := Aside0.mk HRW.out.2.2
    clear HRW
    obtain ⟨hdr, hLX⟩ := HLX.out
    have HL := Aside0.mk hLX
    clear hLX HLX
    by_cases hiN : i < (N : Int)
    · have e1 : decide (i < (N : Int)) = true := decide_eq_true hiN
      by_cases hi35 : i < 35
      · have e2 : decide (i < 35) = true := decide_eq_true hi35
        have HI35 := Aside0.mk hi35
        have ek : wrap64 (i + 1) = i + 1 := wrap64_id (by have := HI.out; omega) (by omega)
        obtain ⟨ad, eA, hx0, hx1, hx2, hx3, hx4, hx5, hx6, hx7, hx8⟩ := at_T26 (Kd.C_below HC0.out HB.out) i HI.out.1 hiN
        obtain ⟨y, hy⟩ : ∃ y, rd_T26 l i = y := ⟨_, rfl⟩
        rw [hy] at hx0 hx1 hx2 hx3 hx4 hx5 hx6 hx7 hx8
        have p1 := eq_true HI.out.1
        have q1 := eq_true hiN
        have p2 : decide ((0 : Int) ≤ i) = true := decide_eq_true HI.out.1
        obtain ⟨t, ht⟩ : ∃ t, Int.tmod i 2 = t := ⟨_, rfl⟩
        obtain ⟨gy, hgy⟩ : ∃ gy, goodE y = gy := ⟨_, rfl⟩
        have HGY := Aside0.mk hgy
        have HMY : Aside0 (mayE gy) := ⟨by rw [← hgy]; exact goodE_may y⟩
        have HG2 : Aside0 (gy.f2.size ≤ 78) := ⟨by have := HMY.out.2.2.2.1; omega⟩
        have HG4 : Aside0 (gy.f4.size ≤ 78) := ⟨by have := HMY.out.2.2.2.2.1; omega⟩
        cases eA
        clear hiN hi35 hy hgy
        go_wp2_with fail
        refine (good_run y _).mono ?_
        rintro e_ w2 ⟨rfl, hb⟩
        rw [HGY.out]
        unfold ev
        have HB2 := Aside0.mk (below_step HB.out hb)
        have BX2 := Aside0.mk (BX.out.below hb)
        have HL2 := Aside0.mk (HL.out.below hb)
        have HGE := Aside0.mk (Nat.le_trans HSZ.out (below_size hb))
        clear hb HB BX HL HSZ hx0 hx1 hx2 hx3 hx4 hx5 hx6 hx7 hx8 p1 q1 p2
        by_cases ht0 : t = 0
        · have e3 : (t == 0) = true := beq_iff_eq.2 ht0
          clear ht0
          go_upto_region 13 with (refine bigstore_ rfl 26 (.tmp 9) (.tmp 30) rfl w2.heap.size #[.int .i64 gy.f0, .int .i64 gy.f1.f0, .int .i64 gy.f1.f1, .int .i64 gy.f1.f2, .int .i64 gy.f1.f3, .string gy.f2, .int .i64 gy.f3, .string gy.f4, .int .i64 gy.f5] rfl rfl 26 _ (blk_new _ _) (by kernel_rfl) rfl (by kernel_rfl) ?_; intro w3 hv_ hk_ hj_ hB_; have HB3 := Aside0.mk (hB_ _ _ (below_alloc HB2.out _) (below_size HB2.out)); have hb3_ : Below w2.heap.size w2 w3 := hB_ _ _ (below_alloc (Below.refl _ _) _) (Nat.le_refl _); have BX3 := Aside0.mk (BX2.out.below hb3_); have HL3 := Aside0.mk (HL2.out.below hb3_); have HSZ3 := Aside0.mk (Nat.le_trans HGE.out (below_size hb3_)); have HOK3 := Aside0.mk (LogIs.old HL2.out (Nat.le_refl _)); have BE3 : Aside0 (BoxE w3 w2.heap.size gy) := ⟨hv_⟩; clear hv_ hk_ hj_ hB_ hb3_ HL2 HB2 BX2; generalize w2.heap.size = gE at HGE HOK3 BE3 ⊢; have x0 : w3.cell? ⟨w.heap.size, 0, none⟩ = some (.int .i64 a.f0) := (blk_cell BX3.out 0).trans rfl; have x1 : w3.cell? ⟨w.heap.size, 1, none⟩ = some (.int .i64 a.f1) := (blk_cell BX3.out 1).trans rfl; have x2 : w3.cell? ⟨w.heap.size, 2, none⟩ = some (.int .i64 a.f2) := (blk_cell BX3.out 2).trans rfl; have x3 : w3.cell? ⟨w.heap.size, 3, none⟩ = some (.int .i64 a.f3) := (blk_cell BX3.out 3).trans rfl; have z0 : w3.cell? ⟨gE, 0, none⟩ = some (.int .i64 gy.f0) := (blk_cell BE3.out 0).trans rfl; have z1 : w3.cell? ⟨gE, 1, none⟩ = some (.int .i64 gy.f1.f0) := (blk_cell BE3.out 1).trans rfl; have z2 : w3.cell? ⟨gE, 2, none⟩ = some (.int .i64 gy.f1.f1) := (blk_cell BE3.out 2).trans rfl; have z3 : w3.cell? ⟨gE, 3, none⟩ = some (.int .i64 gy.f1.f2) := (blk_cell BE3.out 3).trans rfl; have z4 : w3.cell? ⟨gE, 4, none⟩ = some (.int .i64 gy.f1.f3) := (blk_cell BE3.out 4).trans rfl; have z5 : w3.cell? ⟨gE, 5, none⟩ = some (.string gy.f2) := (blk_cell BE3.out 5).trans rfl; have z6 : w3.cell? ⟨gE, 6, none⟩ = some (.int .i64 gy.f3) := (blk_cell BE3.out 6).trans rfl; have z7 : w3.cell? ⟨gE, 7, none⟩ = some (.string gy.f4) := (blk_cell BE3.out 7).trans rfl; have z8 : w3.cell? ⟨gE, 8, none⟩ = some (.int .i64 gy.f5) := (blk_cell BE3.out 8).trans rfl; have fz1 := blk_frozen BE3.out 1; have fz2 := blk_frozen BE3.out 2; have fz3 := blk_frozen BE3.out 3; have fz4 := blk_frozen BE3.out 4)
          have BE4 : Aside0 (BoxE (((((w3.setCell ⟨gE, 1, none⟩ (.int .i64 a.f0)).setCell ⟨gE, 2, none⟩ (.int .i64 a.f1)).setCell ⟨gE, 3, none⟩ (.int .i64 a.f2)).setCell ⟨gE, 4, none⟩ (.int .i64 a.f3))) gE (reE gy gy.f0 a)) := ⟨BE3.out.putL a⟩
          have BX4 : Aside0 (BoxL (((((w3.setCell ⟨gE, 1, none⟩ (.int .i64 a.f0)).setCell ⟨gE, 2, none⟩ (.int .i64 a.f1)).setCell ⟨gE, 3, none⟩ (.int .i64 a.f2)).setCell ⟨gE, 4, none⟩ (.int .i64 a.f3))) w.heap.size a) := ⟨blk_far4 BX3.out (show w.heap.size ≠ gE by have := HGE.out; have := HBASE.out; omega) _ _ _ _ _ _ _ _⟩
          have HL4 := Aside0.mk (HL3.out.setA4 HOK3.out BE3.out 1 2 3 4 (.int .i64 a.f0) (.int .i64 a.f1) (.int .i64 a.f2) (.int .i64 a.f3))
          have HB4 : Aside0 (Below w.heap.size w (((((w3.setCell ⟨gE, 1, none⟩ (.int .i64 a.f0)).setCell ⟨gE, 2, none⟩ (.int .i64 a.f1)).setCell ⟨gE, 3, none⟩ (.int .i64 a.f2)).setCell ⟨gE, 4, none⟩ (.int .i64 a.f3)))) := ⟨below_set4 HB3.out (by have := HGE.out; have := HBASE.out; omega)⟩
          have HSZ4 : Aside0 (base ≤ (((((w3.setCell ⟨gE, 1, none⟩ (.int .i64 a.f0)).setCell ⟨gE, 2, none⟩ (.int .i64 a.f1)).setCell ⟨gE, 3, none⟩ (.int .i64 a.f2)).setCell ⟨gE, 4, none⟩ (.int .i64 a.f3))).heap.size) := ⟨by simpa [World.setCell] using HSZ3.out⟩
          have HOK4 := HOK3
          have HM4 : Aside0 (mayE (reE gy gy.f0 a)) := ⟨reE_may _ HMY.out HLA.out⟩
          clear HL3 BE3 BX3 HB3 HSZ3 HOK3 x0 x1 x2 x3 z0 z1 z2 z3 z4 z5 z6 z7 z8 fz1 fz2 fz3 fz4
          generalize ((((w3.setCell ⟨gE, 1, none⟩ (.int .i64 a.f0)).setCell ⟨gE, 2, none⟩ (.int .i64 a.f1)).setCell ⟨gE, 3, none⟩ (.int .i64 a.f2)).setCell ⟨gE, 4, none⟩ (.int .i64 a.f3)) = w4 at BE4 BX4 HL4 HB4 HSZ4 ⊢
          have z0 : w4.cell? ⟨gE, 0, none⟩ = some (.int .i64 (reE gy gy.f0 a).f0) := (blk_cell BE4.out 0).trans rfl
          have z1 : w4.cell? ⟨gE, 1, none⟩ = some (.int .i64 (reE gy gy.f0 a).f1.f0) := (blk_cell BE4.out 1).trans rfl
          have z2 : w4.cell? ⟨gE, 2, none⟩ = some (.int .i64 (reE gy gy.f0 a).f1.f1) := (blk_cell BE4.out 2).trans rfl
          have z3 : w4.cell? ⟨gE, 3, none⟩ = some (.int .i64 (reE gy gy.f0 a).f1.f2) := (blk_cell BE4.out 3).trans rfl
          have z4 : w4.cell? ⟨gE, 4, none⟩ = some (.int .i64 (reE gy gy.f0 a).f1.f3) := (blk_cell BE4.out 4).trans rfl
          have z5 : w4.cell? ⟨gE, 5, none⟩ = some (.string (reE gy gy.f0 a).f2) := (blk_cell BE4.out 5).trans rfl
          have z6 : w4.cell? ⟨gE, 6, none⟩ = some (.int .i64 (reE gy gy.f0 a).f3) := (blk_cell BE4.out 6).trans rfl
          have z7 : w4.cell? ⟨gE, 7, none⟩ = some (.string (reE gy gy.f0 a).f4) := (blk_cell BE4.out 7).trans rfl
          have z8 : w4.cell? ⟨gE, 8, none⟩ = some (.int .i64 (reE gy gy.f0 a).f5) := (blk_cell BE4.out 8).trans rfl
          try dsimp only [reE] at z0 z1 z2 z3 z4 z5 z6 z7 z8
          go_wp2_with fail
          refine (log_Add_ok HL4.out (reE gy gy.f0 a) HM4.out (by have h1 := HLEN.out a; have h2 := HI35.out; show (rows a).length < 40; omega) (by have := HI.out; have := HI35.out; unfold maxLen; omega) HSZ4.out).mono ?_
          rintro e_ w5 ⟨rfl, hdr2, hL, hS, hok⟩
          have BE5 : Aside0 (BoxE w5 gE (reE gy gy.f0 a)) := ⟨hS.blkA HL4.out BE4.out HOK4.out⟩
          have BX5 : Aside0 (BoxL w5 w.heap.size a) := ⟨hS.low HL4.out GM.out HBASE.out BX4.out⟩
          have HOK5 := Aside0.mk (hok gE (blk_lt BE4.out) HOK4.out)
          have HL5 := Aside0.mk hL
          have HB5 := Aside0.mk (hS.below HB4.out (below_size HB4.out) HL4.out (by have := GM.out; have := HBASE.out; omega) (by have := HBASE.out; omega))
          have HSZ5 := Aside0.mk (Nat.le_trans HSZ4.out hS.size)
          clear hL hS hok HL4 BE4 BX4 HB4 HSZ4 HOK4 z0 z1 z2 z3 z4 z5 z6 z7 z8
          change Aside0 (LogIs w5 lb mb (i.toNat + 1) base hdr2 (updR rows a (rows a ++ [(⟨((rows a).length : Int) + 1, a, gy.f2, gy.f3, gy.f4, gy.f5⟩ : SE)]))) at HL5
          have z0 : w5.cell? ⟨gE, 0, none⟩ = some (.int .i64 (reE gy gy.f0 a).f0) := (blk_cell BE5.out 0).trans rfl
          have z1 : w5.cell? ⟨gE, 1, none⟩ = some (.int .i64 (reE gy gy.f0 a).f1.f0) := (blk_cell BE5.out 1).trans rfl
          have z2 : w5.cell? ⟨gE, 2, none⟩ = some (.int .i64 (reE gy gy.f0 a).f1.f1) := (blk_cell BE5.out 2).trans rfl
          have z3 : w5.cell? ⟨gE, 3, none⟩ = some (.int .i64 (reE gy gy.f0 a).f1.f2) := (blk_cell BE5.out 3).trans rfl
          have z4 : w5.cell? ⟨gE, 4, none⟩ = some (.int .i64 (reE gy gy.f0 a).f1.f3) := (blk_cell BE5.out 4).trans rfl
          have z5 : w5.cell? ⟨gE, 5, none⟩ = some (.string (reE gy gy.f0 a).f2) := (blk_cell BE5.out 5).trans rfl
          have z6 : w5.cell? ⟨gE, 6, none⟩ = some (.int .i64 (reE gy gy.f0 a).f3) := (blk_cell BE5.out 6).trans rfl
          have z7 : w5.cell? ⟨gE, 7, none⟩ = some (.string (reE gy gy.f0 a).f4) := (blk_cell BE5.out 7).trans rfl
          have z8 : w5.cell? ⟨gE, 8, none⟩ = some (.int .i64 (reE gy gy.f0 a).f5) := (blk_cell BE5.out 8).trans rfl
          try dsimp only [reE] at z0 z1 z2 z3 z4 z5 z6 z7 z8
          have x0 : w5.cell? ⟨w.heap.size, 0, none⟩ = some (.int .i64 a.f0) := (blk_cell BX5.out 0).trans rfl
          have x1 : w5.cell? ⟨w.heap.size, 1, none⟩ = some (.int .i64 a.f1) := (blk_cell BX5.out 1).trans rfl
          have x2 : w5.cell? ⟨w.heap.size, 2, none⟩ = some (.int .i64 a.f2) := (blk_cell BX5.out 2).trans rfl
          have x3 : w5.cell? ⟨w.heap.size, 3, none⟩ = some (.int .i64 a.f3) := (blk_cell BX5.out 3).trans rfl
          obtain ⟨rows2, hR2⟩ : ∃ rows2, updR rows a (rows a ++ [(⟨((rows a).length : Int) + 1, a, gy.f2, gy.f3, gy.f4, gy.f5⟩ : SE)]) = rows2 := ⟨_, rfl⟩
          have HR2 := Aside0.mk hR2.symm
          have HLEN2 : Aside0 (∀ y, ((rows2 y).length : Int) ≤ i + 1) := ⟨fun y => by rw [← hR2]; exact updR_len rows a _ i HLEN.out y⟩
          clear hR2
          obtain ⟨n1, hn1⟩ : ∃ n1, nn + 1 = n1 := ⟨_, rfl⟩
          have HN1 : Aside0 (n1 = ((rows a).length : Int) + 1) := ⟨by rw [HNN.out]; exact hn1.symm⟩
          have en : wrap64 (nn + 1) = n1 := by rw [← hn1]; exact wrap64_id (by have := HNN.out; omega) (by have := HNN.out; have := HLEN.out a; have := HI35.out; omega)
          clear hn1
          have fz0 := blk_frozen BE5.out 0
          go_wp2_with fail
          have BE6 : Aside0 (BoxE (w5.setCell ⟨gE, 0, none⟩ (.int .i64 n1)) gE (reE gy n1 a)) := ⟨BE5.out.putS n1⟩
          have BX6 : Aside0 (BoxL (w5.setCell ⟨gE, 0, none⟩ (.int .i64 n1)) w.heap.size a) := ⟨blk_far BX5.out (show w.heap.size ≠ gE by have := HGE.out; have := HBASE.out; omega) _⟩
          have HL6 := Aside0.mk (HL5.out.setA HOK5.out BE5.out 0 (.int .i64 n1))
          have HB6 : Aside0 (Below w.heap.size w (w5.setCell ⟨gE, 0, none⟩ (.int .i64 n1))) := ⟨below_set HB5.out (by have := HGE.out; have := HBASE.out; omega)⟩
          have HSZ6 : Aside0 (base ≤ (w5.setCell ⟨gE, 0, none⟩ (.int .i64 n1)).heap.size) := ⟨by simpa [World.setCell] using HSZ5.out⟩
          clear BE5 BX5 HL5 HB5 HSZ5 HOK5 x0 x1 x2 x3 z0 z1 z2 z3 z4 z5 z6 z7 z8 fz0
          generalize w5.setCell ⟨gE, 0, none⟩ (.int .i64 n1) = w6 at BE6 BX6 HL6 HB6 HSZ6 ⊢
          refine (enc10_run (reE gy n1 a) (Nat.le_trans HG2.out (by decide)) (Nat.le_trans HG4.out (by decide)) _).mono ?_
          rintro e_ w7 ⟨A7, c7, rfl, hc7, hC7, hb⟩
          have BX7 := Aside0.mk (BX6.out.below hb)
          have HL7 := Aside0.mk (HL6.out.below hb)
          have HB7 := Aside0.mk (below_step HB6.out hb)
          have HSZ7 := Aside0.mk (Nat.le_trans HSZ6.out (below_size hb))
          have HC7 := Aside0.mk hC7
          have HCC7 := Aside0.mk hc7
          have HEL := Aside0.mk (encE_length (reE gy n1 a))
          clear hb hC7 hc7 BE6 BX6 HL6 HB6 HSZ6
          go_wp2_with fail
          refine (donjonref8_Chain.calls ((encE (reE gy n1 a)).length + 1) (chainE (rows a)) A7 c7 (encE (reE gy n1 a)) _ _ HC7.out HCC7.out (ref_chain_f (encE (reE gy n1 a)) (by have h1 := HEL.out; have h2 := HG2.out; have h3 := HG4.out; rw [h1]; show gy.f2.size + gy.f4.size + 16 ≤ _; omega) _ (Nat.lt_succ_self _) _)).mono ?_
          rintro e_ w8 ⟨rfl, hd⟩
          have BX8 := Aside0.mk (BX7.out.below hd.below)
          have HL8 := Aside0.mk (HL7.out.below hd.below)
          have HB8 := Aside0.mk (below_step HB7.out hd.below)
          have HSZ8 := Aside0.mk (Nat.le_trans HSZ7.out (below_size hd.below))
          clear hd BX7 HL7 HB7 HSZ7 HC7 HCC7 HEL
          have HCE : Aside0 (chain (chainE (rows a)) (encE (reE gy n1 a)) = chainE (rows2 a)) := ⟨by rw [HR2.out, updR_at, chainE_add, HN1.out]; rfl⟩
          have HNN2 : Aside0 (((rows2 a).length : Int) = n1) := ⟨by rw [HR2.out, updR_at, HN1.out]; simp⟩
          have HS2 : Aside0 (∀ e ∈ rows2 a, e.f2.size + e.f4.size ≤ 50000000) := ⟨fun e he => by
            rw [HR2.out, updR_at] at he
            rcases List.mem_append.1 he with he | he
            · exact HSZE.out e he
            · obtain rfl := List.mem_singleton.1 he
              have h2 := HG2.out
              have h3 := HG4.out
              show gy.f2.size + gy.f4.size ≤ 50000000
              omega⟩
          rw [HCE.out]
          have x0 : w8.cell? ⟨w.heap.size, 0, none⟩ = some (.int .i64 a.f0) := (blk_cell BX8.out 0).trans rfl
          have x1 : w8.cell? ⟨w.heap.size, 1, none⟩ = some (.int .i64 a.f1) := (blk_cell BX8.out 1).trans rfl
          have x2 : w8.cell? ⟨w.heap.size, 2, none⟩ = some (.int .i64 a.f2) := (blk_cell BX8.out 2).trans rfl
          have x3 : w8.cell? ⟨w.heap.size, 3, none⟩ = some (.int .i64 a.f3) := (blk_cell BX8.out 3).trans rfl
          go_wp2_with fail
          refine (log_Chain.calls HL8.out HX.out (L := rows2 a) (by rw [HR2.out]) (by have := HLEN2.out a; have := HI35.out; omega) HS2.out).mono ?_
          rintro e_ w9 ⟨rfl, hb⟩
          have BX9 := Aside0.mk (BX8.out.below hb)
          have HL9 := Aside0.mk (HL8.out.below hb)
          have HB9 := Aside0.mk (below_step HB8.out hb)
          have HSZ9 := Aside0.mk (Nat.le_trans HSZ8.out (below_size hb))
          clear hb BX8 HL8 HB8 HSZ8 x0 x1 x2 x3
          rw [← HR2.out] at HL9
          clear HR2
          go_wp2
          go_roundw
          case rel => exact ⟨i + 1, n1, rows2, rfl, rfl, by rw [ek], ⟨by have := HI.out; have := HI35.out; omega⟩, ⟨HNN2.out, HLEN2.out, HS2.out⟩, ⟨hdr2, by rw [show (i + 1).toNat = i.toNat + 1 by have := HI.out; omega]; exact HL9.out⟩, BX9, HB9, HSZ9⟩
          case measure =>
            rw [ek]
            have := HI.out
            have := HI35.out
            simp only [intOf]
            omega
        · have e3 : (t == 0) = false := beq_eq_false_iff_ne.2 ht0
          clear ht0
          go_upto_region 13 with (refine bigstore_ rfl 26 (.tmp 9) (.tmp 30) rfl w2.heap.size #[.int .i64 gy.f0, .int .i64 gy.f1.f0, .int .i64 gy.f1.f1, .int .i64 gy.f1.f2, .int .i64 gy.f1.f3, .string gy.f2, .int .i64 gy.f3, .string gy.f4, .int .i64 gy.f5] rfl rfl 26 _ (blk_new _ _) (by kernel_rfl) rfl (by kernel_rfl) ?_; intro w4 hv_ hk_ hj_ hB_; have HB4 := Aside0.mk (hB_ _ _ (below_alloc HB2.out _) (below_size HB2.out)); have hb3_ : Below w2.heap.size w2 w4 := hB_ _ _ (below_alloc (Below.refl _ _) _) (Nat.le_refl _); have BX4 := Aside0.mk (BX2.out.below hb3_); have HL4 := Aside0.mk (HL2.out.below hb3_); have HSZ4 := Aside0.mk (Nat.le_trans HGE.out (below_size hb3_)); have HOK4 := Aside0.mk (LogIs.old HL2.out (Nat.le_refl _)); have BE4 : Aside0 (BoxE w4 w2.heap.size gy) := ⟨hv_⟩; clear hv_ hk_ hj_ hB_ hb3_ HL2 HB2 BX2; generalize w2.heap.size = gE at HGE HOK4 BE4 ⊢)
          by_cases hla : gy.f1 = a
          · have BE4a : Aside0 (BoxE w4 gE (reE gy gy.f0 a)) := ⟨by rw [← hla]; exact BE4.out⟩
            have HM4 : Aside0 (mayE (reE gy gy.f0 a)) := ⟨reE_may _ HMY.out HLA.out⟩
            clear BE4 hla
            have BE4 := BE4a
            clear BE4a
            have z0 : w4.cell? ⟨gE, 0, none⟩ = some (.int .i64 (reE gy gy.f0 a).f0) := (blk_cell BE4.out 0).trans rfl
            have z1 : w4.cell? ⟨gE, 1, none⟩ = some (.int .i64 (reE gy gy.f0 a).f1.f0) := (blk_cell BE4.out 1).trans rfl
            have z2 : w4.cell? ⟨gE, 2, none⟩ = some (.int .i64 (reE gy gy.f0 a).f1.f1) := (blk_cell BE4.out 2).trans rfl
            have z3 : w4.cell? ⟨gE, 3, none⟩ = some (.int .i64 (reE gy gy.f0 a).f1.f2) := (blk_cell BE4.out 3).trans rfl
            have z4 : w4.cell? ⟨gE, 4, none⟩ = some (.int .i64 (reE gy gy.f0 a).f1.f3) := (blk_cell BE4.out 4).trans rfl
            have z5 : w4.cell? ⟨gE, 5, none⟩ = some (.string (reE gy gy.f0 a).f2) := (blk_cell BE4.out 5).trans rfl
            have z6 : w4.cell? ⟨gE, 6, none⟩ = some (.int .i64 (reE gy gy.f0 a).f3) := (blk_cell BE4.out 6).trans rfl
            have z7 : w4.cell? ⟨gE, 7, none⟩ = some (.string (reE gy gy.f0 a).f4) := (blk_cell BE4.out 7).trans rfl
            have z8 : w4.cell? ⟨gE, 8, none⟩ = some (.int .i64 (reE gy gy.f0 a).f5) := (blk_cell BE4.out 8).trans rfl
            try dsimp only [reE] at z0 z1 z2 z3 z4 z5 z6 z7 z8
            go_wp2_with fail
            refine (log_Add_ok HL4.out (reE gy gy.f0 a) HM4.out (by have h1 := HLEN.out a; have h2 := HI35.out; show (rows a).length < 40; omega) (by have := HI.out; have := HI35.out; unfold maxLen; omega) HSZ4.out).mono ?_
            rintro e_ w5 ⟨rfl, hdr2, hL, hS, hok⟩
            have BE5 : Aside0 (BoxE w5 gE (reE gy gy.f0 a)) := ⟨hS.blkA HL4.out BE4.out HOK4.out⟩
            have BX5 : Aside0 (BoxL w5 w.heap.size a) := ⟨hS.low HL4.out GM.out HBASE.out BX4.out⟩
            have HOK5 := Aside0.mk (hok gE (blk_lt BE4.out) HOK4.out)
            have HL5 := Aside0.mk hL
            have HB5 := Aside0.mk (hS.below HB4.out (below_size HB4.out) HL4.out (by have := GM.out; have := HBASE.out; omega) (by have := HBASE.out; omega))
            have HSZ5 := Aside0.mk (Nat.le_trans HSZ4.out hS.size)
            clear hL hS hok HL4 BE4 BX4 HB4 HSZ4 HOK4 z0 z1 z2 z3 z4 z5 z6 z7 z8
            change Aside0 (LogIs w5 lb mb (i.toNat + 1) base hdr2 (updR rows a (rows a ++ [(⟨((rows a).length : Int) + 1, a, gy.f2, gy.f3, gy.f4, gy.f5⟩ : SE)]))) at HL5
            have z0 : w5.cell? ⟨gE, 0, none⟩ = some (.int .i64 (reE gy gy.f0 a).f0) := (blk_cell BE5.out 0).trans rfl
            have z1 : w5.cell? ⟨gE, 1, none⟩ = some (.int .i64 (reE gy gy.f0 a).f1.f0) := (blk_cell BE5.out 1).trans rfl
            have z2 : w5.cell? ⟨gE, 2, none⟩ = some (.int .i64 (reE gy gy.f0 a).f1.f1) := (blk_cell BE5.out 2).trans rfl
            have z3 : w5.cell? ⟨gE, 3, none⟩ = some (.int .i64 (reE gy gy.f0 a).f1.f2) := (blk_cell BE5.out 3).trans rfl
            have z4 : w5.cell? ⟨gE, 4, none⟩ = some (.int .i64 (reE gy gy.f0 a).f1.f3) := (blk_cell BE5.out 4).trans rfl
            have z5 : w5.cell? ⟨gE, 5, none⟩ = some (.string (reE gy gy.f0 a).f2) := (blk_cell BE5.out 5).trans rfl
            have z6 : w5.cell? ⟨gE, 6, none⟩ = some (.int .i64 (reE gy gy.f0 a).f3) := (blk_cell BE5.out 6).trans rfl
            have z7 : w5.cell? ⟨gE, 7, none⟩ = some (.string (reE gy gy.f0 a).f4) := (blk_cell BE5.out 7).trans rfl
            have z8 : w5.cell? ⟨gE, 8, none⟩ = some (.int .i64 (reE gy gy.f0 a).f5) := (blk_cell BE5.out 8).trans rfl
            try dsimp only [reE] at z0 z1 z2 z3 z4 z5 z6 z7 z8
            have x0 : w5.cell? ⟨w.heap.size, 0, none⟩ = some (.int .i64 a.f0) := (blk_cell BX5.out 0).trans rfl
            have x1 : w5.cell? ⟨w.heap.size, 1, none⟩ = some (.int .i64 a.f1) := (blk_cell BX5.out 1).trans rfl
            have x2 : w5.cell? ⟨w.heap.size, 2, none⟩ = some (.int .i64 a.f2) := (blk_cell BX5.out 2).trans rfl
            have x3 : w5.cell? ⟨w.heap.size, 3, none⟩ = some (.int .i64 a.f3) := (blk_cell BX5.out 3).trans rfl
            obtain ⟨rows2, hR2⟩ : ∃ rows2, updR rows a (rows a ++ [(⟨((rows a).length : Int) + 1, a, gy.f2, gy.f3, gy.f4, gy.f5⟩ : SE)]) = rows2 := ⟨_, rfl⟩
            have HR2 := Aside0.mk hR2.symm
            have HLEN2 : Aside0 (∀ y, ((rows2 y).length : Int) ≤ i + 1) := ⟨fun y => by rw [← hR2]; exact updR_len rows a _ i HLEN.out y⟩
            clear hR2
            obtain ⟨n1, hn1⟩ : ∃ n1, nn + 1 = n1 := ⟨_, rfl⟩
            have HN1 : Aside0 (n1 = ((rows a).length : Int) + 1) := ⟨by rw [HNN.out]; exact hn1.symm⟩
            have en : wrap64 (nn + 1) = n1 := by rw [← hn1]; exact wrap64_id (by have := HNN.out; omega) (by have := HNN.out; have := HLEN.out a; have := HI35.out; omega)
            clear hn1
            have fz0 := blk_frozen BE5.out 0
            go_wp2_with fail
            have BE6 : Aside0 (BoxE (w5.setCell ⟨gE, 0, none⟩ (.int .i64 n1)) gE (reE gy n1 a)) := ⟨BE5.out.putS n1⟩
            have BX6 : Aside0 (BoxL (w5.setCell ⟨gE, 0, none⟩ (.int .i64 n1)) w.heap.size a) := ⟨blk_far BX5.out (show w.heap.size ≠ gE by have := HGE.out; have := HBASE.out; omega) _⟩
            have HL6 := Aside0.mk (HL5.out.setA HOK5.out BE5.out 0 (.int .i64 n1))
            have HB6 : Aside0 (Below w.heap.size w (w5.setCell ⟨gE, 0, none⟩ (.int .i64 n1))) := ⟨below_set HB5.out (by have := HGE.out; have := HBASE.out; omega)⟩
            have HSZ6 : Aside0 (base ≤ (w5.setCell ⟨gE, 0, none⟩ (.int .i64 n1)).heap.size) := ⟨by simpa [World.setCell] using HSZ5.out⟩
            clear BE5 BX5 HL5 HB5 HSZ5 HOK5 x0 x1 x2 x3 z0 z1 z2 z3 z4 z5 z6 z7 z8 fz0
            generalize w5.setCell ⟨gE, 0, none⟩ (.int .i64 n1) = w6 at BE6 BX6 HL6 HB6 HSZ6 ⊢
            refine (enc10_run (reE gy n1 a) (Nat.le_trans HG2.out (by decide)) (Nat.le_trans HG4.out (by decide)) _).mono ?_
            rintro e_ w7 ⟨A7, c7, rfl, hc7, hC7, hb⟩
            have BX7 := Aside0.mk (BX6.out.below hb)
            have HL7 := Aside0.mk (HL6.out.below hb)
            have HB7 := Aside0.mk (below_step HB6.out hb)
            have HSZ7 := Aside0.mk (Nat.le_trans HSZ6.out (below_size hb))
            have HC7 := Aside0.mk hC7
            have HCC7 := Aside0.mk hc7
            have HEL := Aside0.mk (encE_length (reE gy n1 a))
            clear hb hC7 hc7 BE6 BX6 HL6 HB6 HSZ6
            go_wp2_with fail
            refine (donjonref8_Chain.calls ((encE (reE gy n1 a)).length + 1) (chainE (rows a)) A7 c7 (encE (reE gy n1 a)) _ _ HC7.out HCC7.out (ref_chain_f (encE (reE gy n1 a)) (by have h1 := HEL.out; have h2 := HG2.out; have h3 := HG4.out; rw [h1]; show gy.f2.size + gy.f4.size + 16 ≤ _; omega) _ (Nat.lt_succ_self _) _)).mono ?_
            rintro e_ w8 ⟨rfl, hd⟩
            have BX8 := Aside0.mk (BX7.out.below hd.below)
            have HL8 := Aside0.mk (HL7.out.below hd.below)
            have HB8 := Aside0.mk (below_step HB7.out hd.below)
            have HSZ8 := Aside0.mk (Nat.le_trans HSZ7.out (below_size hd.below))
            clear hd BX7 HL7 HB7 HSZ7 HC7 HCC7 HEL
            have HCE : Aside0 (chain (chainE (rows a)) (encE (reE gy n1 a)) = chainE (rows2 a)) := ⟨by rw [HR2.out, updR_at, chainE_add, HN1.out]; rfl⟩
            have HNN2 : Aside0 (((rows2 a).length : Int) = n1) := ⟨by rw [HR2.out, updR_at, HN1.out]; simp⟩
            have HS2 : Aside0 (∀ e ∈ rows2 a, e.f2.size + e.f4.size ≤ 50000000) := ⟨fun e he => by
              rw [HR2.out, updR_at] at he
              rcases List.mem_append.1 he with he | he
              · exact HSZE.out e he
              · obtain rfl := List.mem_singleton.1 he
                have h2 := HG2.out
                have h3 := HG4.out
                show gy.f2.size + gy.f4.size ≤ 50000000
                omega⟩
            rw [HCE.out]
            have x0 : w8.cell? ⟨w.heap.size, 0, none⟩ = some (.int .i64 a.f0) := (blk_cell BX8.out 0).trans rfl
            have x1 : w8.cell? ⟨w.heap.size, 1, none⟩ = some (.int .i64 a.f1) := (blk_cell BX8.out 1).trans rfl
            have x2 : w8.cell? ⟨w.heap.size, 2, none⟩ = some (.int .i64 a.f2) := (blk_cell BX8.out 2).trans rfl
            have x3 : w8.cell? ⟨w.heap.size, 3, none⟩ = some (.int .i64 a.f3) := (blk_cell BX8.out 3).trans rfl
            go_wp2_with fail
            refine (log_Chain.calls HL8.out HX.out (L := rows2 a) (by rw [HR2.out]) (by have := HLEN2.out a; have := HI35.out; omega) HS2.out).mono ?_
            rintro e_ w9 ⟨rfl, hb⟩
            have BX9 := Aside0.mk (BX8.out.below hb)
            have HL9 := Aside0.mk (HL8.out.below hb)
            have HB9 := Aside0.mk (below_step HB8.out hb)
            have HSZ9 := Aside0.mk (Nat.le_trans HSZ8.out (below_size hb))
            clear hb BX8 HL8 HB8 HSZ8 x0 x1 x2 x3
            rw [← HR2.out] at HL9
            clear HR2
            go_wp2
            go_roundw
            case rel => exact ⟨i + 1, n1, rows2, rfl, rfl, by rw [ek], ⟨by have := HI.out; have := HI35.out; omega⟩, ⟨HNN2.out, HLEN2.out, HS2.out⟩, ⟨hdr2, by rw [show (i + 1).toNat = i.toNat + 1 by have := HI.out; omega]; exact HL9.out⟩, BX9, HB9, HSZ9⟩
            case measure =>
              rw [ek]
              have := HI.out
              have := HI35.out
              simp only [intOf]
              omega
          · have HM4 : Aside0 (mayE gy) := HMY
            have e5 : (gy.f1.f0 == a.f0 && (gy.f1.f1 == a.f1 && (gy.f1.f2 == a.f2 && (gy.f1.f3 == a.f3)))) = false := by rw [eq_beq]; exact decide_eq_false hla
            have HLA2 := Aside0.mk hla
            clear hla
            have z0 : w4.cell? ⟨gE, 0, none⟩ = some (.int .i64 gy.f0) := (blk_cell BE4.out 0).trans rfl
            have z1 : w4.cell? ⟨gE, 1, none⟩ = some (.int .i64 gy.f1.f0) := (blk_cell BE4.out 1).trans rfl
            have z2 : w4.cell? ⟨gE, 2, none⟩ = some (.int .i64 gy.f1.f1) := (blk_cell BE4.out 2).trans rfl
            have z3 : w4.cell? ⟨gE, 3, none⟩ = some (.int .i64 gy.f1.f2) := (blk_cell BE4.out 3).trans rfl
            have z4 : w4.cell? ⟨gE, 4, none⟩ = some (.int .i64 gy.f1.f3) := (blk_cell BE4.out 4).trans rfl
            have z5 : w4.cell? ⟨gE, 5, none⟩ = some (.string gy.f2) := (blk_cell BE4.out 5).trans rfl
            have z6 : w4.cell? ⟨gE, 6, none⟩ = some (.int .i64 gy.f3) := (blk_cell BE4.out 6).trans rfl
            have z7 : w4.cell? ⟨gE, 7, none⟩ = some (.string gy.f4) := (blk_cell BE4.out 7).trans rfl
            have z8 : w4.cell? ⟨gE, 8, none⟩ = some (.int .i64 gy.f5) := (blk_cell BE4.out 8).trans rfl
            try dsimp only [reE] at z0 z1 z2 z3 z4 z5 z6 z7 z8
            go_wp2_with fail
            refine (log_Add_ok HL4.out gy HM4.out (by have h1 := HLEN.out gy.f1; have h2 := HI35.out; show (rows gy.f1).length < 40; omega) (by have := HI.out; have := HI35.out; unfold maxLen; omega) HSZ4.out).mono ?_
            rintro e_ w5 ⟨rfl, hdr2, hL, hS, hok⟩
            have BE5 : Aside0 (BoxE w5 gE gy) := ⟨hS.blkA HL4.out BE4.out HOK4.out⟩
            have BX5 : Aside0 (BoxL w5 w.heap.size a) := ⟨hS.low HL4.out GM.out HBASE.out BX4.out⟩
            have HOK5 := Aside0.mk (hok gE (blk_lt BE4.out) HOK4.out)
            have HL5 := Aside0.mk hL
            have HB5 := Aside0.mk (hS.below HB4.out (below_size HB4.out) HL4.out (by have := GM.out; have := HBASE.out; omega) (by have := HBASE.out; omega))
            have HSZ5 := Aside0.mk (Nat.le_trans HSZ4.out hS.size)
            clear hL hS hok HL4 BE4 BX4 HB4 HSZ4 HOK4 z0 z1 z2 z3 z4 z5 z6 z7 z8
            change Aside0 (LogIs w5 lb mb (i.toNat + 1) base hdr2 (updR rows gy.f1 (rows gy.f1 ++ [(⟨((rows gy.f1).length : Int) + 1, gy.f1, gy.f2, gy.f3, gy.f4, gy.f5⟩ : SE)]))) at HL5
            have z0 : w5.cell? ⟨gE, 0, none⟩ = some (.int .i64 gy.f0) := (blk_cell BE5.out 0).trans rfl
            have z1 : w5.cell? ⟨gE, 1, none⟩ = some (.int .i64 gy.f1.f0) := (blk_cell BE5.out 1).trans rfl
            have z2 : w5.cell? ⟨gE, 2, none⟩ = some (.int .i64 gy.f1.f1) := (blk_cell BE5.out 2).trans rfl
            have z3 : w5.cell? ⟨gE, 3, none⟩ = some (.int .i64 gy.f1.f2) := (blk_cell BE5.out 3).trans rfl
            have z4 : w5.cell? ⟨gE, 4, none⟩ = some (.int .i64 gy.f1.f3) := (blk_cell BE5.out 4).trans rfl
            have z5 : w5.cell? ⟨gE, 5, none⟩ = some (.string gy.f2) := (blk_cell BE5.out 5).trans rfl
            have z6 : w5.cell? ⟨gE, 6, none⟩ = some (.int .i64 gy.f3) := (blk_cell BE5.out 6).trans rfl
            have z7 : w5.cell? ⟨gE, 7, none⟩ = some (.string gy.f4) := (blk_cell BE5.out 7).trans rfl
            have z8 : w5.cell? ⟨gE, 8, none⟩ = some (.int .i64 gy.f5) := (blk_cell BE5.out 8).trans rfl
            try dsimp only [reE] at z0 z1 z2 z3 z4 z5 z6 z7 z8
            have x0 : w5.cell? ⟨w.heap.size, 0, none⟩ = some (.int .i64 a.f0) := (blk_cell BX5.out 0).trans rfl
            have x1 : w5.cell? ⟨w.heap.size, 1, none⟩ = some (.int .i64 a.f1) := (blk_cell BX5.out 1).trans rfl
            have x2 : w5.cell? ⟨w.heap.size, 2, none⟩ = some (.int .i64 a.f2) := (blk_cell BX5.out 2).trans rfl
            have x3 : w5.cell? ⟨w.heap.size, 3, none⟩ = some (.int .i64 a.f3) := (blk_cell BX5.out 3).trans rfl
            obtain ⟨rows2, hR2⟩ : ∃ rows2, updR rows gy.f1 (rows gy.f1 ++ [(⟨((rows gy.f1).length : Int) + 1, gy.f1, gy.f2, gy.f3, gy.f4, gy.f5⟩ : SE)]) = rows2 := ⟨_, rfl⟩
            have HR2 := Aside0.mk hR2.symm
            have HLEN2 : Aside0 (∀ y, ((rows2 y).length : Int) ≤ i + 1) := ⟨fun y => by rw [← hR2]; exact updR_len rows gy.f1 _ i HLEN.out y⟩
            clear hR2
            clear BE5 HOK5 z0 z5 z6 z7 z8
            have HRA : Aside0 (rows2 a = rows a) := ⟨by rw [HR2.out, updR_ne _ (fun e => HLA2.out e.symm)]⟩
            have HNN2 : Aside0 (((rows2 a).length : Int) = nn) := ⟨by rw [HRA.out]; exact HNN.out⟩
            have HS2 : Aside0 (∀ e ∈ rows2 a, e.f2.size + e.f4.size ≤ 50000000) := ⟨by rw [HRA.out]; exact HSZE.out⟩
            rw [← HRA.out]
            have x0 : w5.cell? ⟨w.heap.size, 0, none⟩ = some (.int .i64 a.f0) := (blk_cell BX5.out 0).trans rfl
            have x1 : w5.cell? ⟨w.heap.size, 1, none⟩ = some (.int .i64 a.f1) := (blk_cell BX5.out 1).trans rfl
            have x2 : w5.cell? ⟨w.heap.size, 2, none⟩ = some (.int .i64 a.f2) := (blk_cell BX5.out 2).trans rfl
            have x3 : w5.cell? ⟨w.heap.size, 3, none⟩ = some (.int .i64 a.f3) := (blk_cell BX5.out 3).trans rfl
            go_wp2_with fail
            refine (log_Chain.calls HL5.out HX.out (L := rows2 a) (by rw [HR2.out]) (by have := HLEN2.out a; have := HI35.out; omega) HS2.out).mono ?_
            rintro e_ w9 ⟨rfl, hb⟩
            have BX9 := Aside0.mk (BX5.out.below hb)
            have HL9 := Aside0.mk (HL5.out.below hb)
            have HB9 := Aside0.mk (below_step HB5.out hb)
            have HSZ9 := Aside0.mk (Nat.le_trans HSZ5.out (below_size hb))
            clear hb BX5 HL5 HB5 HSZ5 x0 x1 x2 x3
            rw [← HR2.out] at HL9
            clear HR2
            go_wp2
            go_roundw
            case rel => exact ⟨i + 1, nn, rows2, rfl, rfl, by rw [ek], ⟨by have := HI.out; have := HI35.out; omega⟩, ⟨HNN2.out, HLEN2.out, HS2.out⟩, ⟨hdr2, by rw [show (i + 1).toNat = i.toNat + 1 by have := HI.out; omega]; exact HL9.out⟩, BX9, HB9, HSZ9⟩
            case measure =>
              rw [ek]
              have := HI.out
              have := HI35.out
              simp only [intOf]
              omega
      · have e2 : decide (i < 35) = false := decide_eq_false hi35
        clear hiN hi35
        obtain ⟨m, hm⟩ : ∃ m, (rows a).length = m := ⟨_, rfl⟩
        have HM := Aside0.mk hm
        have hq : ((m : Int) == nn) = true := by rw [← HNN.out, hm]; exact beq_self_eq_true _
        have HM1 : Aside0 (m ≤ 1000000) := ⟨by have := HLEN.out a; have := HI.out; omega⟩
        clear hm
        have x0 : wr.cell? ⟨w.heap.size, 0, none⟩ = some (.int .i64 a.f0) := (blk_cell BX.out 0).trans rfl
        have x1 : wr.cell? ⟨w.heap.size, 1, none⟩ = some (.int .i64 a.f1) := (blk_cell BX.out 1).trans rfl
        have x2 : wr.cell? ⟨w.heap.size, 2, none⟩ = some (.int .i64 a.f2) := (blk_cell BX.out 2).trans rfl
        have x3 : wr.cell? ⟨w.heap.size, 3, none⟩ = some (.int .i64 a.f3) := (blk_cell BX.out 3).trans rfl
        go_wp2_with fail
        refine (log_All_len HL.out HX.out rfl HM.out HM1.out).mono ?_
        rintro e_ w9 ⟨A9, c9, rfl, hR, hb⟩
        have HB9 := Aside0.mk (below_step HB.out hb)
        clear hb hR
        go_wp2
        go_ret
        exact ⟨rfl, HB9.out⟩
    · have e1 : decide (i < (N : Int)) = false := decide_eq_false hiN
      clear hiN
      obtain ⟨m, hm⟩ : ∃ m, (rows a).length = m := ⟨_, rfl⟩
      have HM := Aside0.mk hm
      have hq : ((m : Int) == nn) = true := by rw [← HNN.out, hm]; exact beq_self_eq_true _
      have HM1 : Aside0 (m ≤ 1000000) := ⟨by have := HLEN.out a; have := HI.out; omega⟩
      clear hm
      have x0 : wr.cell? ⟨w.heap.size, 0, none⟩ = some (.int .i64 a.f0) := (blk_cell BX.out 0).trans rfl
      have x1 : wr.cell? ⟨w.heap.size, 1, none⟩ = some (.int .i64 a.f1) := (blk_cell BX.out 1).trans rfl
      have x2 : wr.cell? ⟨w.heap.size, 2, none⟩ = some (.int .i64 a.f2) := (blk_cell BX.out 2).trans rfl
      have x3 : wr.cell? ⟨w.heap.size, 3, none⟩ = some (.int .i64 a.f3) := (blk_cell BX.out 3).trans rfl
      go_wp2_with fail
      refine (log_All_len HL.out HX.out rfl HM.out HM1.out).mono ?_
      rintro e_ w9 ⟨A9, c9, rfl, hR, hb⟩
      have HB9 := Aside0.mk (below_step HB.out hb)
      clear hb hR
      go_wp2
      go_ret
      exact ⟨rfl, HB9.out⟩
theorem donjonlaw14_AuditChains.calls (A0 : Option Addr) (c0 : Nat) (l0 : List (S26)) (a1_0 a1_1 a1_2 a1_3 : Int) (r : Bool) (w : World) (hG : Laid w) (hr0 : Kd.C k26 w A0 l0.length l0) (hc0 : l0.length ≤ c0) (h : donjonlaw14_AuditChains.f l0 a1_0 a1_1 a1_2 a1_3 = some r) :
    Calls Tryd.prog 4 #[.slice A0 l0.length c0, .agg #[.int .i64 a1_0, .int .i64 a1_1, .int .i64 a1_2, .int .i64 a1_3]] w fun e w' => e = .returned (.bool r) ∧ Below w.heap.size w w' := by
  obtain rfl : true = r := Option.some.inj h
  exact AuditChains.run A0 c0 l0 ⟨a1_0, a1_1, a1_2, a1_3⟩ w hG hr0

end Go.Proofs.YtihknjmibnonjaaDoor.X
