/- Written by a program of this session over the kit's print: YtihknjmibnonjaaDoorF7. -/
import Derived.Test.YtihknjmibnonjaaDoorH
import Derived.Test.YtihknjmibnonjaaDoorE23
import Derived.Test.YtihknjmibnonjaaDoorE26
import Derived.Test.YtihknjmibnonjaaDoorF9
import Derived.Test.YtihknjmibnonjaaDoorF21
import Derived.Test.YtihknjmibnonjaaDoorF47
import Derived.WalkKit
import Derived.BigCall
import Derived.Test.YtihknjmibnonjaaDoorE23
import Derived.Test.YtihknjmibnonjaaDoorF10
import Derived.Deep.RegionWith
import Derived.BigQuiet
import Derived.Test.YtihknjmibnonjaaDoorPAl7
import Derived.Test.YtihknjmibnonjaaDoorE26
import Derived.Deep.CutBlock
import Derived.Deep.DeepCutAuto
namespace Go.Proofs.YtihknjmibnonjaaDoor.X
open Go.RowKit Go.Proofs.YtihknjmibnonjaaDoorW.PrintWords Go.Proofs.YtihknjmibnonjaaDoorW.PrintLast Go.Proofs.YtihknjmibnonjaaDoorW.PrintMore Go.Proofs.YtihknjmibnonjaaDoor.More
attribute [local go_sem] max2_int min2_int max_two min_two max_three min_three max_four min_four binOp_string_leq binOp_string_gtr   -- for this text's walks alone
set_option linter.unusedVariables false
set_option linter.unusedSimpArgs false

/-! ### donjonlaw14_AuditPlays: function 7 -/
open Go.Proofs.YtihknjmibnonjaaDoor.Pure Go.Proofs.YtihknjmibnonjaaDoor.Lib Go.Proofs.YtihknjmibnonjaaDoor.More
attribute [local go_sem high] eqA23 eqA26
def donjonlaw14_AuditPlays.T19 : Bool × List (List Nat × List Nat) := (true, [([], []), ([], []), ([0, 1], [0, 1]), ([], []), ([], []), ([3, 4, 2], [3, 4]), ([2, 5, 5], [2, 5]), ([6], [6]), ([7, 6], [7]), ([8], [8]), ([8], [8]), ([9, 10, 8, 8], [8, 9, 10]), ([8], [8]), ([8], [8]), ([12, 13, 11, 8], [8, 12, 13]), ([11, 14, 14, 8], [8, 11, 14]), ([15, 8], [8, 15]), ([8, 16], [8, 16]), ([17, 15], [17]), ([18], [18]), ([18], [18]), ([19, 20, 18, 18], [18, 19, 20]), ([18], [18]), ([18], [18]), ([22, 23, 21, 18], [18, 22, 23]), ([21, 24, 18], [18, 21, 24]), ([18, 25], [18, 25]), ([26, 24], [26]), ([27], [27]), ([27], [27]), ([28, 29, 27, 27], [27, 28, 29]), ([27], [27]), ([27], [27]), ([31, 32, 30, 27], [27, 31, 32]), ([30, 33, 27], [27, 30, 33]), ([27, 34], [27, 34])])
def donjonlaw14_AuditPlays.B19 : List Nat := [0, 0, 3, 0, 0, 31, 63, 127, 255, 511, 511, 2047, 511, 511, 16383, 32767, 65535, 131071, 262143, 524287, 524287, 2097151, 524287, 524287, 16777215, 33554431, 67108863, 134217727, 268435455, 268435455, 1073741823, 268435455, 268435455, 8589934591, 17179869183, 34359738367]
theorem donjonlaw14_AuditPlays.tab19 : rtab .any (opsOf Tryd.f7 19) = donjonlaw14_AuditPlays.T19 := by kernel_rfl
theorem donjonlaw14_AuditPlays.bits19 : waitsOk donjonlaw14_AuditPlays.T19.2 donjonlaw14_AuditPlays.B19 = true := by kernel_rfl
def donjonlaw14_AuditPlays.T21 : Bool × List (List Nat × List Nat) := (true, [([], []), ([0], [0]), ([1], [1]), ([2], [2]), ([3, 2, 2], [2, 3]), ([2], [2]), ([5, 4, 2], [2, 5]), ([4, 6, 2], [2, 4, 6]), ([2, 7], [2, 7])])
def donjonlaw14_AuditPlays.B21 : List Nat := [0, 1, 3, 7, 15, 7, 63, 127, 255]
theorem donjonlaw14_AuditPlays.tab21 : rtab .any (opsOf Tryd.f7 21) = donjonlaw14_AuditPlays.T21 := by kernel_rfl
theorem donjonlaw14_AuditPlays.bits21 : waitsOk donjonlaw14_AuditPlays.T21.2 donjonlaw14_AuditPlays.B21 = true := by kernel_rfl
theorem addF_zero {R : List SE} {e : SE} (h : addF R e = 0) : mayE e := by
 unfold addF at h
 by_cases hm : mayE e
 ·exact hm
 ·rw [if_neg hm] at h
  exact absurd h (by decide)
def donjonlaw14_AuditPlays.f (l0 : List (S26)) (l1 : List (S23)) : Option Bool := if ∀ e ∈ l0, fits64 e.f0 ∧ e.f2.size + e.f4.size ≤ 4611686018427387904 then some true else none
set_option maxHeartbeats 16000000 in
set_option maxRecDepth 100000 in
theorem AuditPlays.run (A0 A1 : Option Addr) (c0 c1 : Nat) (l : List SE) (asks : List SL) (w : World) (hG : Laid w) (hr0 : Kd.C k26 w A0 l.length l) (hr1 : Kd.C k23 w A1 asks.length asks) (hf : ∀ e ∈ l, fits64 e.f0 ∧ e.f2.size + e.f4.size ≤ 4611686018427387904) : Calls Tryd.prog 7 #[.slice A0 l.length c0, .slice A1 asks.length c1] w fun e w' => e = .returned (.bool true) ∧ Below w.heap.size w w' := by
 have HG := Aside0.mk hG
 have HF := Aside0.mk hf
 obtain ⟨N, hN⟩ : ∃ N, l.length = N := ⟨_, rfl⟩
 obtain ⟨N2, hN2⟩ : ∃ N2, asks.length = N2 := ⟨_, rfl⟩
 rw [hN] at hr0 ⊢
 rw [hN2] at hr1 ⊢
 have HC0 := Aside0.mk hr0
 have HC1 := Aside0.mk hr1
 have HNL := Aside0.mk hN
 clear hG hr0 hr1 hN hN2 hf
 go_enter Tryd.func7, Tryd.ntmps7
 go_wp2_with fail
 refine (known14 _ HG.out).mono ?_
 rintro e w1 ⟨rfl, hb⟩
 have HB1 := Aside0.mk hb
 clear hb
 go_wp2_with fail
 refine (log_New.calls _).mono ?_
 rintro e_ w4 ⟨lb, mb, rfl, glb, gmb, hL, hb⟩
 have HB4 := Aside0.mk (below_step HB1.out hb)
 have HL4 := Aside0.mk hL
 have GM := Aside0.mk gmb
 have GLB := Aside0.mk glb
 have HSZ4 := Aside0.mk (below_size hb)
 have HWB := Aside0.mk (below_size HB1.out)
 clear hb hL glb gmb HB1
 generalize w1.heap.size = base at HL4 GM GLB HSZ4 HWB
 generalize (fun _ => Value.slice none 0 0 : SL → Value) = hdr0 at HL4
 go_wp2
 go_loopw [6, 7] (fun v6 v7 wr => ∃ (i : Int) (rows : SL → List SE) (R : List SE), v7 = .int .i64 i ∧ Aside0 (0 ≤ i ∧ i ≤ 120) ∧ Aside0 (Tells rows R i.toNat) ∧ Aside0 (∃ hdr, LogIs wr lb mb i.toNat base hdr rows ∧ RE wr w.heap.size (okA hdr) v6 R) ∧ Aside0 (Below w.heap.size w wr) ∧ Aside0 (base ≤ wr.heap.size)) (fun _ v7 _ => 200 - (intOf v7).toNat)
 case atStart => exact ⟨0, fun _ => [], [], rfl, ⟨by omega⟩, ⟨Tells.none⟩, ⟨_, HL4.out, Kd.R_nil _ _ _ _ _⟩, HB4, HSZ4⟩
 case round =>
  clear HL4 HB4 HSZ4
  obtain ⟨i, rows, R, rfl, HI, HT, HLX, HB, HSZ⟩ := hrel
  obtain ⟨hdr, hLX, hR6⟩ := HLX.out
  have HL := Aside0.mk hLX
  have HR6 := Aside0.mk hR6
  clear hLX HLX hR6
  by_cases hiN : i < (N : Int)
  ·have e1 : decide (i < (N : Int)) = true := decide_eq_true hiN
   by_cases hi120 : i < 120
   ·have e2 : decide (i < 120) = true := decide_eq_true hi120
    have HI120 := Aside0.mk hi120
    have HIN : Aside0 ((i + 1).toNat = i.toNat + 1) := ⟨by have := HI.out; omega⟩
    have ek : wrap64 (i + 1) = i + 1 := wrap64_id (by have := HI.out; omega) (by omega)
    obtain ⟨ad, eA, hx0, hx1, hx2, hx3, hx4, hx5, hx6, hx7, hx8⟩ := at_T26 (Kd.C_below HC0.out HB.out) i HI.out.1 hiN
    obtain ⟨y, hy⟩ : ∃ y, rd_T26 l i = y := ⟨_, rfl⟩
    have HFY : Aside0 (fits64 y.f0 ∧ y.f2.size + y.f4.size ≤ 4611686018427387904) := ⟨HF.out y (by rw [← hy]; exact rd_mem l i HI.out.1 (by rw [HNL.out]; exact hiN))⟩
    rw [hy] at hx0 hx1 hx2 hx3 hx4 hx5 hx6 hx7 hx8
    have p1 := eq_true HI.out.1
    have q1 := eq_true hiN
    have p2 : decide ((0 : Int) ≤ i) = true := decide_eq_true HI.out.1
    cases eA
    clear hiN hi120 hy
    go_upto_region 9 with (refine bigstore_ rfl 26 (.tmp 8) (.tmp 28) rfl wr.heap.size #[.int .i64 y.f0, .int .i64 y.f1.f0, .int .i64 y.f1.f1, .int .i64 y.f1.f2, .int .i64 y.f1.f3, .string y.f2, .int .i64 y.f3, .string y.f4, .int .i64 y.f5] rfl rfl 26 _ (blk_new _ _) (by kernel_rfl) rfl (by kernel_rfl) ?_; intro w3 hv_ hk_ hj_ hB_; have HB3 := Aside0.mk (hB_ _ _ (below_alloc HB.out _) (below_size HB.out)); have hb3_ : Below wr.heap.size wr w3 := hB_ _ _ (below_alloc (Below.refl _ _) _) (Nat.le_refl _); have HL3 := Aside0.mk (HL.out.below hb3_); have HR63 : Aside0 (RE w3 w.heap.size (fun k => okA hdr k ∧ k ≠ wr.heap.size) u6 R) := ⟨Kd.R_below (Kd.R_mono (Kd.R_bound HR6.out) (fun k hk => ⟨hk.1, Nat.ne_of_lt hk.2.2.1⟩)) hb3_⟩; have HSZ3 := Aside0.mk (Nat.le_trans HSZ.out (below_size hb3_)); have HOK3 := Aside0.mk (LogIs.old HL.out (Nat.le_refl _)); have HGE := HSZ; have BE3 : Aside0 (BoxE w3 wr.heap.size y) := ⟨hv_⟩; clear hv_ hk_ hj_ hB_ hb3_ HL HB HSZ HR6; generalize wr.heap.size = gE at HGE HOK3 BE3 HR63 ⊢)
    clear hx0 hx1 hx2 hx3 hx4 hx5 hx6 hx7 hx8 p1 q1 p2
    obtain ⟨s, hs⟩ : ∃ s, (y.f2.size : Int) + (y.f4.size : Int) = s := ⟨_, rfl⟩
    have es : wrap64 ((y.f2.size : Int) + (y.f4.size : Int)) = s := by rw [← hs]; exact wrap64_id (by omega) (by have := HFY.out.2; omega)
    clear hs
    have z0 : w3.cell? ⟨gE, 0, none⟩ = some (.int .i64 y.f0) := (blk_cell BE3.out 0).trans rfl
    have z1 : w3.cell? ⟨gE, 1, none⟩ = some (.int .i64 y.f1.f0) := (blk_cell BE3.out 1).trans rfl
    have z2 : w3.cell? ⟨gE, 2, none⟩ = some (.int .i64 y.f1.f1) := (blk_cell BE3.out 2).trans rfl
    have z3 : w3.cell? ⟨gE, 3, none⟩ = some (.int .i64 y.f1.f2) := (blk_cell BE3.out 3).trans rfl
    have z4 : w3.cell? ⟨gE, 4, none⟩ = some (.int .i64 y.f1.f3) := (blk_cell BE3.out 4).trans rfl
    have z5 : w3.cell? ⟨gE, 5, none⟩ = some (.string y.f2) := (blk_cell BE3.out 5).trans rfl
    have z6 : w3.cell? ⟨gE, 6, none⟩ = some (.int .i64 y.f3) := (blk_cell BE3.out 6).trans rfl
    have z7 : w3.cell? ⟨gE, 7, none⟩ = some (.string y.f4) := (blk_cell BE3.out 7).trans rfl
    have z8 : w3.cell? ⟨gE, 8, none⟩ = some (.int .i64 y.f5) := (blk_cell BE3.out 8).trans rfl
    by_cases hbig : s > 400
    ·have e3 : decide (s > 400) = true := decide_eq_true hbig
     clear hbig
     go_wp2
     go_roundw
     case rel => exact ⟨i + 1, rows, R, by rw [ek], ⟨by have := HI.out; have := HI120.out; omega⟩, ⟨by rw [show (i + 1).toNat = i.toNat + 1 by have := HI.out; omega]; exact HT.out.mono (Nat.le_succ _)⟩, ⟨hdr, by rw [show (i + 1).toNat = i.toNat + 1 by have := HI.out; omega]; exact LogIs.mono HL3.out (Nat.le_succ _), Kd.R_mono HR63.out (fun _ hk => hk.1)⟩, HB3, HSZ3⟩
     case measure =>
      rw [ek]
      have := HI.out
      have := HI120.out
      simp only [intOf]
      omega
    ·have e3 : decide (s > 400) = false := decide_eq_false hbig
     clear hbig
     obtain ⟨t, ht⟩ : ∃ t, Int.tmod i 3 = t := ⟨_, rfl⟩
     obtain ⟨bt, hbt⟩ : ∃ bt, decide (t > 0) = bt := ⟨_, rfl⟩
     go_upto_if 39 with fail
     clear hbt
     go_cut [40] (fun _ wx => ∃ e : SE, Aside0 (fits64 e.f0) ∧ Aside0 (BoxE wx gE e) ∧ Aside0 (LogIs wx lb mb i.toNat base hdr rows ∧ RE wx w.heap.size (fun k => okA hdr k ∧ k ≠ gE) u6 R) ∧ Aside0 (Below w.heap.size w wx) ∧ Aside0 (base ≤ wx.heap.size))
     case first =>
      cases bt with
      | true =>
       obtain ⟨ge, hge⟩ : ∃ ge, goodE y = ge := ⟨_, rfl⟩
       have HGY := Aside0.mk hge
       have HGF0 : Aside0 (fits64 ge.f0) := ⟨by rw [← hge]; exact HFY.out.1⟩
       clear hge
       go_wp2_with fail
       refine (good_run y _).mono ?_
       rintro e_ w5 ⟨rfl, hb⟩
       rw [HGY.out]
       unfold ev
       have BE5 := Aside0.mk (BE3.out.below hb)
       have HL5 := Aside0.mk (HL3.out.below hb)
       have HR65 := Aside0.mk (Kd.R_below HR63.out hb)
       have HB5 := Aside0.mk (below_step HB3.out hb)
       have HSZ5 := Aside0.mk (Nat.le_trans HSZ3.out (below_size hb))
       clear hb BE3 HL3 HR63 HB3 HSZ3 z0 z1 z2 z3 z4 z5 z6 z7 z8
       have fz0 := blk_frozen BE5.out 0
       go_wp2_with (refine bigstore_ rfl 26 (.tmp 8) (.tmp 41) rfl gE #[.int .i64 ge.f0, .int .i64 ge.f1.f0, .int .i64 ge.f1.f1, .int .i64 ge.f1.f2, .int .i64 ge.f1.f3, .string ge.f2, .int .i64 ge.f3, .string ge.f4, .int .i64 ge.f5] rfl rfl 26 _ BE5.out (by kernel_rfl) rfl (by kernel_rfl) ?_; intro w6 hv_ hk_ hj_ hB_; have BE6 : Aside0 (BoxE w6 gE ge) := ⟨hv_⟩; have hq_ : ∀ k, k < w5.heap.size → k ≠ gE → w6.heap[k]? = w5.heap[k]? := fun k hlt hne => (hj_ k _ (Array.getElem?_eq_getElem hlt) hne).trans (Array.getElem?_eq_getElem hlt).symm; have HL6 := Aside0.mk (HL5.out.turnA HOK3.out (HL5.out.ne_box BE5.out) hq_); have HR66 := Aside0.mk (Kd.R_step HR65.out (fun k hk hlt => hq_ k hlt hk.2)); have HB6 := Aside0.mk (hB_ _ _ HB5.out (Nat.le_trans HWB.out HGE.out)); have HSZ6 := Aside0.mk (Nat.le_trans HSZ5.out hk_.1); clear hv_ hk_ hj_ hB_ hq_)
       go_meet
       case rel => exact ⟨ge, HGF0, BE6, ⟨HL6.out, HR66.out⟩, HB6, HSZ6⟩
      | false =>
       go_wp2_with fail
       go_meet
       case rel => exact ⟨y, ⟨HFY.out.1⟩, BE3, ⟨HL3.out, HR63.out⟩, HB3, HSZ3⟩
     case rest =>
      obtain ⟨e, HFE, BE, HLR, HB, HSZ⟩ := hcut
      clear BE3 HL3 HR63 HB3 HSZ3 z0 z1 z2 z3 z4 z5 z6 z7 z8
      have HL := Aside0.mk HLR.out.1
      have HR6 := Aside0.mk HLR.out.2
      clear HLR
      obtain ⟨f, hf⟩ : ∃ f, addF R e = f := ⟨_, rfl⟩
      obtain ⟨Rn, hRn⟩ : ∃ Rn, addRow R e = Rn := ⟨_, rfl⟩
      have HFV := Aside0.mk hf
      have HADD := Aside0.mk (fun (W : World) (h : RE W w.heap.size (fun k => okA hdr k ∧ k ≠ gE) u6 R) (hb : w.heap.size ≤ W.heap.size) => add14_run e R h hb (by have := HT.out.len; have := HI.out; have := HI120.out; omega))
      rw [hf, hRn] at HADD
      have HRN := Aside0.mk hRn
      clear hf hRn
      have z0 : wc.cell? ⟨gE, 0, none⟩ = some (.int .i64 e.f0) := (blk_cell BE.out 0).trans rfl
      have z1 : wc.cell? ⟨gE, 1, none⟩ = some (.int .i64 e.f1.f0) := (blk_cell BE.out 1).trans rfl
      have z2 : wc.cell? ⟨gE, 2, none⟩ = some (.int .i64 e.f1.f1) := (blk_cell BE.out 2).trans rfl
      have z3 : wc.cell? ⟨gE, 3, none⟩ = some (.int .i64 e.f1.f2) := (blk_cell BE.out 3).trans rfl
      have z4 : wc.cell? ⟨gE, 4, none⟩ = some (.int .i64 e.f1.f3) := (blk_cell BE.out 4).trans rfl
      have z5 : wc.cell? ⟨gE, 5, none⟩ = some (.string e.f2) := (blk_cell BE.out 5).trans rfl
      have z6 : wc.cell? ⟨gE, 6, none⟩ = some (.int .i64 e.f3) := (blk_cell BE.out 6).trans rfl
      have z7 : wc.cell? ⟨gE, 7, none⟩ = some (.string e.f4) := (blk_cell BE.out 7).trans rfl
      have z8 : wc.cell? ⟨gE, 8, none⟩ = some (.int .i64 e.f5) := (blk_cell BE.out 8).trans rfl
      go_wp2_with fail
      refine (HADD.out _ HR6.out (below_size HB.out)).mono ?_
      rintro e_ w6 ⟨v9, rfl, hR9, hb⟩
      have BE6 := Aside0.mk (BE.out.below hb)
      have HL6 := Aside0.mk (HL.out.below hb)
      have HR96 : Aside0 (RE w6 w.heap.size (okA hdr) v9 Rn) := ⟨Kd.R_mono hR9 (fun k hk => hk.elim (fun h => h.1) (fun h => HL.out.old h))⟩
      have HB6 := Aside0.mk (below_step HB.out hb)
      have HSZ6 := Aside0.mk (Nat.le_trans HSZ.out (below_size hb))
      clear hR9 hb HL HR6 BE HB HSZ HADD z0 z1 z2 z3 z4 z5 z6 z7 z8
      have hAdd := log_Add_f HL6.out HT.out e (by unfold maxLen; have := HI.out; omega) HSZ6.out
      rw [HFV.out, HRN.out] at hAdd
      have HADL := Aside0.mk hAdd
      clear hAdd
      have z0 : w6.cell? ⟨gE, 0, none⟩ = some (.int .i64 e.f0) := (blk_cell BE6.out 0).trans rfl
      have z1 : w6.cell? ⟨gE, 1, none⟩ = some (.int .i64 e.f1.f0) := (blk_cell BE6.out 1).trans rfl
      have z2 : w6.cell? ⟨gE, 2, none⟩ = some (.int .i64 e.f1.f1) := (blk_cell BE6.out 2).trans rfl
      have z3 : w6.cell? ⟨gE, 3, none⟩ = some (.int .i64 e.f1.f2) := (blk_cell BE6.out 3).trans rfl
      have z4 : w6.cell? ⟨gE, 4, none⟩ = some (.int .i64 e.f1.f3) := (blk_cell BE6.out 4).trans rfl
      have z5 : w6.cell? ⟨gE, 5, none⟩ = some (.string e.f2) := (blk_cell BE6.out 5).trans rfl
      have z6 : w6.cell? ⟨gE, 6, none⟩ = some (.int .i64 e.f3) := (blk_cell BE6.out 6).trans rfl
      have z7 : w6.cell? ⟨gE, 7, none⟩ = some (.string e.f4) := (blk_cell BE6.out 7).trans rfl
      have z8 : w6.cell? ⟨gE, 8, none⟩ = some (.int .i64 e.f5) := (blk_cell BE6.out 8).trans rfl
      go_wp2_with fail
      refine HADL.out.mono ?_
      rintro e_ w7 ⟨hdr7, rows7, rfl, hL7, hS7, hok7, hT7⟩
      have BE7 : Aside0 (BoxE w7 gE e) := ⟨hS7.blkA HL6.out BE6.out HOK3.out⟩
      have HL7 := Aside0.mk hL7
      have HT7 := Aside0.mk hT7
      have HR7 : Aside0 (RE w7 w.heap.size (okA hdr7) v9 Rn) := ⟨row_add hS7 HL6.out.isMap hok7 HR96.out⟩
      have HB7 := Aside0.mk (hS7.below HB6.out (below_size HB6.out) HL6.out (by have := GM.out; have := HWB.out; omega) HWB.out)
      have HSZ7 := Aside0.mk (Nat.le_trans HSZ6.out hS7.size)
      clear hL7 hT7 hS7 hok7 HADL HL6 BE6 HR96 HB6 HSZ6 HT z0 z1 z2 z3 z4 z5 z6 z7 z8
      have z0 : w7.cell? ⟨gE, 0, none⟩ = some (.int .i64 e.f0) := (blk_cell BE7.out 0).trans rfl
      have z1 : w7.cell? ⟨gE, 1, none⟩ = some (.int .i64 e.f1.f0) := (blk_cell BE7.out 1).trans rfl
      have z2 : w7.cell? ⟨gE, 2, none⟩ = some (.int .i64 e.f1.f1) := (blk_cell BE7.out 2).trans rfl
      have z3 : w7.cell? ⟨gE, 3, none⟩ = some (.int .i64 e.f1.f2) := (blk_cell BE7.out 3).trans rfl
      have z4 : w7.cell? ⟨gE, 4, none⟩ = some (.int .i64 e.f1.f3) := (blk_cell BE7.out 4).trans rfl
      have z5 : w7.cell? ⟨gE, 5, none⟩ = some (.string e.f2) := (blk_cell BE7.out 5).trans rfl
      have z6 : w7.cell? ⟨gE, 6, none⟩ = some (.int .i64 e.f3) := (blk_cell BE7.out 6).trans rfl
      have z7 : w7.cell? ⟨gE, 7, none⟩ = some (.string e.f4) := (blk_cell BE7.out 7).trans rfl
      have z8 : w7.cell? ⟨gE, 8, none⟩ = some (.int .i64 e.f5) := (blk_cell BE7.out 8).trans rfl
      obtain ⟨b2, hb2⟩ : ∃ b2, decide (i < (N2 : Int)) = b2 := ⟨_, rfl⟩
      have HB2 := Aside0.mk hb2
      obtain ⟨ga, hga⟩ : ∃ ga, goodS e.f1 = ga := ⟨_, rfl⟩
      have HGA : Aside0 (labOk ga) := ⟨by rw [← hga]; exact goodS_lab e.f1⟩
      have HGF : Aside0 (donjonlaw4_Good.f e.f1.f0 e.f1.f1 e.f1.f2 e.f1.f3 = some (ga.f0, ga.f1, ga.f2, ga.f3)) := ⟨by rw [goodS_f, hga]⟩
      have hff : (f != f) = false := bne_self_eq_false f
      clear hga
      go_wp2_with fail
      refine (donjonlaw4_Good.calls e.f1.f0 e.f1.f1 e.f1.f2 e.f1.f3 ga.f0 ga.f1 ga.f2 ga.f3 _ HGF.out).mono ?_
      rintro e_ w8 ⟨rfl, hb⟩
      go_upto_if 60 with fail
      clear hb2 z0 z1 z2 z3 z4 z5 z6 z7 z8
      have hbA : Below w7.heap.size w7 (w8.alloc (.cells #[.int .i64 ga.f0, .int .i64 ga.f1, .int .i64 ga.f2, .int .i64 ga.f3] 23)) := below_alloc hb _
      have BX9 : Aside0 (BoxL (w8.alloc (.cells #[.int .i64 ga.f0, .int .i64 ga.f1, .int .i64 ga.f2, .int .i64 ga.f3] 23)) w8.heap.size ga) := ⟨blk_new w8 _⟩
      have BE9 := Aside0.mk (BE7.out.below hbA)
      have HL9 := Aside0.mk (HL7.out.below hbA)
      have HR9 : Aside0 (RE (w8.alloc (.cells #[.int .i64 ga.f0, .int .i64 ga.f1, .int .i64 ga.f2, .int .i64 ga.f3] 23)) w.heap.size (fun k => okA hdr7 k ∧ k ≠ w8.heap.size) v9 Rn) := ⟨Kd.R_below (Kd.R_mono (Kd.R_bound HR7.out) (fun k hk => ⟨hk.1, by have := hk.2.2.1; have := below_size hb; omega⟩)) hbA⟩
      have HB9 := Aside0.mk (below_step HB7.out hbA)
      have HSZ9 := Aside0.mk (Nat.le_trans HSZ7.out (below_size hbA))
      have HGN : Aside0 (okA hdr7 w8.heap.size ∧ (w8.heap.size ≠ lb ∧ w8.heap.size ≠ mb) ∧ gE ≠ w8.heap.size ∧ w.heap.size ≤ w8.heap.size) := ⟨HL7.out.old (below_size hb), ⟨by have h1 := (Array.getElem?_eq_some_iff.1 HL7.out.1).1; have := below_size hb; omega, by have h1 := HL7.out.2.1.lt; have := below_size hb; omega⟩, by have h1 := blk_lt BE7.out; have := below_size hb; omega, by have h1 := below_size HB7.out; have := below_size hb; omega⟩
      clear hb hbA BE7 HL7 HR7 HB7 HSZ7
      generalize w8.heap.size = gL at BX9 HR9 HGN ⊢
      generalize w8.alloc (.cells #[.int .i64 ga.f0, .int .i64 ga.f1, .int .i64 ga.f2, .int .i64 ga.f3] 23) = w9 at BX9 BE9 HL9 HR9 HB9 HSZ9 ⊢
      go_cut [61] (fun _ wx => ∃ a : SL, Aside0 (labOk a) ∧ Aside0 (BoxL wx gL a) ∧ Aside0 (BoxE wx gE e) ∧ Aside0 (LogIs wx lb mb (i.toNat + 1) base hdr7 rows7) ∧ Aside0 (RE wx w.heap.size (okA hdr7) v9 Rn) ∧ Aside0 (Below w.heap.size w wx) ∧ Aside0 (base ≤ wx.heap.size))
      case first =>
       cases b2 with
       | true =>
        have hiA : i < (N2 : Int) := of_decide_eq_true HB2.out
        obtain ⟨ad, eA, hx0, hx1, hx2, hx3⟩ := at_T23 (Kd.C_below HC1.out HB9.out) i HI.out.1 hiA
        obtain ⟨y2, hy2⟩ : ∃ y2, rd_T23 asks i = y2 := ⟨_, rfl⟩
        rw [hy2] at hx0 hx1 hx2 hx3
        obtain ⟨gb, hgb⟩ : ∃ gb, goodS y2 = gb := ⟨_, rfl⟩
        have HGB : Aside0 (labOk gb) := ⟨by rw [← hgb]; exact goodS_lab y2⟩
        have HGBF : Aside0 (donjonlaw4_Good.f y2.f0 y2.f1 y2.f2 y2.f3 = some (gb.f0, gb.f1, gb.f2, gb.f3)) := ⟨by rw [goodS_f, hgb]⟩
        have p1 := eq_true HI.out.1
        have q1 := eq_true hiA
        have p2 : decide ((0 : Int) ≤ i) = true := decide_eq_true HI.out.1
        cases eA
        clear hiA hy2 hgb
        go_wp2_with fail
        refine (donjonlaw4_Good.calls y2.f0 y2.f1 y2.f2 y2.f3 gb.f0 gb.f1 gb.f2 gb.f3 _ HGBF.out).mono ?_
        rintro e_ w10 ⟨rfl, hb⟩
        have BX10 := Aside0.mk (BX9.out.below hb)
        have BE10 := Aside0.mk (BE9.out.below hb)
        have HL10 := Aside0.mk (HL9.out.below hb)
        have HR10 := Aside0.mk (Kd.R_below HR9.out hb)
        have HB10 := Aside0.mk (below_step HB9.out hb)
        have HSZ10 := Aside0.mk (Nat.le_trans HSZ9.out (below_size hb))
        clear hb BX9 BE9 HL9 HR9 HB9 HSZ9 hx0 hx1 hx2 hx3
        have x0 : w10.cell? ⟨gL, 0, none⟩ = some (.int .i64 ga.f0) := (blk_cell BX10.out 0).trans rfl
        have x1 : w10.cell? ⟨gL, 1, none⟩ = some (.int .i64 ga.f1) := (blk_cell BX10.out 1).trans rfl
        have x2 : w10.cell? ⟨gL, 2, none⟩ = some (.int .i64 ga.f2) := (blk_cell BX10.out 2).trans rfl
        have x3 : w10.cell? ⟨gL, 3, none⟩ = some (.int .i64 ga.f3) := (blk_cell BX10.out 3).trans rfl
        have fx0 := blk_frozen BX10.out 0
        have fx1 := blk_frozen BX10.out 1
        have fx2 := blk_frozen BX10.out 2
        have fx3 := blk_frozen BX10.out 3
        go_wp2_with fail
        go_meet
        case rel => exact ⟨gb, HGB, ⟨BX10.out.put gb⟩, ⟨blk_far4 BE10.out HGN.out.2.2.1 _ _ _ _ _ _ _ _⟩, ⟨HL10.out.turnA HGN.out.1 HGN.out.2.1 (fun k _ hne => set4_ne hne)⟩, ⟨Kd.R_mono (Kd.R_step HR10.out (fun k hk _ => set4_ne hk.2)) (fun _ hk => hk.1)⟩, ⟨below_set4 HB10.out HGN.out.2.2.2⟩, ⟨by simpa [World.setCell] using HSZ10.out⟩⟩
       | false =>
        go_wp2_with fail
        go_meet
        case rel => exact ⟨ga, HGA, BX9, BE9, HL9, ⟨Kd.R_mono HR9.out (fun _ hk => hk.1)⟩, HB9, HSZ9⟩
      case rest =>
       obtain ⟨a, HAA, BX, BE, HL, HR, HB, HSZ⟩ := hcut
       clear BX9 BE9 HL9 HR9 HB9 HSZ9
       have HX := Aside0.mk HAA.out.wf
       have HT := HT7
       clear HT7
       obtain ⟨A6, c6, rfl⟩ := Kd.R_slice HR.out
       have HLEN0 : Rn.length ≤ 120 := by have := HT.out.len; have := HI.out; have := HI120.out; omega
       obtain ⟨La, hLa⟩ : ∃ La, atL a Rn = La := ⟨_, rfl⟩
       obtain ⟨Sa, hSa⟩ : ∃ Sa, seenR a Rn = Sa := ⟨_, rfl⟩
       obtain ⟨bF, hbF⟩ : ∃ bF, decide ((40 : Int) ≤ (La.length : Int)) = bF := ⟨_, rfl⟩
       obtain ⟨qC, hqC⟩ : ∃ qC, chainE La = qC := ⟨_, rfl⟩
       have HLA : Aside0 (rows7 a = La ∧ atL a Rn = La) := ⟨by rw [HT.out.rows, hLa], hLa⟩
       have HSA := Aside0.mk hSa
       have HCH := Aside0.mk hqC
       have HLEN : Aside0 (Rn.length ≤ 120 ∧ La.length ≤ 120 ∧ Sa.length ≤ 120) := ⟨HLEN0, by rw [← hLa]; exact Nat.le_trans (atL_le a Rn) HLEN0, by rw [← hSa]; exact Nat.le_trans (List.length_filter_le _ _) HLEN0⟩
       have HROW : Aside0 (∀ y, okL y → (rows7 y).length ≤ 1000) := ⟨fun y _ => by rw [HT.out.rows]; have := atL_le y Rn; omega⟩
       have HSZL : Aside0 (∀ x ∈ La, x.f2.size + x.f4.size ≤ 50000000) := ⟨fun x hx => by rw [← hLa] at hx; have := HT.out.size x (mem_atL.1 hx).1; omega⟩
       have HFA : Aside0 (donjonref14_All.f 500 Rn a.f0 a.f1 a.f2 a.f3 = some La) := ⟨by rw [all_f a Rn 500 (by omega) (by omega), hLa]⟩
       have HFS : Aside0 (donjonref14_Seen.f 500 Rn a.f0 a.f1 a.f2 a.f3 = some Sa) := ⟨by rw [seen_f a HAA.out Rn HT.out.lab 500 (by omega) (by omega), hSa]⟩
       have HFB : Aside0 (decide ((40 : Int) ≤ ((rows7 a).length : Int)) = bF) := ⟨by rw [HLA.out.1]; exact hbF⟩
       have HFF : Aside0 (donjonref14_Full.f 500 Rn a.f0 a.f1 a.f2 a.f3 = some bF) := ⟨by rw [full_f a Rn 500 (by omega) (by omega), hLa]; exact congrArg some hbF⟩
       have HFC : Aside0 (donjonref14_Chain.f 500 Rn a.f0 a.f1 a.f2 a.f3 = some qC) := ⟨by rw [chain14_f a Rn HT.out.size 500 (by omega) (by omega), hLa, hqC]⟩
       clear hLa hSa hbF hqC HLEN0
       have x0 : wc.cell? ⟨gL, 0, none⟩ = some (.int .i64 a.f0) := (blk_cell BX.out 0).trans rfl
       have x1 : wc.cell? ⟨gL, 1, none⟩ = some (.int .i64 a.f1) := (blk_cell BX.out 1).trans rfl
       have x2 : wc.cell? ⟨gL, 2, none⟩ = some (.int .i64 a.f2) := (blk_cell BX.out 2).trans rfl
       have x3 : wc.cell? ⟨gL, 3, none⟩ = some (.int .i64 a.f3) := (blk_cell BX.out 3).trans rfl
       go_upto_region 19 with fail
       have HBd : Aside0 (Below wc.heap.size wc wc.drew) := ⟨below_drew1 (Below.refl _ _)⟩
       clear x0 x1 x2 x3
       refine start_ (n := 36) (S := fun w' => w'.cell? ⟨gL, 0, none⟩ = some (.int .i64 a.f0) ∧ w'.cell? ⟨gL, 1, none⟩ = some (.int .i64 a.f1) ∧ w'.cell? ⟨gL, 2, none⟩ = some (.int .i64 a.f2) ∧ w'.cell? ⟨gL, 3, none⟩ = some (.int .i64 a.f3)) (ds := []) #[false, false, false, false, false, false, false, false, false, false, false, false, false, false, false, false, false, false, false, false, false, false, false, false, false, false, false, false, false, false, false, false, false, false, false, false] (by kernel_rfl) rfl rfl ⟨(blk_cell (BX.out.below HBd.out) 0).trans rfl, (blk_cell (BX.out.below HBd.out) 1).trans rfl, (blk_cell (BX.out.below HBd.out) 2).trans rfl, (blk_cell (BX.out.below HBd.out) 3).trans rfl⟩ (fun hHeld => ?_)
       refine with_tabW donjonlaw14_AuditPlays.tab19 donjonlaw14_AuditPlays.bits19 (fun HT_ HW_ => ?_)
       generalize World.drew _ = wd at HBd hHeld ⊢
       refine pure_ (i := 0) (N := some 66) (v := ?_) (a' := ?_) #[true, false, false, false, false, false, false, false, false, false, false, false, false, false, false, false, false, false, false, false, false, false, false, false, false, false, false, false, false, false, false, false, false, false, false, false] rfl rfl (any_of HT_.out (by kernel_rfl)) (fun _ _ _ h => h) (Or.inl ⟨by rfl, ?_⟩) ?_ ?_
       rotate_left
       ·intro w'
        go_simp
        with_reducible rfl
       rotate_left
       ·simp only [Act.put, xset_a, xset_z, xset_s, i64_w, i32_w]
        rfl
       refine pure_ (i := 3) (N := some 69) (v := ?_) (a' := ?_) #[true, false, false, true, false, false, false, false, false, false, false, false, false, false, false, false, false, false, false, false, false, false, false, false, false, false, false, false, false, false, false, false, false, false, false, false] rfl rfl (any_of HT_.out (by kernel_rfl)) (fun _ _ _ h => h) (Or.inl ⟨by rfl, ?_⟩) ?_ ?_
       rotate_left
       ·intro w'
        go_simp
        with_reducible rfl
       rotate_left
       ·simp only [Act.put, xset_a, xset_z, xset_s, i64_w, i32_w]
        rfl
       refine take_ (i := 1) (N := some 67) (v := ?_) (a' := ?_) #[true, true, false, true, false, false, false, false, false, false, false, false, false, false, false, false, false, false, false, false, false, false, false, false, false, false, false, false, false, false, false, false, false, false, false, false] rfl rfl (take_ofW HT_.out HW_.out (by kernel_rfl)) (fun _ _ _ h => h) (Or.inl ⟨by rfl, ?_⟩) hHeld ?_ ?_
       rotate_left
       ·rintro w' ⟨s0, s1, s2, s3⟩
        go_simp
        with_reducible rfl
       rotate_left
       ·simp only [Act.put, xset_a, xset_z, xset_s, i64_w, i32_w]
        rfl
       refine take_ (i := 4) (N := some 70) (v := ?_) (a' := ?_) #[true, true, false, true, true, false, false, false, false, false, false, false, false, false, false, false, false, false, false, false, false, false, false, false, false, false, false, false, false, false, false, false, false, false, false, false] rfl rfl (take_ofW HT_.out HW_.out (by kernel_rfl)) (fun _ _ _ h => h) (Or.inl ⟨by rfl, ?_⟩) hHeld ?_ ?_
       rotate_left
       ·rintro w' ⟨s0, s1, s2, s3⟩
        go_simp
        with_reducible rfl
       rotate_left
       ·simp only [Act.put, xset_a, xset_z, xset_s, i64_w, i32_w]
        rfl
       refine one_ (i := 2) (N := some 68) #[true, true, true, true, true, false, false, false, false, false, false, false, false, false, false, false, false, false, false, false, false, false, false, false, false, false, false, false, false, false, false, false, false, false, false, false] rfl rfl (one_of HT_.out (by kernel_rfl)) (by decide) (fun K hK => ?_)
       refine goes_ Tryd.func14 (by kernel_rfl) rfl #[.pointer (some ⟨lb, 0, none⟩), .agg #[.int .i64 a.f0, .int .i64 a.f1, .int .i64 a.f2, .int .i64 a.f3]] (by rfl) rfl rfl (by (try simp only [List.map_toArray, List.map_cons, List.map_nil]); first | done | rfl) ?_
       refine (log_All_len (HL.out.below HBd.out) HX.out HLA.out.1 rfl (by have := HLEN.out; omega)).mono ?_
       rintro e_ wg2 ⟨A2, c2, rfl, hR, hb⟩
       refine ⟨_, rfl, ?_⟩
       have HC2 : Aside0 (Kd.C k26 wg2 A2 La.length La ∧ La.length ≤ c2) := ⟨(Kd.R_reads' hR).2.2, (Kd.R_reads' hR).2.1⟩
       clear hR
       have HB_ := Aside0.mk (below_step HBd.out hb)
       clear hb HBd
       have HBd := HB_
       clear HB_
       refine hK.out _ _ ⟨(blk_cell (BX.out.below HBd.out) 0).trans rfl, (blk_cell (BX.out.below HBd.out) 1).trans rfl, (blk_cell (BX.out.below HBd.out) 2).trans rfl, (blk_cell (BX.out.below HBd.out) 3).trans rfl⟩ (fun hHeld => ?_)
       clear hK K
       refine norm_ (a' := ?_) ?_ ?_
       rotate_left
       ·show Act.put _ (some 68) _ = _
        simp only [Act.put, xset_a, xset_z, xset_s, i64_w, i32_w]
        rfl
       refine one_ (i := 5) (N := some 71) #[true, true, true, true, true, true, false, false, false, false, false, false, false, false, false, false, false, false, false, false, false, false, false, false, false, false, false, false, false, false, false, false, false, false, false, false] rfl rfl (one_of HT_.out (by kernel_rfl)) (by decide) (fun K hK => ?_)
       refine goes_ Tryd.func24 (by kernel_rfl) rfl #[.slice A6 Rn.length c6, .agg #[.int .i64 a.f0, .int .i64 a.f1, .int .i64 a.f2, .int .i64 a.f3]] (by rfl) rfl rfl (by (try simp only [List.map_toArray, List.map_cons, List.map_nil]); first | done | rfl) ?_
       refine (donjonref14_All.calls 500 A6 c6 Rn a.f0 a.f1 a.f2 a.f3 La _ (Kd.R_reads' (Kd.R_below HR.out HBd.out)).2.2 (Kd.R_reads' (Kd.R_below HR.out HBd.out)).2.1 HFA.out).mono ?_
       rintro e_ wg5 ⟨v5_, rfl, hR, hb⟩
       obtain ⟨A5, c5, rfl⟩ := Kd.R_slice hR
       refine ⟨_, rfl, ?_⟩
       have HC2_ := Aside0.mk (And.intro (Kd.C_below HC2.out.1 hb) HC2.out.2)
       clear HC2
       have HC2 := HC2_
       clear HC2_
       have HC5 : Aside0 (Kd.C k26 wg5 A5 La.length La ∧ La.length ≤ c5) := ⟨(Kd.R_reads' hR).2.2, (Kd.R_reads' hR).2.1⟩
       clear hR
       have HB_ := Aside0.mk (below_step HBd.out hb)
       clear hb HBd
       have HBd := HB_
       clear HB_
       refine hK.out _ _ ⟨(blk_cell (BX.out.below HBd.out) 0).trans rfl, (blk_cell (BX.out.below HBd.out) 1).trans rfl, (blk_cell (BX.out.below HBd.out) 2).trans rfl, (blk_cell (BX.out.below HBd.out) 3).trans rfl⟩ (fun hHeld => ?_)
       clear hK K
       refine norm_ (a' := ?_) ?_ ?_
       rotate_left
       ·show Act.put _ (some 71) _ = _
        simp only [Act.put, xset_a, xset_z, xset_s, i64_w, i32_w]
        rfl
       refine one_ (i := 6) (N := some 72) #[true, true, true, true, true, true, true, false, false, false, false, false, false, false, false, false, false, false, false, false, false, false, false, false, false, false, false, false, false, false, false, false, false, false, false, false] rfl rfl (one_of HT_.out (by kernel_rfl)) (by decide) (fun K hK => ?_)
       refine goes_ Tryd.func21 (by kernel_rfl) rfl #[.slice A2 La.length c2, .slice A5 La.length c5] (by rfl) rfl rfl (by (try simp only [List.map_toArray, List.map_cons, List.map_nil]); first | done | rfl) ?_
       refine (donjonlaw14_same.calls (La.length + 1) A2 c2 La A5 c5 La true _ HC2.out.1 HC2.out.2 HC5.out.1 HC5.out.2 (same_self La (by have := HLEN.out; omega))).mono ?_
       rintro e_ wg6 ⟨rfl, hd⟩
       refine ⟨_, rfl, ?_⟩
       have hb := hd.below
       clear hd HC2 HC5
       have HB_ := Aside0.mk (below_step HBd.out hb)
       clear hb HBd
       have HBd := HB_
       clear HB_
       refine hK.out _ _ ⟨(blk_cell (BX.out.below HBd.out) 0).trans rfl, (blk_cell (BX.out.below HBd.out) 1).trans rfl, (blk_cell (BX.out.below HBd.out) 2).trans rfl, (blk_cell (BX.out.below HBd.out) 3).trans rfl⟩ (fun hHeld => ?_)
       clear hK K
       refine norm_ (a' := ?_) ?_ ?_
       rotate_left
       ·show Act.put _ (some 72) _ = _
        simp only [Act.put, xset_a, xset_z, xset_s, i64_w, i32_w]
        rfl
       refine pure_ (i := 7) (N := some 73) (v := ?_) (a' := ?_) #[true, true, true, true, true, true, true, true, false, false, false, false, false, false, false, false, false, false, false, false, false, false, false, false, false, false, false, false, false, false, false, false, false, false, false, false] rfl rfl (any_of HT_.out (by kernel_rfl)) (fun _ _ _ h => h) (Or.inl ⟨by rfl, ?_⟩) ?_ ?_
       rotate_left
       ·intro w'
        go_simp
        with_reducible rfl
       rotate_left
       ·simp only [Act.put, xset_a, xset_z, xset_s, i64_w, i32_w]
        rfl
       refine pure_ (i := 8) (N := some 74) (v := ?_) (a' := ?_) #[true, true, true, true, true, true, true, true, true, false, false, false, false, false, false, false, false, false, false, false, false, false, false, false, false, false, false, false, false, false, false, false, false, false, false, false] rfl rfl (any_of HT_.out (by kernel_rfl)) (fun _ _ _ h => h) (Or.inl ⟨by rfl, ?_⟩) ?_ ?_
       rotate_left
       ·intro w'
        go_simp
        with_reducible rfl
       rotate_left
       ·simp only [Act.put, xset_a, xset_z, xset_s, i64_w, i32_w]
        rfl
       refine pure_ (i := 9) (N := some 75) (v := ?_) (a' := ?_) #[true, true, true, true, true, true, true, true, true, true, false, false, false, false, false, false, false, false, false, false, false, false, false, false, false, false, false, false, false, false, false, false, false, false, false, false] rfl rfl (any_of HT_.out (by kernel_rfl)) (fun _ _ _ h => h) (Or.inl ⟨by rfl, ?_⟩) ?_ ?_
       rotate_left
       ·intro w'
        go_simp
        with_reducible rfl
       rotate_left
       ·simp only [Act.put, xset_a, xset_z, xset_s, i64_w, i32_w]
        rfl
       refine pure_ (i := 12) (N := some 78) (v := ?_) (a' := ?_) #[true, true, true, true, true, true, true, true, true, true, false, false, true, false, false, false, false, false, false, false, false, false, false, false, false, false, false, false, false, false, false, false, false, false, false, false] rfl rfl (any_of HT_.out (by kernel_rfl)) (fun _ _ _ h => h) (Or.inl ⟨by rfl, ?_⟩) ?_ ?_
       rotate_left
       ·intro w'
        go_simp
        with_reducible rfl
       rotate_left
       ·simp only [Act.put, xset_a, xset_z, xset_s, i64_w, i32_w]
        rfl
       refine take_ (i := 10) (N := some 76) (v := ?_) (a' := ?_) #[true, true, true, true, true, true, true, true, true, true, true, false, true, false, false, false, false, false, false, false, false, false, false, false, false, false, false, false, false, false, false, false, false, false, false, false] rfl rfl (take_ofW HT_.out HW_.out (by kernel_rfl)) (fun _ _ _ h => h) (Or.inl ⟨by rfl, ?_⟩) hHeld ?_ ?_
       rotate_left
       ·rintro w' ⟨s0, s1, s2, s3⟩
        go_simp
        with_reducible rfl
       rotate_left
       ·simp only [Act.put, xset_a, xset_z, xset_s, i64_w, i32_w]
        rfl
       refine take_ (i := 13) (N := some 79) (v := ?_) (a' := ?_) #[true, true, true, true, true, true, true, true, true, true, true, false, true, true, false, false, false, false, false, false, false, false, false, false, false, false, false, false, false, false, false, false, false, false, false, false] rfl rfl (take_ofW HT_.out HW_.out (by kernel_rfl)) (fun _ _ _ h => h) (Or.inl ⟨by rfl, ?_⟩) hHeld ?_ ?_
       rotate_left
       ·rintro w' ⟨s0, s1, s2, s3⟩
        go_simp
        with_reducible rfl
       rotate_left
       ·simp only [Act.put, xset_a, xset_z, xset_s, i64_w, i32_w]
        rfl
       refine one_ (i := 11) (N := some 77) #[true, true, true, true, true, true, true, true, true, true, true, true, true, true, false, false, false, false, false, false, false, false, false, false, false, false, false, false, false, false, false, false, false, false, false, false] rfl rfl (one_of HT_.out (by kernel_rfl)) (by decide) (fun K hK => ?_)
       refine goes_ Tryd.func20 (by kernel_rfl) rfl #[.pointer (some ⟨lb, 0, none⟩), .agg #[.int .i64 a.f0, .int .i64 a.f1, .int .i64 a.f2, .int .i64 a.f3]] (by rfl) rfl rfl (by (try simp only [List.map_toArray, List.map_cons, List.map_nil]); first | done | rfl) ?_
       refine (log_Seen_len (HL.out.below HBd.out) HX.out (by have := HLEN.out; have := HI120.out; omega) HROW.out).mono ?_
       rintro e_ wg11 ⟨A11, m11, c11, ats, sl, rfl, hS, hsl, hm11, hR, hb⟩
       obtain rfl : sl = Sa := by rw [← hsl, HT.out.seen hS, HSA.out]
       subst hm11
       clear hS hsl
       refine ⟨_, rfl, ?_⟩
       have HC11 : Aside0 (Kd.C k26 wg11 A11 sl.length sl ∧ sl.length ≤ c11) := ⟨(Kd.R_reads' hR).2.2, (Kd.R_reads' hR).2.1⟩
       clear hR
       have HB_ := Aside0.mk (below_step HBd.out hb)
       clear hb HBd
       have HBd := HB_
       clear HB_
       refine hK.out _ _ ⟨(blk_cell (BX.out.below HBd.out) 0).trans rfl, (blk_cell (BX.out.below HBd.out) 1).trans rfl, (blk_cell (BX.out.below HBd.out) 2).trans rfl, (blk_cell (BX.out.below HBd.out) 3).trans rfl⟩ (fun hHeld => ?_)
       clear hK K
       refine norm_ (a' := ?_) ?_ ?_
       rotate_left
       ·show Act.put _ (some 77) _ = _
        simp only [Act.put, xset_a, xset_z, xset_s, i64_w, i32_w]
        rfl
       refine one_ (i := 14) (N := some 80) #[true, true, true, true, true, true, true, true, true, true, true, true, true, true, true, false, false, false, false, false, false, false, false, false, false, false, false, false, false, false, false, false, false, false, false, false] rfl rfl (one_of HT_.out (by kernel_rfl)) (by decide) (fun K hK => ?_)
       refine goes_ Tryd.func25 (by kernel_rfl) rfl #[.slice A6 Rn.length c6, .agg #[.int .i64 a.f0, .int .i64 a.f1, .int .i64 a.f2, .int .i64 a.f3]] (by rfl) rfl rfl (by (try simp only [List.map_toArray, List.map_cons, List.map_nil]); first | done | rfl) ?_
       refine (donjonref14_Seen.calls 500 A6 c6 Rn a.f0 a.f1 a.f2 a.f3 sl _ (Kd.R_reads' (Kd.R_below HR.out HBd.out)).2.2 (Kd.R_reads' (Kd.R_below HR.out HBd.out)).2.1 HFS.out).mono ?_
       rintro e_ wg14 ⟨v14_, rfl, hR, hb⟩
       obtain ⟨A14, c14, rfl⟩ := Kd.R_slice hR
       refine ⟨_, rfl, ?_⟩
       have HC11_ := Aside0.mk (And.intro (Kd.C_below HC11.out.1 hb) HC11.out.2)
       clear HC11
       have HC11 := HC11_
       clear HC11_
       have HC14 : Aside0 (Kd.C k26 wg14 A14 sl.length sl ∧ sl.length ≤ c14) := ⟨(Kd.R_reads' hR).2.2, (Kd.R_reads' hR).2.1⟩
       clear hR
       have HB_ := Aside0.mk (below_step HBd.out hb)
       clear hb HBd
       have HBd := HB_
       clear HB_
       refine hK.out _ _ ⟨(blk_cell (BX.out.below HBd.out) 0).trans rfl, (blk_cell (BX.out.below HBd.out) 1).trans rfl, (blk_cell (BX.out.below HBd.out) 2).trans rfl, (blk_cell (BX.out.below HBd.out) 3).trans rfl⟩ (fun hHeld => ?_)
       clear hK K
       refine norm_ (a' := ?_) ?_ ?_
       rotate_left
       ·show Act.put _ (some 80) _ = _
        simp only [Act.put, xset_a, xset_z, xset_s, i64_w, i32_w]
        rfl
       refine one_ (i := 15) (N := some 81) #[true, true, true, true, true, true, true, true, true, true, true, true, true, true, true, true, false, false, false, false, false, false, false, false, false, false, false, false, false, false, false, false, false, false, false, false] rfl rfl (one_of HT_.out (by kernel_rfl)) (by decide) (fun K hK => ?_)
       refine goes_ Tryd.func21 (by kernel_rfl) rfl #[.slice A11 sl.length c11, .slice A14 sl.length c14] (by rfl) rfl rfl (by (try simp only [List.map_toArray, List.map_cons, List.map_nil]); first | done | rfl) ?_
       refine (donjonlaw14_same.calls (sl.length + 1) A11 c11 sl A14 c14 sl true _ HC11.out.1 HC11.out.2 HC14.out.1 HC14.out.2 (same_self sl (by have := HLEN.out; omega))).mono ?_
       rintro e_ wg15 ⟨rfl, hd⟩
       refine ⟨_, rfl, ?_⟩
       have hb := hd.below
       clear hd HC11 HC14
       have HB_ := Aside0.mk (below_step HBd.out hb)
       clear hb HBd
       have HBd := HB_
       clear HB_
       refine hK.out _ _ ⟨(blk_cell (BX.out.below HBd.out) 0).trans rfl, (blk_cell (BX.out.below HBd.out) 1).trans rfl, (blk_cell (BX.out.below HBd.out) 2).trans rfl, (blk_cell (BX.out.below HBd.out) 3).trans rfl⟩ (fun hHeld => ?_)
       clear hK K
       refine norm_ (a' := ?_) ?_ ?_
       rotate_left
       ·show Act.put _ (some 81) _ = _
        simp only [Act.put, xset_a, xset_z, xset_s, i64_w, i32_w]
        rfl
       refine pure_ (i := 16) (N := some 82) (v := ?_) (a' := ?_) #[true, true, true, true, true, true, true, true, true, true, true, true, true, true, true, true, true, false, false, false, false, false, false, false, false, false, false, false, false, false, false, false, false, false, false, false] rfl rfl (any_of HT_.out (by kernel_rfl)) (fun _ _ _ h => h) (Or.inl ⟨by rfl, ?_⟩) ?_ ?_
       rotate_left
       ·intro w'
        go_simp
        with_reducible rfl
       rotate_left
       ·simp only [Act.put, xset_a, xset_z, xset_s, i64_w, i32_w]
        rfl
       refine pure_ (i := 17) (N := some 83) (v := ?_) (a' := ?_) #[true, true, true, true, true, true, true, true, true, true, true, true, true, true, true, true, true, true, false, false, false, false, false, false, false, false, false, false, false, false, false, false, false, false, false, false] rfl rfl (any_of HT_.out (by kernel_rfl)) (fun _ _ _ h => h) (Or.inl ⟨by rfl, ?_⟩) ?_ ?_
       rotate_left
       ·intro w'
        go_simp
        with_reducible rfl
       rotate_left
       ·simp only [Act.put, xset_a, xset_z, xset_s, i64_w, i32_w]
        rfl
       refine pure_ (i := 18) (N := some 84) (v := ?_) (a' := ?_) #[true, true, true, true, true, true, true, true, true, true, true, true, true, true, true, true, true, true, true, false, false, false, false, false, false, false, false, false, false, false, false, false, false, false, false, false] rfl rfl (any_of HT_.out (by kernel_rfl)) (fun _ _ _ h => h) (Or.inl ⟨by rfl, ?_⟩) ?_ ?_
       rotate_left
       ·intro w'
        go_simp
        with_reducible rfl
       rotate_left
       ·simp only [Act.put, xset_a, xset_z, xset_s, i64_w, i32_w]
        rfl
       refine pure_ (i := 19) (N := some 85) (v := ?_) (a' := ?_) #[true, true, true, true, true, true, true, true, true, true, true, true, true, true, true, true, true, true, true, true, false, false, false, false, false, false, false, false, false, false, false, false, false, false, false, false] rfl rfl (any_of HT_.out (by kernel_rfl)) (fun _ _ _ h => h) (Or.inl ⟨by rfl, ?_⟩) ?_ ?_
       rotate_left
       ·intro w'
        go_simp
        with_reducible rfl
       rotate_left
       ·simp only [Act.put, xset_a, xset_z, xset_s, i64_w, i32_w]
        rfl
       refine pure_ (i := 22) (N := some 88) (v := ?_) (a' := ?_) #[true, true, true, true, true, true, true, true, true, true, true, true, true, true, true, true, true, true, true, true, false, false, true, false, false, false, false, false, false, false, false, false, false, false, false, false] rfl rfl (any_of HT_.out (by kernel_rfl)) (fun _ _ _ h => h) (Or.inl ⟨by rfl, ?_⟩) ?_ ?_
       rotate_left
       ·intro w'
        go_simp
        with_reducible rfl
       rotate_left
       ·simp only [Act.put, xset_a, xset_z, xset_s, i64_w, i32_w]
        rfl
       refine take_ (i := 20) (N := some 86) (v := ?_) (a' := ?_) #[true, true, true, true, true, true, true, true, true, true, true, true, true, true, true, true, true, true, true, true, true, false, true, false, false, false, false, false, false, false, false, false, false, false, false, false] rfl rfl (take_ofW HT_.out HW_.out (by kernel_rfl)) (fun _ _ _ h => h) (Or.inl ⟨by rfl, ?_⟩) hHeld ?_ ?_
       rotate_left
       ·rintro w' ⟨s0, s1, s2, s3⟩
        go_simp
        with_reducible rfl
       rotate_left
       ·simp only [Act.put, xset_a, xset_z, xset_s, i64_w, i32_w]
        rfl
       refine take_ (i := 23) (N := some 89) (v := ?_) (a' := ?_) #[true, true, true, true, true, true, true, true, true, true, true, true, true, true, true, true, true, true, true, true, true, false, true, true, false, false, false, false, false, false, false, false, false, false, false, false] rfl rfl (take_ofW HT_.out HW_.out (by kernel_rfl)) (fun _ _ _ h => h) (Or.inl ⟨by rfl, ?_⟩) hHeld ?_ ?_
       rotate_left
       ·rintro w' ⟨s0, s1, s2, s3⟩
        go_simp
        with_reducible rfl
       rotate_left
       ·simp only [Act.put, xset_a, xset_z, xset_s, i64_w, i32_w]
        rfl
       refine one_ (i := 21) (N := some 87) #[true, true, true, true, true, true, true, true, true, true, true, true, true, true, true, true, true, true, true, true, true, true, true, true, false, false, false, false, false, false, false, false, false, false, false, false] rfl rfl (one_of HT_.out (by kernel_rfl)) (by decide) (fun K hK => ?_)
       refine goes_ Tryd.func15 (by kernel_rfl) rfl #[.pointer (some ⟨lb, 0, none⟩), .agg #[.int .i64 a.f0, .int .i64 a.f1, .int .i64 a.f2, .int .i64 a.f3]] (by rfl) rfl rfl (by (try simp only [List.map_toArray, List.map_cons, List.map_nil]); first | done | rfl) ?_
       refine (log_Full_is (HL.out.below HBd.out) HX.out HFB.out).mono ?_
       rintro e_ wg21 ⟨rfl, hb⟩
       refine ⟨_, rfl, ?_⟩
       have HB_ := Aside0.mk (below_step HBd.out hb)
       clear hb HBd
       have HBd := HB_
       clear HB_
       refine hK.out _ _ ⟨(blk_cell (BX.out.below HBd.out) 0).trans rfl, (blk_cell (BX.out.below HBd.out) 1).trans rfl, (blk_cell (BX.out.below HBd.out) 2).trans rfl, (blk_cell (BX.out.below HBd.out) 3).trans rfl⟩ (fun hHeld => ?_)
       clear hK K
       refine norm_ (a' := ?_) ?_ ?_
       rotate_left
       ·show Act.put _ (some 87) _ = _
        simp only [Act.put, xset_a, xset_z, xset_s, i64_w, i32_w]
        rfl
       refine one_ (i := 24) (N := some 90) #[true, true, true, true, true, true, true, true, true, true, true, true, true, true, true, true, true, true, true, true, true, true, true, true, true, false, false, false, false, false, false, false, false, false, false, false] rfl rfl (one_of HT_.out (by kernel_rfl)) (by decide) (fun K hK => ?_)
       refine goes_ Tryd.func26 (by kernel_rfl) rfl #[.slice A6 Rn.length c6, .agg #[.int .i64 a.f0, .int .i64 a.f1, .int .i64 a.f2, .int .i64 a.f3]] (by rfl) rfl rfl (by (try simp only [List.map_toArray, List.map_cons, List.map_nil]); first | done | rfl) ?_
       refine (donjonref14_Full.calls 500 A6 c6 Rn a.f0 a.f1 a.f2 a.f3 bF _ (Kd.R_reads' (Kd.R_below HR.out HBd.out)).2.2 (Kd.R_reads' (Kd.R_below HR.out HBd.out)).2.1 HFF.out).mono ?_
       rintro e_ wg24 ⟨rfl, hb⟩
       refine ⟨_, rfl, ?_⟩
       have HB_ := Aside0.mk (below_step HBd.out hb)
       clear hb HBd
       have HBd := HB_
       clear HB_
       refine hK.out _ _ ⟨(blk_cell (BX.out.below HBd.out) 0).trans rfl, (blk_cell (BX.out.below HBd.out) 1).trans rfl, (blk_cell (BX.out.below HBd.out) 2).trans rfl, (blk_cell (BX.out.below HBd.out) 3).trans rfl⟩ (fun hHeld => ?_)
       clear hK K
       refine norm_ (a' := ?_) ?_ ?_
       rotate_left
       ·show Act.put _ (some 90) _ = _
        simp only [Act.put, xset_a, xset_z, xset_s, i64_w, i32_w]
        rfl
       refine pure_ (i := 25) (N := some 91) (v := ?_) (a' := ?_) #[true, true, true, true, true, true, true, true, true, true, true, true, true, true, true, true, true, true, true, true, true, true, true, true, true, true, false, false, false, false, false, false, false, false, false, false] rfl rfl (any_of HT_.out (by kernel_rfl)) (fun _ _ _ h => h) (Or.inl ⟨by rfl, ?_⟩) ?_ ?_
       rotate_left
       ·intro w'
        go_simp
        with_reducible rfl
       rotate_left
       ·simp only [Act.put, xset_a, xset_z, xset_s, i64_w, i32_w]
        rfl
       refine pure_ (i := 26) (N := some 92) (v := ?_) (a' := ?_) #[true, true, true, true, true, true, true, true, true, true, true, true, true, true, true, true, true, true, true, true, true, true, true, true, true, true, true, false, false, false, false, false, false, false, false, false] rfl rfl (any_of HT_.out (by kernel_rfl)) (fun _ _ _ h => h) (Or.inl ⟨by rfl, ?_⟩) ?_ ?_
       rotate_left
       ·intro w'
        go_simp
        with_reducible rfl
       rotate_left
       ·simp only [Act.put, xset_a, xset_z, xset_s, i64_w, i32_w]
        rfl
       refine pure_ (i := 27) (N := some 93) (v := ?_) (a' := ?_) #[true, true, true, true, true, true, true, true, true, true, true, true, true, true, true, true, true, true, true, true, true, true, true, true, true, true, true, true, false, false, false, false, false, false, false, false] rfl rfl (any_of HT_.out (by kernel_rfl)) (fun _ _ _ h => h) (Or.inl ⟨by rfl, ?_⟩) ?_ ?_
       rotate_left
       ·intro w'
        go_simp
        with_reducible rfl
       rotate_left
       ·simp only [Act.put, xset_a, xset_z, xset_s, i64_w, i32_w]
        rfl
       refine pure_ (i := 28) (N := some 94) (v := ?_) (a' := ?_) #[true, true, true, true, true, true, true, true, true, true, true, true, true, true, true, true, true, true, true, true, true, true, true, true, true, true, true, true, true, false, false, false, false, false, false, false] rfl rfl (any_of HT_.out (by kernel_rfl)) (fun _ _ _ h => h) (Or.inl ⟨by rfl, ?_⟩) ?_ ?_
       rotate_left
       ·intro w'
        go_simp
        with_reducible rfl
       rotate_left
       ·simp only [Act.put, xset_a, xset_z, xset_s, i64_w, i32_w]
        rfl
       refine pure_ (i := 31) (N := some 97) (v := ?_) (a' := ?_) #[true, true, true, true, true, true, true, true, true, true, true, true, true, true, true, true, true, true, true, true, true, true, true, true, true, true, true, true, true, false, false, true, false, false, false, false] rfl rfl (any_of HT_.out (by kernel_rfl)) (fun _ _ _ h => h) (Or.inl ⟨by rfl, ?_⟩) ?_ ?_
       rotate_left
       ·intro w'
        go_simp
        with_reducible rfl
       rotate_left
       ·simp only [Act.put, xset_a, xset_z, xset_s, i64_w, i32_w]
        rfl
       refine take_ (i := 29) (N := some 95) (v := ?_) (a' := ?_) #[true, true, true, true, true, true, true, true, true, true, true, true, true, true, true, true, true, true, true, true, true, true, true, true, true, true, true, true, true, true, false, true, false, false, false, false] rfl rfl (take_ofW HT_.out HW_.out (by kernel_rfl)) (fun _ _ _ h => h) (Or.inl ⟨by rfl, ?_⟩) hHeld ?_ ?_
       rotate_left
       ·rintro w' ⟨s0, s1, s2, s3⟩
        go_simp
        with_reducible rfl
       rotate_left
       ·simp only [Act.put, xset_a, xset_z, xset_s, i64_w, i32_w]
        rfl
       refine take_ (i := 32) (N := some 98) (v := ?_) (a' := ?_) #[true, true, true, true, true, true, true, true, true, true, true, true, true, true, true, true, true, true, true, true, true, true, true, true, true, true, true, true, true, true, false, true, true, false, false, false] rfl rfl (take_ofW HT_.out HW_.out (by kernel_rfl)) (fun _ _ _ h => h) (Or.inl ⟨by rfl, ?_⟩) hHeld ?_ ?_
       rotate_left
       ·rintro w' ⟨s0, s1, s2, s3⟩
        go_simp
        with_reducible rfl
       rotate_left
       ·simp only [Act.put, xset_a, xset_z, xset_s, i64_w, i32_w]
        rfl
       refine one_ (i := 30) (N := some 96) #[true, true, true, true, true, true, true, true, true, true, true, true, true, true, true, true, true, true, true, true, true, true, true, true, true, true, true, true, true, true, true, true, true, false, false, false] rfl rfl (one_of HT_.out (by kernel_rfl)) (by decide) (fun K hK => ?_)
       refine goes_ Tryd.func19 (by kernel_rfl) rfl #[.pointer (some ⟨lb, 0, none⟩), .agg #[.int .i64 a.f0, .int .i64 a.f1, .int .i64 a.f2, .int .i64 a.f3]] (by rfl) rfl rfl (by (try simp only [List.map_toArray, List.map_cons, List.map_nil]); first | done | rfl) ?_
       refine (log_Chain.calls (HL.out.below HBd.out) HX.out HLA.out.1 (by have := HLEN.out; omega) HSZL.out).mono ?_
       rintro e_ wg30 ⟨rfl, hb⟩
       rw [HCH.out]
       refine ⟨_, rfl, ?_⟩
       have HB_ := Aside0.mk (below_step HBd.out hb)
       clear hb HBd
       have HBd := HB_
       clear HB_
       refine hK.out _ _ ⟨(blk_cell (BX.out.below HBd.out) 0).trans rfl, (blk_cell (BX.out.below HBd.out) 1).trans rfl, (blk_cell (BX.out.below HBd.out) 2).trans rfl, (blk_cell (BX.out.below HBd.out) 3).trans rfl⟩ (fun hHeld => ?_)
       clear hK K
       refine norm_ (a' := ?_) ?_ ?_
       rotate_left
       ·show Act.put _ (some 96) _ = _
        simp only [Act.put, xset_a, xset_z, xset_s, i64_w, i32_w]
        rfl
       refine one_ (i := 33) (N := some 99) #[true, true, true, true, true, true, true, true, true, true, true, true, true, true, true, true, true, true, true, true, true, true, true, true, true, true, true, true, true, true, true, true, true, true, false, false] rfl rfl (one_of HT_.out (by kernel_rfl)) (by decide) (fun K hK => ?_)
       refine goes_ Tryd.func27 (by kernel_rfl) rfl #[.slice A6 Rn.length c6, .agg #[.int .i64 a.f0, .int .i64 a.f1, .int .i64 a.f2, .int .i64 a.f3]] (by rfl) rfl rfl (by (try simp only [List.map_toArray, List.map_cons, List.map_nil]); first | done | rfl) ?_
       refine (donjonref14_Chain.calls 500 A6 c6 Rn a.f0 a.f1 a.f2 a.f3 qC _ (Kd.R_reads' (Kd.R_below HR.out HBd.out)).2.2 (Kd.R_reads' (Kd.R_below HR.out HBd.out)).2.1 HFC.out).mono ?_
       rintro e_ wg33 ⟨rfl, hb⟩
       refine ⟨_, rfl, ?_⟩
       have HB_ := Aside0.mk (below_step HBd.out hb)
       clear hb HBd
       have HBd := HB_
       clear HB_
       refine hK.out _ _ ⟨(blk_cell (BX.out.below HBd.out) 0).trans rfl, (blk_cell (BX.out.below HBd.out) 1).trans rfl, (blk_cell (BX.out.below HBd.out) 2).trans rfl, (blk_cell (BX.out.below HBd.out) 3).trans rfl⟩ (fun hHeld => ?_)
       clear hK K
       refine norm_ (a' := ?_) ?_ ?_
       rotate_left
       ·show Act.put _ (some 99) _ = _
        simp only [Act.put, xset_a, xset_z, xset_s, i64_w, i32_w]
        rfl
       refine pure_ (i := 34) (N := some 100) (v := ?_) (a' := ?_) #[true, true, true, true, true, true, true, true, true, true, true, true, true, true, true, true, true, true, true, true, true, true, true, true, true, true, true, true, true, true, true, true, true, true, true, false] rfl rfl (any_of HT_.out (by kernel_rfl)) (fun _ _ _ h => h) (Or.inl ⟨by rfl, ?_⟩) ?_ ?_
       rotate_left
       ·intro w'
        go_simp
        with_reducible rfl
       rotate_left
       ·simp only [Act.put, xset_a, xset_z, xset_s, i64_w, i32_w]
        rfl
       refine pure_ (i := 35) (N := some 101) (v := ?_) (a' := ?_) #[true, true, true, true, true, true, true, true, true, true, true, true, true, true, true, true, true, true, true, true, true, true, true, true, true, true, true, true, true, true, true, true, true, true, true, true] rfl rfl (any_of HT_.out (by kernel_rfl)) (fun _ _ _ h => h) (Or.inl ⟨by rfl, ?_⟩) ?_ ?_
       rotate_left
       ·intro w'
        go_simp
        with_reducible rfl
       rotate_left
       ·simp only [Act.put, xset_a, xset_z, xset_s, i64_w, i32_w]
        rfl
       refine done_ (done_of HT_.out (by kernel_rfl)) ?_
       rcases Classical.em (f = 0) with hf0 | hf0
       ·subst hf0
        have HME : Aside0 (mayE e) := ⟨addF_zero HFV.out⟩
        have hq : ((0 : Int) == 0) = true := rfl
        go_upto_region 21 with fail
        have HBe := Aside0.mk (below_drew1 HBd.out)
        refine start_ (n := 9) (S := fun w' => w'.cell? ⟨gE, 0, none⟩ = some (.int .i64 e.f0) ∧ w'.cell? ⟨gE, 1, none⟩ = some (.int .i64 e.f1.f0) ∧ w'.cell? ⟨gE, 2, none⟩ = some (.int .i64 e.f1.f1) ∧ w'.cell? ⟨gE, 3, none⟩ = some (.int .i64 e.f1.f2) ∧ w'.cell? ⟨gE, 4, none⟩ = some (.int .i64 e.f1.f3) ∧ w'.cell? ⟨gE, 5, none⟩ = some (.string e.f2) ∧ w'.cell? ⟨gE, 6, none⟩ = some (.int .i64 e.f3) ∧ w'.cell? ⟨gE, 7, none⟩ = some (.string e.f4) ∧ w'.cell? ⟨gE, 8, none⟩ = some (.int .i64 e.f5)) (ds := []) #[false, false, false, false, false, false, false, false, false] (by kernel_rfl) rfl rfl ⟨(blk_cell (BE.out.below HBe.out) 0).trans rfl, (blk_cell (BE.out.below HBe.out) 1).trans rfl, (blk_cell (BE.out.below HBe.out) 2).trans rfl, (blk_cell (BE.out.below HBe.out) 3).trans rfl, (blk_cell (BE.out.below HBe.out) 4).trans rfl, (blk_cell (BE.out.below HBe.out) 5).trans rfl, (blk_cell (BE.out.below HBe.out) 6).trans rfl, (blk_cell (BE.out.below HBe.out) 7).trans rfl, (blk_cell (BE.out.below HBe.out) 8).trans rfl⟩ (fun hHeld => ?_)
        refine with_tabW donjonlaw14_AuditPlays.tab21 donjonlaw14_AuditPlays.bits21 (fun HT_ HW_ => ?_)
        generalize World.drew _ = we at HBe hHeld ⊢
        refine pure_ (i := 0) (N := some 102) (v := ?_) (a' := ?_) #[true, false, false, false, false, false, false, false, false] rfl rfl (any_of HT_.out (by kernel_rfl)) (fun _ _ _ h => h) (Or.inl ⟨by rfl, ?_⟩) ?_ ?_
        rotate_left
        ·intro w'
         go_simp
         with_reducible rfl
        rotate_left
        ·simp only [Act.put, xset_a, xset_z, xset_s, i64_w, i32_w]
         rfl
        refine pure_ (i := 1) (N := some 103) (v := ?_) (a' := ?_) #[true, true, false, false, false, false, false, false, false] rfl rfl (any_of HT_.out (by kernel_rfl)) (fun _ _ _ h => h) (Or.inl ⟨by rfl, ?_⟩) ?_ ?_
        rotate_left
        ·intro w'
         go_simp
         with_reducible rfl
        rotate_left
        ·simp only [Act.put, xset_a, xset_z, xset_s, i64_w, i32_w]
         rfl
        refine pure_ (i := 2) (N := some 104) (v := ?_) (a' := ?_) #[true, true, true, false, false, false, false, false, false] rfl rfl (any_of HT_.out (by kernel_rfl)) (fun _ _ _ h => h) (Or.inl ⟨by rfl, ?_⟩) ?_ ?_
        rotate_left
        ·intro w'
         go_simp
         with_reducible rfl
        rotate_left
        ·simp only [Act.put, xset_a, xset_z, xset_s, i64_w, i32_w]
         rfl
        refine take_ (i := 3) (N := some 105) (v := ?_) (a' := ?_) #[true, true, true, true, false, false, false, false, false] rfl rfl (take_ofW HT_.out HW_.out (by kernel_rfl)) (fun _ _ _ h => h) (Or.inl ⟨by rfl, ?_⟩) hHeld ?_ ?_
        rotate_left
        ·rintro w' ⟨s0, s1, s2, s3, s4, s5, s6, s7, s8⟩
         go_simp
         with_reducible rfl
        rotate_left
        ·simp only [Act.put, xset_a, xset_z, xset_s, i64_w, i32_w]
         rfl
        refine take_ (i := 5) (N := some 107) (v := ?_) (a' := ?_) #[true, true, true, true, false, true, false, false, false] rfl rfl (take_ofW HT_.out HW_.out (by kernel_rfl)) (fun _ _ _ h => h) (Or.inl ⟨by rfl, ?_⟩) hHeld ?_ ?_
        rotate_left
        ·rintro w' ⟨s0, s1, s2, s3, s4, s5, s6, s7, s8⟩
         go_simp
         with_reducible rfl
        rotate_left
        ·simp only [Act.put, xset_a, xset_z, xset_s, i64_w, i32_w]
         rfl
        refine one_ (i := 4) (N := some 106) #[true, true, true, true, true, true, false, false, false] rfl rfl (one_of HT_.out (by kernel_rfl)) (by decide) (fun K hK => ?_)
        refine goes_ Tryd.func28 (by kernel_rfl) rfl #[.agg #[.int .i64 e.f0, .int .i64 e.f1.f0, .int .i64 e.f1.f1, .int .i64 e.f1.f2, .int .i64 e.f1.f3, .string e.f2, .int .i64 e.f3, .string e.f4, .int .i64 e.f5]] (by rfl) rfl rfl (by (try simp only [List.map_toArray, List.map_cons, List.map_nil]); first | done | rfl) ?_
        refine (text_run e HME.out HFE.out _ (Laid.below HG.out (below_step HB.out HBe.out))).mono ?_
        rintro e_ wt4 ⟨rfl, hb⟩
        refine ⟨_, rfl, ?_⟩
        have HB_ := Aside0.mk (below_step HBe.out hb)
        clear hb HBe
        have HBe := HB_
        clear HB_
        refine hK.out _ _ ⟨(blk_cell (BE.out.below HBe.out) 0).trans rfl, (blk_cell (BE.out.below HBe.out) 1).trans rfl, (blk_cell (BE.out.below HBe.out) 2).trans rfl, (blk_cell (BE.out.below HBe.out) 3).trans rfl, (blk_cell (BE.out.below HBe.out) 4).trans rfl, (blk_cell (BE.out.below HBe.out) 5).trans rfl, (blk_cell (BE.out.below HBe.out) 6).trans rfl, (blk_cell (BE.out.below HBe.out) 7).trans rfl, (blk_cell (BE.out.below HBe.out) 8).trans rfl⟩ (fun hHeld => ?_)
        clear hK K
        refine norm_ (a' := ?_) ?_ ?_
        rotate_left
        ·show Act.put _ (some 106) _ = _
         simp only [Act.put, xset_a, xset_z, xset_s, i64_w, i32_w]
         rfl
        refine one_ (i := 6) (N := some 108) #[true, true, true, true, true, true, true, false, false] rfl rfl (one_of HT_.out (by kernel_rfl)) (by decide) (fun K hK => ?_)
        refine goes_ Tryd.func29 (by kernel_rfl) rfl #[.agg #[.int .i64 e.f0, .int .i64 e.f1.f0, .int .i64 e.f1.f1, .int .i64 e.f1.f2, .int .i64 e.f1.f3, .string e.f2, .int .i64 e.f3, .string e.f4, .int .i64 e.f5]] (by rfl) rfl rfl (by (try simp only [List.map_toArray, List.map_cons, List.map_nil]); first | done | rfl) ?_
        refine (text14_run e HME.out HFE.out _).mono ?_
        rintro e_ wt6 ⟨rfl, hb⟩
        refine ⟨_, rfl, ?_⟩
        have HB_ := Aside0.mk (below_step HBe.out hb)
        clear hb HBe
        have HBe := HB_
        clear HB_
        refine hK.out _ _ ⟨(blk_cell (BE.out.below HBe.out) 0).trans rfl, (blk_cell (BE.out.below HBe.out) 1).trans rfl, (blk_cell (BE.out.below HBe.out) 2).trans rfl, (blk_cell (BE.out.below HBe.out) 3).trans rfl, (blk_cell (BE.out.below HBe.out) 4).trans rfl, (blk_cell (BE.out.below HBe.out) 5).trans rfl, (blk_cell (BE.out.below HBe.out) 6).trans rfl, (blk_cell (BE.out.below HBe.out) 7).trans rfl, (blk_cell (BE.out.below HBe.out) 8).trans rfl⟩ (fun hHeld => ?_)
        clear hK K
        refine norm_ (a' := ?_) ?_ ?_
        rotate_left
        ·show Act.put _ (some 108) _ = _
         simp only [Act.put, xset_a, xset_z, xset_s, i64_w, i32_w]
         rfl
        refine pure_ (i := 7) (N := some 109) (v := ?_) (a' := ?_) #[true, true, true, true, true, true, true, true, false] rfl rfl (any_of HT_.out (by kernel_rfl)) (fun _ _ _ h => h) (Or.inl ⟨by rfl, ?_⟩) ?_ ?_
        rotate_left
        ·intro w'
         go_simp
         with_reducible rfl
        rotate_left
        ·simp only [Act.put, xset_a, xset_z, xset_s, i64_w, i32_w]
         rfl
        refine pure_ (i := 8) (N := some 110) (v := ?_) (a' := ?_) #[true, true, true, true, true, true, true, true, true] rfl rfl (any_of HT_.out (by kernel_rfl)) (fun _ _ _ h => h) (Or.inl ⟨by rfl, ?_⟩) ?_ ?_
        rotate_left
        ·intro w'
         go_simp
         with_reducible rfl
        rotate_left
        ·simp only [Act.put, xset_a, xset_z, xset_s, i64_w, i32_w]
         rfl
        refine done_ (done_of HT_.out (by kernel_rfl)) ?_
        go_wp2
        go_roundw
        case rel => exact ⟨i + 1, rows7, Rn, by rw [ek], ⟨by have := HI.out; have := HI120.out; omega⟩, ⟨by rw [HIN.out]; exact HT.out⟩, ⟨hdr7, by rw [HIN.out]; exact HL.out.below HBe.out, Kd.R_below HR.out HBe.out⟩, ⟨below_step HB.out HBe.out⟩, ⟨Nat.le_trans HSZ.out (below_size HBe.out)⟩⟩
        case measure =>
         rw [ek]
         have := HI.out
         have := HI120.out
         simp only [intOf]
         omega
       ·have hq : (f == 0) = false := beq_eq_false_iff_ne.2 hf0
        clear hf0
        go_upto_region 21 with fail
        have HBe := Aside0.mk (below_drew1 HBd.out)
        refine start_ (n := 9) (S := fun w' => w'.cell? ⟨gE, 0, none⟩ = some (.int .i64 e.f0) ∧ w'.cell? ⟨gE, 1, none⟩ = some (.int .i64 e.f1.f0) ∧ w'.cell? ⟨gE, 2, none⟩ = some (.int .i64 e.f1.f1) ∧ w'.cell? ⟨gE, 3, none⟩ = some (.int .i64 e.f1.f2) ∧ w'.cell? ⟨gE, 4, none⟩ = some (.int .i64 e.f1.f3) ∧ w'.cell? ⟨gE, 5, none⟩ = some (.string e.f2) ∧ w'.cell? ⟨gE, 6, none⟩ = some (.int .i64 e.f3) ∧ w'.cell? ⟨gE, 7, none⟩ = some (.string e.f4) ∧ w'.cell? ⟨gE, 8, none⟩ = some (.int .i64 e.f5)) (ds := []) #[false, false, false, false, false, false, false, false, false] (by kernel_rfl) rfl rfl ⟨(blk_cell (BE.out.below HBe.out) 0).trans rfl, (blk_cell (BE.out.below HBe.out) 1).trans rfl, (blk_cell (BE.out.below HBe.out) 2).trans rfl, (blk_cell (BE.out.below HBe.out) 3).trans rfl, (blk_cell (BE.out.below HBe.out) 4).trans rfl, (blk_cell (BE.out.below HBe.out) 5).trans rfl, (blk_cell (BE.out.below HBe.out) 6).trans rfl, (blk_cell (BE.out.below HBe.out) 7).trans rfl, (blk_cell (BE.out.below HBe.out) 8).trans rfl⟩ (fun hHeld => ?_)
        refine with_tabW donjonlaw14_AuditPlays.tab21 donjonlaw14_AuditPlays.bits21 (fun HT_ HW_ => ?_)
        generalize World.drew _ = we at HBe hHeld ⊢
        refine pure_ (i := 0) (N := some 102) (v := ?_) (a' := ?_) #[true, false, false, false, false, false, false, false, false] rfl rfl (any_of HT_.out (by kernel_rfl)) (fun _ _ _ h => h) (Or.inl ⟨by rfl, ?_⟩) ?_ ?_
        rotate_left
        ·intro w'
         go_simp
         with_reducible rfl
        rotate_left
        ·simp only [Act.put, xset_a, xset_z, xset_s, i64_w, i32_w]
         rfl
        refine pure_ (i := 1) (N := some 103) (v := ?_) (a' := ?_) #[true, true, false, false, false, false, false, false, false] rfl rfl (any_of HT_.out (by kernel_rfl)) (fun _ _ _ h => h) (Or.inl ⟨by rfl, ?_⟩) ?_ ?_
        rotate_left
        ·intro w'
         go_simp
         with_reducible rfl
        rotate_left
        ·simp only [Act.put, xset_a, xset_z, xset_s, i64_w, i32_w]
         rfl
        refine pure_ (i := 2) (N := some 104) (v := ?_) (a' := ?_) #[true, true, true, false, false, false, false, false, false] rfl rfl (any_of HT_.out (by kernel_rfl)) (fun _ _ _ h => h) (Or.inl ⟨by rfl, ?_⟩) ?_ ?_
        rotate_left
        ·intro w'
         go_simp
         with_reducible rfl
        rotate_left
        ·simp only [Act.put, xset_a, xset_z, xset_s, i64_w, i32_w]
         rfl
        refine pure_ (i := 3) (N := some 105) (v := undef) (a' := ?_) #[true, true, true, true, false, false, false, false, false] rfl rfl (any_of HT_.out (by kernel_rfl)) (fun _ _ _ h => h) (Or.inr ⟨by rfl, rfl⟩) ?_ ?_
        rotate_left
        ·simp only [Act.put, xset_a, xset_z, xset_s, i64_w, i32_w]
         rfl
        refine pure_ (i := 4) (N := some 106) (v := undef) (a' := ?_) #[true, true, true, true, true, false, false, false, false] rfl rfl (any_of HT_.out (by kernel_rfl)) (fun _ _ _ h => h) (Or.inr ⟨by rfl, rfl⟩) ?_ ?_
        rotate_left
        ·simp only [Act.put, xset_a, xset_z, xset_s, i64_w, i32_w]
         rfl
        refine pure_ (i := 5) (N := some 107) (v := undef) (a' := ?_) #[true, true, true, true, true, true, false, false, false] rfl rfl (any_of HT_.out (by kernel_rfl)) (fun _ _ _ h => h) (Or.inr ⟨by rfl, rfl⟩) ?_ ?_
        rotate_left
        ·simp only [Act.put, xset_a, xset_z, xset_s, i64_w, i32_w]
         rfl
        refine pure_ (i := 6) (N := some 108) (v := undef) (a' := ?_) #[true, true, true, true, true, true, true, false, false] rfl rfl (any_of HT_.out (by kernel_rfl)) (fun _ _ _ h => h) (Or.inr ⟨by rfl, rfl⟩) ?_ ?_
        rotate_left
        ·simp only [Act.put, xset_a, xset_z, xset_s, i64_w, i32_w]
         rfl
        refine pure_ (i := 7) (N := some 109) (v := undef) (a' := ?_) #[true, true, true, true, true, true, true, true, false] rfl rfl (any_of HT_.out (by kernel_rfl)) (fun _ _ _ h => h) (Or.inr ⟨by rfl, rfl⟩) ?_ ?_
        rotate_left
        ·simp only [Act.put, xset_a, xset_z, xset_s, i64_w, i32_w]
         rfl
        refine pure_ (i := 8) (N := some 110) (v := ?_) (a' := ?_) #[true, true, true, true, true, true, true, true, true] rfl rfl (any_of HT_.out (by kernel_rfl)) (fun _ _ _ h => h) (Or.inl ⟨by rfl, ?_⟩) ?_ ?_
        rotate_left
        ·intro w'
         go_simp
         with_reducible rfl
        rotate_left
        ·simp only [Act.put, xset_a, xset_z, xset_s, i64_w, i32_w]
         rfl
        refine done_ (done_of HT_.out (by kernel_rfl)) ?_
        go_wp2
        go_roundw
        case rel => exact ⟨i + 1, rows7, Rn, by rw [ek], ⟨by have := HI.out; have := HI120.out; omega⟩, ⟨by rw [HIN.out]; exact HT.out⟩, ⟨hdr7, by rw [HIN.out]; exact HL.out.below HBe.out, Kd.R_below HR.out HBe.out⟩, ⟨below_step HB.out HBe.out⟩, ⟨Nat.le_trans HSZ.out (below_size HBe.out)⟩⟩
        case measure =>
         rw [ek]
         have := HI.out
         have := HI120.out
         simp only [intOf]
         omega
   ·have e2 : decide (i < 120) = false := decide_eq_false hi120
    clear hiN hi120
    go_wp2
    go_ret
    exact ⟨rfl, HB.out⟩
  ·have e1 : decide (i < (N : Int)) = false := decide_eq_false hiN
   clear hiN
   go_wp2
   go_ret
   exact ⟨rfl, HB.out⟩
theorem donjonlaw14_AuditPlays.calls (A0 : Option Addr) (c0 : Nat) (l0 : List (S26)) (A1 : Option Addr) (c1 : Nat) (l1 : List (S23)) (r : Bool) (w : World) (hG : Laid w) (hr0 : Kd.C k26 w A0 l0.length l0) (hc0 : l0.length ≤ c0) (hr1 : Kd.C k23 w A1 l1.length l1) (hc1 : l1.length ≤ c1) (h : donjonlaw14_AuditPlays.f l0 l1 = some r) :
  Calls Tryd.prog 7 #[.slice A0 l0.length c0, .slice A1 l1.length c1] w fun e w' => e = .returned (.bool r) ∧ Below w.heap.size w w' := by
 unfold donjonlaw14_AuditPlays.f at h
 by_cases hf : ∀ e ∈ l0, fits64 e.f0 ∧ e.f2.size + e.f4.size ≤ 4611686018427387904
 ·rw [if_pos hf] at h
  obtain rfl : true = r := Option.some.inj h
  exact AuditPlays.run A0 A1 c0 c1 l0 l1 w hG hr0 hr1 hf
 ·rw [if_neg hf] at h
  cases h

end Go.Proofs.YtihknjmibnonjaaDoor.X
