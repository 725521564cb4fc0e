/- Written by a program of this session over the kit's print: YtihknjmibnonjaaDoorF3. -/
import Derived.Test.YtihknjmibnonjaaDoorH
import Derived.Test.YtihknjmibnonjaaDoorE23
import Derived.Test.YtihknjmibnonjaaDoorF9
import Derived.Test.YtihknjmibnonjaaDoorF10
import Derived.Test.YtihknjmibnonjaaDoorALaw
import Derived.WalkKit
import Derived.BigCall
import Derived.Test.YtihknjmibnonjaaDoorE23
import Derived.Test.YtihknjmibnonjaaDoorF10
import Derived.Deep.RegionWith
import Derived.BigQuiet
namespace Go.Proofs.YtihknjmibnonjaaDoor.X
open Go.RowKit Go.Proofs.YtihknjmibnonjaaDoorW.PrintWords Go.Proofs.YtihknjmibnonjaaDoorW.PrintLast Go.Proofs.YtihknjmibnonjaaDoorW.PrintMore Go.Proofs.YtihknjmibnonjaaDoor.More
attribute [local go_sem] max2_int min2_int max_two min_two max_three min_three max_four min_four binOp_string_leq binOp_string_gtr   -- for this text's walks alone
set_option linter.unusedVariables false
set_option linter.unusedSimpArgs false

/-! ### donjonlaw14_AuditFull: function 3 -/
open Go.Proofs.YtihknjmibnonjaaDoor.Pure Go.Proofs.YtihknjmibnonjaaDoor.Lib Go.Proofs.YtihknjmibnonjaaDoor.More
attribute [local go_sem high] eqA23
def donjonlaw14_AuditFull.f (a0 a1_0 a1_1 a1_2 a1_3 a2_0 a2_1 a2_2 a2_3 a3_0 a3_1 a3_2 a3_3 a3_4 : Int) (a3_5 : ByteArray) (a3_6 : Int) (a3_7 : ByteArray) (a3_8 : Int) : Option Bool := some true
set_option maxHeartbeats 16000000 in
set_option maxRecDepth 100000 in
theorem AuditFull.run (n0 : Int) (x y : SL) (z : SE) (w : World) (hG : Laid w) : Calls Tryd.prog 3 #[.int .i64 n0, lv x, lv y, ev z] w fun e w' => e = .returned (.bool true) ∧ Below w.heap.size w w' := by
  obtain ⟨a, ha⟩ : ∃ a, goodS x = a := ⟨_, rfl⟩
  obtain ⟨b, hb⟩ : ∃ b, goodS y = b := ⟨_, rfl⟩
  obtain ⟨gz, hgz⟩ : ∃ gz, goodE z = gz := ⟨_, rfl⟩
  obtain ⟨n, hn⟩ : ∃ n, n0 % 50 = n := ⟨_, rfl⟩
  have HGX : Aside0 (donjonlaw4_Good.f x.f0 x.f1 x.f2 x.f3 = some (a.f0, a.f1, a.f2, a.f3)) := ⟨by rw [goodS_f, ha]⟩
  have HGY : Aside0 (donjonlaw4_Good.f y.f0 y.f1 y.f2 y.f3 = some (b.f0, b.f1, b.f2, b.f3)) := ⟨by rw [goodS_f, hb]⟩
  have HLA : Aside0 (labOk a) := ⟨by rw [← ha]; exact goodS_lab x⟩
  have HLB : Aside0 (labOk b) := ⟨by rw [← hb]; exact goodS_lab y⟩
  have HGZ := Aside0.mk hgz
  have HMZ : Aside0 (mayE gz) := ⟨by rw [← hgz]; exact goodE_may z⟩
  have HN : Aside0 (0 ≤ n ∧ n < 50) := ⟨by omega⟩
  have HNF : Aside0 (donjonlaw14_within.f n0 50 = some n) := ⟨by rw [within14_f n0 50 (by omega) (by omega), hn]⟩
  have HG := Aside0.mk hG
  clear ha hb hgz hn hG
  unfold lv ev
  go_enter Tryd.func3, Tryd.ntmps3
  go_wp2_with fail
  refine (known14 _ (Laid.below HG.out (below_alloc (below_alloc (below_alloc (Below.refl _ _) _) _) _))).mono ?_
  rintro e w1 ⟨rfl, hb⟩
  have HB1 := Aside0.mk (below_step (below_alloc (below_alloc (below_alloc (Below.refl _ w) _) _) _) hb)
  have T1 := Aside0.mk ((Three.made w x y z).below hb)
  clear hb
  go_wp2
  go_cut [0] (fun v0 wc => v0 = .int .i64 n ∧ Aside0 (Three wc w.heap.size a b z) ∧ Aside0 (Below w.heap.size w wc))
  case first =>
    have x0 : w1.drew.cell? ⟨w.heap.size, 0, none⟩ = some (.int .i64 x.f0) := (blk_cell T1.out.a 0).trans rfl
    have x1 : w1.drew.cell? ⟨w.heap.size, 1, none⟩ = some (.int .i64 x.f1) := (blk_cell T1.out.a 1).trans rfl
    have x2 : w1.drew.cell? ⟨w.heap.size, 2, none⟩ = some (.int .i64 x.f2) := (blk_cell T1.out.a 2).trans rfl
    have x3 : w1.drew.cell? ⟨w.heap.size, 3, none⟩ = some (.int .i64 x.f3) := (blk_cell T1.out.a 3).trans rfl
    have y0 : w1.drew.cell? ⟨w.heap.size + 1, 0, none⟩ = some (.int .i64 y.f0) := (blk_cell T1.out.b 0).trans rfl
    have y1 : w1.drew.cell? ⟨w.heap.size + 1, 1, none⟩ = some (.int .i64 y.f1) := (blk_cell T1.out.b 1).trans rfl
    have y2 : w1.drew.cell? ⟨w.heap.size + 1, 2, none⟩ = some (.int .i64 y.f2) := (blk_cell T1.out.b 2).trans rfl
    have y3 : w1.drew.cell? ⟨w.heap.size + 1, 3, none⟩ = some (.int .i64 y.f3) := (blk_cell T1.out.b 3).trans rfl
    go_region_with (first
      | (go_at_call_of 9 (Value.agg #[.int .i64 x.f0, .int .i64 x.f1, .int .i64 x.f2, .int .i64 x.f3]); (with_reducible refine (donjonlaw4_Good.calls x.f0 x.f1 x.f2 x.f3 a.f0 a.f1 a.f2 a.f3 _ HGX.out).mono ?_); rintro e w2 ⟨rfl, hb2⟩; have T2 := Aside0.mk (T1.out.below (below_step (below_drew1 (Below.refl _ _)) hb2)); have HB2 := Aside0.mk (below_step (below_drew1 HB1.out) hb2); clear hb2; have y20 : w2.cell? ⟨w.heap.size + 1, 0, none⟩ = some (.int .i64 y.f0) := (blk_cell T2.out.b 0).trans rfl; have y21 : w2.cell? ⟨w.heap.size + 1, 1, none⟩ = some (.int .i64 y.f1) := (blk_cell T2.out.b 1).trans rfl; have y22 : w2.cell? ⟨w.heap.size + 1, 2, none⟩ = some (.int .i64 y.f2) := (blk_cell T2.out.b 2).trans rfl; have y23 : w2.cell? ⟨w.heap.size + 1, 3, none⟩ = some (.int .i64 y.f3) := (blk_cell T2.out.b 3).trans rfl)
      | (go_at_call_of 9 (Value.agg #[.int .i64 y.f0, .int .i64 y.f1, .int .i64 y.f2, .int .i64 y.f3]); (with_reducible refine (donjonlaw4_Good.calls y.f0 y.f1 y.f2 y.f3 b.f0 b.f1 b.f2 b.f3 _ HGY.out).mono ?_); rintro e w3 ⟨rfl, hb3⟩; have T3 := Aside0.mk (T2.out.below hb3); have HB3 := Aside0.mk (below_step HB2.out hb3); clear hb3)
      | (go_at_call 10; (with_reducible refine (donjonlaw14_within.calls n0 50 n _ HNF.out).mono ?_); rintro e w4 ⟨rfl, hd4⟩; have T4 := Aside0.mk (T3.out.below hd4.below); have HB4 := Aside0.mk (below_step HB3.out hd4.below); clear hd4; have xx0 : w4.cell? ⟨w.heap.size, 0, none⟩ = some (.int .i64 x.f0) := (blk_cell T4.out.a 0).trans rfl; have xx1 : w4.cell? ⟨w.heap.size, 1, none⟩ = some (.int .i64 x.f1) := (blk_cell T4.out.a 1).trans rfl; have xx2 : w4.cell? ⟨w.heap.size, 2, none⟩ = some (.int .i64 x.f2) := (blk_cell T4.out.a 2).trans rfl; have xx3 : w4.cell? ⟨w.heap.size, 3, none⟩ = some (.int .i64 x.f3) := (blk_cell T4.out.a 3).trans rfl; have yy0 : w4.cell? ⟨w.heap.size + 1, 0, none⟩ = some (.int .i64 y.f0) := (blk_cell T4.out.b 0).trans rfl; have yy1 : w4.cell? ⟨w.heap.size + 1, 1, none⟩ = some (.int .i64 y.f1) := (blk_cell T4.out.b 1).trans rfl; have yy2 : w4.cell? ⟨w.heap.size + 1, 2, none⟩ = some (.int .i64 y.f2) := (blk_cell T4.out.b 2).trans rfl; have yy3 : w4.cell? ⟨w.heap.size + 1, 3, none⟩ = some (.int .i64 y.f3) := (blk_cell T4.out.b 3).trans rfl;
         have fx0 := blk_frozen T4.out.a 0; have fx1 := blk_frozen T4.out.a 1; have fx2 := blk_frozen T4.out.a 2; have fx3 := blk_frozen T4.out.a 3; have fy0 := blk_frozen T4.out.b 0; have fy1 := blk_frozen T4.out.b 1; have fy2 := blk_frozen T4.out.b 2; have fy3 := blk_frozen T4.out.b 3))
    all_goals
      go_wp2_with fail
      go_meet
      case rel =>
        refine ⟨rfl, ⟨⟨?_, ?_, ?_⟩⟩, ⟨?_⟩⟩
        · first
          | exact blk_far4 (puts4 T4.out.a rfl) (by omega) _ _ _ _ _ _ _ _
          | exact puts4 (blk_far4 T4.out.a (by omega) _ _ _ _ _ _ _ _) rfl
        · first
          | exact puts4 (blk_far4 T4.out.b (by omega) _ _ _ _ _ _ _ _) rfl
          | exact blk_far4 (puts4 T4.out.b rfl) (by omega) _ _ _ _ _ _ _ _
        · exact blk_far4 (blk_far4 T4.out.e (by omega) _ _ _ _ _ _ _ _) (by omega) _ _ _ _ _ _ _ _
        · exact below_set4 (below_set4 HB4.out (by omega)) (by omega)
  case rest =>
    obtain ⟨rfl, T5, HB5⟩ := hcut
    clear T1 HB1
    have x0 : wc.cell? ⟨w.heap.size, 0, none⟩ = some (.int .i64 a.f0) := (blk_cell T5.out.a 0).trans rfl
    have x1 : wc.cell? ⟨w.heap.size, 1, none⟩ = some (.int .i64 a.f1) := (blk_cell T5.out.a 1).trans rfl
    have x2 : wc.cell? ⟨w.heap.size, 2, none⟩ = some (.int .i64 a.f2) := (blk_cell T5.out.a 2).trans rfl
    have x3 : wc.cell? ⟨w.heap.size, 3, none⟩ = some (.int .i64 a.f3) := (blk_cell T5.out.a 3).trans rfl
    have y0 : wc.cell? ⟨w.heap.size + 1, 0, none⟩ = some (.int .i64 b.f0) := (blk_cell T5.out.b 0).trans rfl
    have y1 : wc.cell? ⟨w.heap.size + 1, 1, none⟩ = some (.int .i64 b.f1) := (blk_cell T5.out.b 1).trans rfl
    have y2 : wc.cell? ⟨w.heap.size + 1, 2, none⟩ = some (.int .i64 b.f2) := (blk_cell T5.out.b 2).trans rfl
    have y3 : wc.cell? ⟨w.heap.size + 1, 3, none⟩ = some (.int .i64 b.f3) := (blk_cell T5.out.b 3).trans rfl
    by_cases hab : a = b
    · have e : (a.f0 == b.f0 && (a.f1 == b.f1 && (a.f2 == b.f2 && (a.f3 == b.f3)))) = true := by rw [eq_beq]; exact decide_eq_true hab
      clear hab
      go_wp2
      go_ret
      exact ⟨rfl, HB5.out⟩
    · have e : (a.f0 == b.f0 && (a.f1 == b.f1 && (a.f2 == b.f2 && (a.f3 == b.f3)))) = false := by rw [eq_beq]; exact decide_eq_false hab
      have HAB := Aside0.mk hab
      clear hab
      go_wp2_with fail
      refine (log_New.calls _).mono ?_
      rintro e_ w6 ⟨lb, mb, rfl, glb, gmb, hL, hb⟩
      have HBASE : Aside0 (w.heap.size + 2 < wc.heap.size) := ⟨by have := blk_lt T5.out.e; omega⟩
      have HB6 := Aside0.mk (below_step HB5.out hb)
      have T6 := Aside0.mk (T5.out.below hb)
      have HL6 : Aside0 (LogIs w6 lb mb 0 wc.heap.size (fun _ => .slice none 0 0) (oneRow a (seqE gz a 0))) := ⟨hL.congr (by funext q; unfold oneRow; split <;> rfl)⟩
      have GM := Aside0.mk gmb
      have GLB := Aside0.mk glb
      have HSZ := Aside0.mk (below_size hb)
      clear hb hL glb gmb e x0 x1 x2 x3 y0 y1 y2 y3
      generalize wc.heap.size = base at HBASE HL6 GM GLB HSZ
      generalize (fun _ => Value.slice none 0 0 : SL → Value) = hdr0 at HL6
      clear T5 HB5
      have z0 : w6.cell? ⟨w.heap.size + 1 + 1, 0, none⟩ = some (.int .i64 z.f0) := (blk_cell T6.out.e 0).trans rfl
      have z1 : w6.cell? ⟨w.heap.size + 1 + 1, 1, none⟩ = some (.int .i64 z.f1.f0) := (blk_cell T6.out.e 1).trans rfl
      have z2 : w6.cell? ⟨w.heap.size + 1 + 1, 2, none⟩ = some (.int .i64 z.f1.f1) := (blk_cell T6.out.e 2).trans rfl
      have z3 : w6.cell? ⟨w.heap.size + 1 + 1, 3, none⟩ = some (.int .i64 z.f1.f2) := (blk_cell T6.out.e 3).trans rfl
      have z4 : w6.cell? ⟨w.heap.size + 1 + 1, 4, none⟩ = some (.int .i64 z.f1.f3) := (blk_cell T6.out.e 4).trans rfl
      have z5 : w6.cell? ⟨w.heap.size + 1 + 1, 5, none⟩ = some (.string z.f2) := (blk_cell T6.out.e 5).trans rfl
      have z6 : w6.cell? ⟨w.heap.size + 1 + 1, 6, none⟩ = some (.int .i64 z.f3) := (blk_cell T6.out.e 6).trans rfl
      have z7 : w6.cell? ⟨w.heap.size + 1 + 1, 7, none⟩ = some (.string z.f4) := (blk_cell T6.out.e 7).trans rfl
      have z8 : w6.cell? ⟨w.heap.size + 1 + 1, 8, none⟩ = some (.int .i64 z.f5) := (blk_cell T6.out.e 8).trans rfl
      go_wp2_with fail
      refine (good_run z _).mono ?_
      rintro e_ w7 ⟨rfl, hb⟩
      rw [HGZ.out]
      unfold ev
      have HB7 := Aside0.mk (below_step HB6.out hb)
      have T7 := Aside0.mk (T6.out.below hb)
      have HL7 := Aside0.mk (HL6.out.below hb)
      have HSZ7 := Aside0.mk (Nat.le_trans HSZ.out (below_size hb))
      clear hb HB6 T6 HL6 HSZ z0 z1 z2 z3 z4 z5 z6 z7 z8
      have z0 : w7.cell? ⟨w.heap.size + 1 + 1, 0, none⟩ = some (.int .i64 z.f0) := (blk_cell T7.out.e 0).trans rfl
      have z1 : w7.cell? ⟨w.heap.size + 1 + 1, 1, none⟩ = some (.int .i64 z.f1.f0) := (blk_cell T7.out.e 1).trans rfl
      have z2 : w7.cell? ⟨w.heap.size + 1 + 1, 2, none⟩ = some (.int .i64 z.f1.f1) := (blk_cell T7.out.e 2).trans rfl
      have z3 : w7.cell? ⟨w.heap.size + 1 + 1, 3, none⟩ = some (.int .i64 z.f1.f2) := (blk_cell T7.out.e 3).trans rfl
      have z4 : w7.cell? ⟨w.heap.size + 1 + 1, 4, none⟩ = some (.int .i64 z.f1.f3) := (blk_cell T7.out.e 4).trans rfl
      have z5 : w7.cell? ⟨w.heap.size + 1 + 1, 5, none⟩ = some (.string z.f2) := (blk_cell T7.out.e 5).trans rfl
      have z6 : w7.cell? ⟨w.heap.size + 1 + 1, 6, none⟩ = some (.int .i64 z.f3) := (blk_cell T7.out.e 6).trans rfl
      have z7 : w7.cell? ⟨w.heap.size + 1 + 1, 7, none⟩ = some (.string z.f4) := (blk_cell T7.out.e 7).trans rfl
      have z8 : w7.cell? ⟨w.heap.size + 1 + 1, 8, none⟩ = some (.int .i64 z.f5) := (blk_cell T7.out.e 8).trans rfl
      have fz0 := blk_frozen T7.out.e 0
      go_wp2_with (refine bigstore_ rfl 26 (.tmp 7) (.tmp 27) rfl (w.heap.size + 1 + 1) #[.int .i64 gz.f0, .int .i64 gz.f1.f0, .int .i64 gz.f1.f1, .int .i64 gz.f1.f2, .int .i64 gz.f1.f3, .string gz.f2, .int .i64 gz.f3, .string gz.f4, .int .i64 gz.f5] rfl rfl 26 _ T7.out.e (by kernel_rfl) rfl (by kernel_rfl) ?_; intro w8 hv_ hk_ hj_ hB_; have T8 : Aside0 (Three w8 w.heap.size a b gz) := ⟨hj_ _ _ T7.out.a (by omega), hj_ _ _ T7.out.b (by omega), hv_⟩; have HB8 := Aside0.mk (hB_ _ _ HB7.out (by omega)); have hk8 := Aside0.mk hk_.1; have hj8 := Aside0.mk hj_; clear hv_ hk_ hj_ hB_)
      have HL8 : Aside0 (LogIs w8 lb mb 0 base hdr0 (oneRow a (seqE gz a 0))) := ⟨HL7.out.turn GLB.out GM.out (fun k hk hlt => by rw [hj8.out k _ (Array.getElem?_eq_getElem hlt) (by have := HBASE.out; omega), Array.getElem?_eq_getElem hlt])⟩
      have HSZ8 : Aside0 (base ≤ w8.heap.size) := ⟨Nat.le_trans HSZ7.out hk8.out⟩
      clear hj8 hk8 HL7 T7 HB7 HSZ7 z0 z1 z2 z3 z4 z5 z6 z7 z8 fz0
      go_wp2
      go_loopw [10] (fun v10 wr => ∃ (k s : Int) (l : SL) (m : Nat), v10 = .int .i64 k ∧ Aside0 (1 ≤ k ∧ k ≤ n + 1 ∧ m = (min (k - 1) 40).toNat) ∧ Aside0 (∃ hdr, LogIs wr lb mb m base hdr (oneRow a (seqE gz a m))) ∧ Aside0 (Three wr w.heap.size a b (reE gz s l)) ∧ Aside0 (Below w.heap.size w wr) ∧ Aside0 (base ≤ wr.heap.size)) (fun v10 _ => 60 - (intOf v10).toNat)
      case atStart => exact ⟨1, gz.f0, gz.f1, 0, rfl, ⟨by have := HN.out; omega⟩, ⟨_, HL8.out⟩, T8, HB8, HSZ8⟩
      case round =>
        clear HL8 T8 HB8 HSZ8
        obtain ⟨k, s, l, m, rfl, HK, HL, T, HB, HSZ⟩ := hrel
        have HX := Aside0.mk HLA.out.wf
        by_cases hk : k ≤ n
        · have e1 : decide (k ≤ n) = true := decide_eq_true hk
          obtain ⟨s1, hs1⟩ : ∃ s1, 1000 - k = s1 := ⟨_, rfl⟩
          have ew : wrap64 (1000 - k) = s1 := by rw [← hs1]; exact wrap64_id (by have := HK.out; have := HN.out; omega) (by have := HK.out; have := HN.out; omega)
          have ek : wrap64 (k + 1) = k + 1 := wrap64_id (by have := HK.out; have := HN.out; omega) (by have := HK.out; have := HN.out; omega)
          have HKN := Aside0.mk hk
          clear hk hs1
          have x0 : wr.cell? ⟨w.heap.size, 0, none⟩ = some (.int .i64 a.f0) := (blk_cell T.out.a 0).trans rfl
          have x1 : wr.cell? ⟨w.heap.size, 1, none⟩ = some (.int .i64 a.f1) := (blk_cell T.out.a 1).trans rfl
          have x2 : wr.cell? ⟨w.heap.size, 2, none⟩ = some (.int .i64 a.f2) := (blk_cell T.out.a 2).trans rfl
          have x3 : wr.cell? ⟨w.heap.size, 3, none⟩ = some (.int .i64 a.f3) := (blk_cell T.out.a 3).trans rfl
          have z0 : wr.cell? ⟨w.heap.size + 1 + 1, 0, none⟩ = some (.int .i64 (reE gz s l).f0) := (blk_cell T.out.e 0).trans rfl
          have z1 : wr.cell? ⟨w.heap.size + 1 + 1, 1, none⟩ = some (.int .i64 (reE gz s l).f1.f0) := (blk_cell T.out.e 1).trans rfl
          have z2 : wr.cell? ⟨w.heap.size + 1 + 1, 2, none⟩ = some (.int .i64 (reE gz s l).f1.f1) := (blk_cell T.out.e 2).trans rfl
          have z3 : wr.cell? ⟨w.heap.size + 1 + 1, 3, none⟩ = some (.int .i64 (reE gz s l).f1.f2) := (blk_cell T.out.e 3).trans rfl
          have z4 : wr.cell? ⟨w.heap.size + 1 + 1, 4, none⟩ = some (.int .i64 (reE gz s l).f1.f3) := (blk_cell T.out.e 4).trans rfl
          have z5 : wr.cell? ⟨w.heap.size + 1 + 1, 5, none⟩ = some (.string (reE gz s l).f2) := (blk_cell T.out.e 5).trans rfl
          have z6 : wr.cell? ⟨w.heap.size + 1 + 1, 6, none⟩ = some (.int .i64 (reE gz s l).f3) := (blk_cell T.out.e 6).trans rfl
          have z7 : wr.cell? ⟨w.heap.size + 1 + 1, 7, none⟩ = some (.string (reE gz s l).f4) := (blk_cell T.out.e 7).trans rfl
          have z8 : wr.cell? ⟨w.heap.size + 1 + 1, 8, none⟩ = some (.int .i64 (reE gz s l).f5) := (blk_cell T.out.e 8).trans rfl
          have fz0 := blk_frozen T.out.e 0
          have fz1 := blk_frozen T.out.e 1
          have fz2 := blk_frozen T.out.e 2
          have fz3 := blk_frozen T.out.e 3
          have fz4 := blk_frozen T.out.e 4
          simp only [reE] at z0 z1 z2 z3 z4 z5 z6 z7 z8
          go_wp2_with fail
          obtain ⟨hdr, hL⟩ := HL.out
          have T9 : Aside0 (Three (((((wr.setCell ⟨w.heap.size + 1 + 1, 1, none⟩ (.int .i64 a.f0)).setCell ⟨w.heap.size + 1 + 1, 2, none⟩ (.int .i64 a.f1)).setCell ⟨w.heap.size + 1 + 1, 3, none⟩ (.int .i64 a.f2)).setCell ⟨w.heap.size + 1 + 1, 4, none⟩ (.int .i64 a.f3)).setCell ⟨w.heap.size + 1 + 1, 0, none⟩ (.int .i64 s1)) w.heap.size a b (reE gz s1 a)) := ⟨(T.out.putL a).putS s1⟩
          have HL9 : Aside0 (LogIs (((((wr.setCell ⟨w.heap.size + 1 + 1, 1, none⟩ (.int .i64 a.f0)).setCell ⟨w.heap.size + 1 + 1, 2, none⟩ (.int .i64 a.f1)).setCell ⟨w.heap.size + 1 + 1, 3, none⟩ (.int .i64 a.f2)).setCell ⟨w.heap.size + 1 + 1, 4, none⟩ (.int .i64 a.f3)).setCell ⟨w.heap.size + 1 + 1, 0, none⟩ (.int .i64 s1)) lb mb m base hdr (oneRow a (seqE gz a m))) := ⟨(hL.set4 GLB.out GM.out (by have := HBASE.out; omega)).set GLB.out GM.out (by have := HBASE.out; omega)⟩
          have HB9 : Aside0 (Below w.heap.size w (((((wr.setCell ⟨w.heap.size + 1 + 1, 1, none⟩ (.int .i64 a.f0)).setCell ⟨w.heap.size + 1 + 1, 2, none⟩ (.int .i64 a.f1)).setCell ⟨w.heap.size + 1 + 1, 3, none⟩ (.int .i64 a.f2)).setCell ⟨w.heap.size + 1 + 1, 4, none⟩ (.int .i64 a.f3)).setCell ⟨w.heap.size + 1 + 1, 0, none⟩ (.int .i64 s1))) := ⟨below_set (below_set4 HB.out (by omega)) (by omega)⟩
          have HSZ9 : Aside0 (base ≤ (((((wr.setCell ⟨w.heap.size + 1 + 1, 1, none⟩ (.int .i64 a.f0)).setCell ⟨w.heap.size + 1 + 1, 2, none⟩ (.int .i64 a.f1)).setCell ⟨w.heap.size + 1 + 1, 3, none⟩ (.int .i64 a.f2)).setCell ⟨w.heap.size + 1 + 1, 4, none⟩ (.int .i64 a.f3)).setCell ⟨w.heap.size + 1 + 1, 0, none⟩ (.int .i64 s1)).heap.size) := ⟨by simpa [World.setCell] using HSZ.out⟩
          clear hL HL T HB HSZ x0 x1 x2 x3 z0 z1 z2 z3 z4 z5 z6 z7 z8 fz0 fz1 fz2 fz3 fz4
          generalize ((((wr.setCell ⟨w.heap.size + 1 + 1, 1, none⟩ (.int .i64 a.f0)).setCell ⟨w.heap.size + 1 + 1, 2, none⟩ (.int .i64 a.f1)).setCell ⟨w.heap.size + 1 + 1, 3, none⟩ (.int .i64 a.f2)).setCell ⟨w.heap.size + 1 + 1, 4, none⟩ (.int .i64 a.f3)).setCell ⟨w.heap.size + 1 + 1, 0, none⟩ (.int .i64 s1) = w9 at T9 HL9 HB9 HSZ9 ⊢
          by_cases h40 : k ≤ 40
          · have e2 : decide (k ≤ 40) = true := decide_eq_true h40
            have HM : Aside0 (m < 40 ∧ m + 1 = (min (k + 1 - 1) 40).toNat) := ⟨by have := HK.out; omega⟩
            clear h40
            refine (log_Add_ok HL9.out (reE gz s1 a) (reE_may _ HMZ.out HLA.out) (by show (oneRow a (seqE gz a m) a).length < 40; rw [oneRow_at, seqE_length]; exact HM.out.1) (by have := HM.out.1; unfold maxLen; omega) HSZ9.out).mono ?_
            rintro e_ w10 ⟨rfl, hdr2, hL, hS, hok⟩
            have HL10 : Aside0 (∃ hdr, LogIs w10 lb mb (m + 1) base hdr (oneRow a (seqE gz a (m + 1)))) := ⟨hdr2, hL.congr (oneRow_add (reE gz s1 a) a m s1)⟩
            have T10 := Aside0.mk (T9.out.low hS HL9.out GM.out HBASE.out)
            have HB10 := Aside0.mk (hS.below HB9.out (below_size HB9.out) HL9.out (by have := GM.out; have := HBASE.out; omega) (by have := HBASE.out; omega))
            have HSZ10 := Aside0.mk (Nat.le_trans HSZ9.out hS.size)
            clear hL hS hok T9 HL9 HB9 HSZ9 hdr2
            go_wp2
            go_roundw
            case rel => exact ⟨k + 1, s1, a, m + 1, by rw [ek], ⟨by have := HK.out; omega, by have := HKN.out; omega, HM.out.2⟩, HL10, T10, HB10, HSZ10⟩
            case measure =>
              rw [ek]
              have := HKN.out
              have := HN.out
              have := HK.out
              simp only [intOf]
              omega
          · have e2 : decide (k ≤ 40) = false := decide_eq_false h40
            have HM : Aside0 (m = 40 ∧ m = (min (k + 1 - 1) 40).toNat) := ⟨by have := HK.out; omega⟩
            clear h40
            refine (log_Add_full HL9.out (reE gz s1 a) (reE_may _ HMZ.out HLA.out) (by show 40 ≤ (oneRow a (seqE gz a m) a).length; rw [oneRow_at, seqE_length]; exact Nat.le_of_eq HM.out.1.symm)).mono ?_
            rintro e_ w10 ⟨rfl, hb⟩
            have HL10 : Aside0 (∃ hdr, LogIs w10 lb mb m base hdr (oneRow a (seqE gz a m))) := ⟨_, HL9.out.below hb⟩
            have T10 := Aside0.mk (T9.out.below hb)
            have HB10 := Aside0.mk (below_step HB9.out hb)
            have HSZ10 := Aside0.mk (Nat.le_trans HSZ9.out (below_size hb))
            clear hb T9 HL9 HB9 HSZ9
            go_wp2
            go_roundw
            case rel => exact ⟨k + 1, s1, a, m, by rw [ek], ⟨by have := HK.out; omega, by have := HKN.out; omega, HM.out.2⟩, HL10, T10, HB10, HSZ10⟩
            case measure =>
              rw [ek]
              have := HKN.out
              have := HN.out
              have := HK.out
              simp only [intOf]
              omega
        · have e1 : decide (k ≤ n) = false := decide_eq_false hk
          have HM : Aside0 (m = (min n 40).toNat ∧ m ≤ 40 ∧ (m : Int) ≤ n) := ⟨by have := HK.out; have := HN.out; omega⟩
          clear hk HK
          obtain ⟨hdr, hL⟩ := HL.out
          have HLR := Aside0.mk hL
          clear hL HL
          have x0 : wr.cell? ⟨w.heap.size, 0, none⟩ = some (.int .i64 a.f0) := (blk_cell T.out.a 0).trans rfl
          have x1 : wr.cell? ⟨w.heap.size, 1, none⟩ = some (.int .i64 a.f1) := (blk_cell T.out.a 1).trans rfl
          have x2 : wr.cell? ⟨w.heap.size, 2, none⟩ = some (.int .i64 a.f2) := (blk_cell T.out.a 2).trans rfl
          have x3 : wr.cell? ⟨w.heap.size, 3, none⟩ = some (.int .i64 a.f3) := (blk_cell T.out.a 3).trans rfl
          go_wp2_with fail
          refine (log_All_len HLR.out HX.out (oneRow_at _ _) (seqE_length _ _ _) (by have := HM.out; omega)).mono ?_
          rintro e_ w11 ⟨A, c, rfl, hR, hb⟩
          have HLB11 := Aside0.mk (HLR.out.below hb)
          have T11 := Aside0.mk (T.out.below hb)
          have HB11 := Aside0.mk (below_step HB.out hb)
          have HSZ11 := Aside0.mk (Nat.le_trans HSZ.out (below_size hb))
          have HC11 : Aside0 (Kd.C k26 w11 A m (seqE gz a m)) := ⟨by have h1 := (Kd.R_reads' hR).2.2; rwa [seqE_length] at h1⟩
          clear hb hR HLR T HB HSZ x0 x1 x2 x3
          go_wp2
          go_loopw [13] (fun v13 wr => ∃ (k : Int), v13 = .int .i64 k ∧ Aside0 (0 ≤ k ∧ k ≤ (m : Int)) ∧ Aside0 (LogIs wr lb mb m base hdr (oneRow a (seqE gz a m))) ∧ Aside0 (Three wr w.heap.size a b (reE gz s l)) ∧ Aside0 (Below w.heap.size w wr) ∧ Aside0 (base ≤ wr.heap.size) ∧ Aside0 (Kd.C k26 wr A m (seqE gz a m))) (fun v13 _ => 60 - (intOf v13).toNat)
          case atStart => exact ⟨0, rfl, ⟨by omega⟩, HLB11, T11, HB11, HSZ11, HC11⟩
          case round =>
            clear HLB11 T11 HB11 HSZ11 HC11
            obtain ⟨k, rfl, HK, HLR, T, HB, HSZ, HC⟩ := hrel
            by_cases hk : k < (m : Int)
            · have e1 : decide (k < (m : Int)) = true := decide_eq_true hk
              have ek : wrap64 (k + 1) = k + 1 := wrap64_id (by have := HK.out; have := HM.out; omega) (by have := HK.out; have := HM.out; omega)
              have HKM := Aside0.mk hk
              obtain ⟨ad, eA, hx0, hx1, hx2, hx3, hx4, hx5, hx6, hx7, hx8⟩ := at_T26 HC.out k HK.out.1 hk
              rw [seqE_rd gz a m k HK.out.1 hk] at hx0 hx1 hx2 hx3 hx4 hx5 hx6 hx7 hx8
              simp only [reE] at hx0 hx1 hx2 hx3 hx4 hx5 hx6 hx7 hx8
              have p1 : decide (0 ≤ k) = true := decide_eq_true HK.out.1
              have p2 := eq_true HK.out.1
              have q2 := eq_true hk
              clear hk
              cases eA
              have x0 : wr.cell? ⟨w.heap.size, 0, none⟩ = some (.int .i64 a.f0) := (blk_cell T.out.a 0).trans rfl
              have x1 : wr.cell? ⟨w.heap.size, 1, none⟩ = some (.int .i64 a.f1) := (blk_cell T.out.a 1).trans rfl
              have x2 : wr.cell? ⟨w.heap.size, 2, none⟩ = some (.int .i64 a.f2) := (blk_cell T.out.a 2).trans rfl
              have x3 : wr.cell? ⟨w.heap.size, 3, none⟩ = some (.int .i64 a.f3) := (blk_cell T.out.a 3).trans rfl
              have z0 : wr.cell? ⟨w.heap.size + 1 + 1, 0, none⟩ = some (.int .i64 (reE gz s l).f0) := (blk_cell T.out.e 0).trans rfl
              have z1 : wr.cell? ⟨w.heap.size + 1 + 1, 1, none⟩ = some (.int .i64 (reE gz s l).f1.f0) := (blk_cell T.out.e 1).trans rfl
              have z2 : wr.cell? ⟨w.heap.size + 1 + 1, 2, none⟩ = some (.int .i64 (reE gz s l).f1.f1) := (blk_cell T.out.e 2).trans rfl
              have z3 : wr.cell? ⟨w.heap.size + 1 + 1, 3, none⟩ = some (.int .i64 (reE gz s l).f1.f2) := (blk_cell T.out.e 3).trans rfl
              have z4 : wr.cell? ⟨w.heap.size + 1 + 1, 4, none⟩ = some (.int .i64 (reE gz s l).f1.f3) := (blk_cell T.out.e 4).trans rfl
              have z5 : wr.cell? ⟨w.heap.size + 1 + 1, 5, none⟩ = some (.string (reE gz s l).f2) := (blk_cell T.out.e 5).trans rfl
              have z6 : wr.cell? ⟨w.heap.size + 1 + 1, 6, none⟩ = some (.int .i64 (reE gz s l).f3) := (blk_cell T.out.e 6).trans rfl
              have z7 : wr.cell? ⟨w.heap.size + 1 + 1, 7, none⟩ = some (.string (reE gz s l).f4) := (blk_cell T.out.e 7).trans rfl
              have z8 : wr.cell? ⟨w.heap.size + 1 + 1, 8, none⟩ = some (.int .i64 (reE gz s l).f5) := (blk_cell T.out.e 8).trans rfl
              simp only [reE] at z0 z1 z2 z3 z4 z5 z6 z7 z8
              go_wp2
              go_quiet (fail)
              go_wp2
              go_roundw
              case rel => exact ⟨k + 1, by rw [ek], ⟨by have := HK.out; have := HKM.out; omega⟩, ⟨HLR.out.below (pw_below_drewN (Below.refl _ _) _)⟩, ⟨T.out.below (pw_below_drewN (Below.refl _ _) _)⟩, ⟨pw_below_drewN HB.out _⟩, ⟨HSZ.out⟩, ⟨Kd.C_below HC.out (pw_below_drewN (Below.refl _ _) _)⟩⟩
              case measure =>
                rw [ek]
                have := HK.out
                have := HKM.out
                have := HM.out
                simp only [intOf]
                omega
            · have e1 : decide (k < (m : Int)) = false := decide_eq_false hk
              clear hk HK HC
              have x0 : wr.cell? ⟨w.heap.size, 0, none⟩ = some (.int .i64 a.f0) := (blk_cell T.out.a 0).trans rfl
              have x1 : wr.cell? ⟨w.heap.size, 1, none⟩ = some (.int .i64 a.f1) := (blk_cell T.out.a 1).trans rfl
              have x2 : wr.cell? ⟨w.heap.size, 2, none⟩ = some (.int .i64 a.f2) := (blk_cell T.out.a 2).trans rfl
              have x3 : wr.cell? ⟨w.heap.size, 3, none⟩ = some (.int .i64 a.f3) := (blk_cell T.out.a 3).trans rfl
              have y0 : wr.cell? ⟨w.heap.size + 1, 0, none⟩ = some (.int .i64 b.f0) := (blk_cell T.out.b 0).trans rfl
              have y1 : wr.cell? ⟨w.heap.size + 1, 1, none⟩ = some (.int .i64 b.f1) := (blk_cell T.out.b 1).trans rfl
              have y2 : wr.cell? ⟨w.heap.size + 1, 2, none⟩ = some (.int .i64 b.f2) := (blk_cell T.out.b 2).trans rfl
              have y3 : wr.cell? ⟨w.heap.size + 1, 3, none⟩ = some (.int .i64 b.f3) := (blk_cell T.out.b 3).trans rfl
              have z0 : wr.cell? ⟨w.heap.size + 1 + 1, 0, none⟩ = some (.int .i64 (reE gz s l).f0) := (blk_cell T.out.e 0).trans rfl
              have z1 : wr.cell? ⟨w.heap.size + 1 + 1, 1, none⟩ = some (.int .i64 (reE gz s l).f1.f0) := (blk_cell T.out.e 1).trans rfl
              have z2 : wr.cell? ⟨w.heap.size + 1 + 1, 2, none⟩ = some (.int .i64 (reE gz s l).f1.f1) := (blk_cell T.out.e 2).trans rfl
              have z3 : wr.cell? ⟨w.heap.size + 1 + 1, 3, none⟩ = some (.int .i64 (reE gz s l).f1.f2) := (blk_cell T.out.e 3).trans rfl
              have z4 : wr.cell? ⟨w.heap.size + 1 + 1, 4, none⟩ = some (.int .i64 (reE gz s l).f1.f3) := (blk_cell T.out.e 4).trans rfl
              have z5 : wr.cell? ⟨w.heap.size + 1 + 1, 5, none⟩ = some (.string (reE gz s l).f2) := (blk_cell T.out.e 5).trans rfl
              have z6 : wr.cell? ⟨w.heap.size + 1 + 1, 6, none⟩ = some (.int .i64 (reE gz s l).f3) := (blk_cell T.out.e 6).trans rfl
              have z7 : wr.cell? ⟨w.heap.size + 1 + 1, 7, none⟩ = some (.string (reE gz s l).f4) := (blk_cell T.out.e 7).trans rfl
              have z8 : wr.cell? ⟨w.heap.size + 1 + 1, 8, none⟩ = some (.int .i64 (reE gz s l).f5) := (blk_cell T.out.e 8).trans rfl
              have fz1 := blk_frozen T.out.e 1
              have fz2 := blk_frozen T.out.e 2
              have fz3 := blk_frozen T.out.e 3
              have fz4 := blk_frozen T.out.e 4
              simp only [reE] at z0 z1 z2 z3 z4 z5 z6 z7 z8
              obtain ⟨bf, hbf⟩ : ∃ bf, decide ((40 : Int) ≤ n) = bf := ⟨_, rfl⟩
              have hmn : (if (40 : Int) < n then 40 else n) = (m : Int) := by have := HM.out; have := HN.out; split <;> omega
              have HBF : Aside0 (decide ((40 : Int) ≤ (m : Int)) = bf) := ⟨by rw [← hbf]; have := HM.out; have := HN.out; exact decide_eq_decide.2 (by omega)⟩
              go_wp2_with fail
              have T12 : Aside0 (Three (((((wr.setCell ⟨w.heap.size + 1 + 1, 1, none⟩ (.int .i64 b.f0)).setCell ⟨w.heap.size + 1 + 1, 2, none⟩ (.int .i64 b.f1)).setCell ⟨w.heap.size + 1 + 1, 3, none⟩ (.int .i64 b.f2)).setCell ⟨w.heap.size + 1 + 1, 4, none⟩ (.int .i64 b.f3))) w.heap.size a b (reE gz s b)) := ⟨T.out.putL b⟩
              have HL12 : Aside0 (LogIs (((((wr.setCell ⟨w.heap.size + 1 + 1, 1, none⟩ (.int .i64 b.f0)).setCell ⟨w.heap.size + 1 + 1, 2, none⟩ (.int .i64 b.f1)).setCell ⟨w.heap.size + 1 + 1, 3, none⟩ (.int .i64 b.f2)).setCell ⟨w.heap.size + 1 + 1, 4, none⟩ (.int .i64 b.f3))) lb mb m base hdr (oneRow a (seqE gz a m))) := ⟨HLR.out.set4 GLB.out GM.out (by have := HBASE.out; omega)⟩
              have HB12 : Aside0 (Below w.heap.size w (((((wr.setCell ⟨w.heap.size + 1 + 1, 1, none⟩ (.int .i64 b.f0)).setCell ⟨w.heap.size + 1 + 1, 2, none⟩ (.int .i64 b.f1)).setCell ⟨w.heap.size + 1 + 1, 3, none⟩ (.int .i64 b.f2)).setCell ⟨w.heap.size + 1 + 1, 4, none⟩ (.int .i64 b.f3)))) := ⟨below_set4 HB.out (by omega)⟩
              have HSZ12 : Aside0 (base ≤ (((((wr.setCell ⟨w.heap.size + 1 + 1, 1, none⟩ (.int .i64 b.f0)).setCell ⟨w.heap.size + 1 + 1, 2, none⟩ (.int .i64 b.f1)).setCell ⟨w.heap.size + 1 + 1, 3, none⟩ (.int .i64 b.f2)).setCell ⟨w.heap.size + 1 + 1, 4, none⟩ (.int .i64 b.f3))).heap.size) := ⟨by simpa [World.setCell] using HSZ.out⟩
              clear T HLR HB HSZ x0 x1 x2 x3 y0 y1 y2 y3 z0 z1 z2 z3 z4 z5 z6 z7 z8 fz1 fz2 fz3 fz4
              generalize ((((wr.setCell ⟨w.heap.size + 1 + 1, 1, none⟩ (.int .i64 b.f0)).setCell ⟨w.heap.size + 1 + 1, 2, none⟩ (.int .i64 b.f1)).setCell ⟨w.heap.size + 1 + 1, 3, none⟩ (.int .i64 b.f2)).setCell ⟨w.heap.size + 1 + 1, 4, none⟩ (.int .i64 b.f3)) = w12 at T12 HL12 HB12 HSZ12 ⊢
              refine (log_Full_is HL12.out HX.out (b := bf) (by rw [oneRow_at, seqE_length]; exact HBF.out)).mono ?_
              rintro e_ w13 ⟨rfl, hb⟩
              have T13 := Aside0.mk (T12.out.below hb)
              have HL13 := Aside0.mk (HL12.out.below hb)
              have HB13 := Aside0.mk (below_step HB12.out hb)
              have HSZ13 := Aside0.mk (Nat.le_trans HSZ12.out (below_size hb))
              clear hb T12 HL12 HB12 HSZ12
              have y0 : w13.cell? ⟨w.heap.size + 1, 0, none⟩ = some (.int .i64 b.f0) := (blk_cell T13.out.b 0).trans rfl
              have y1 : w13.cell? ⟨w.heap.size + 1, 1, none⟩ = some (.int .i64 b.f1) := (blk_cell T13.out.b 1).trans rfl
              have y2 : w13.cell? ⟨w.heap.size + 1, 2, none⟩ = some (.int .i64 b.f2) := (blk_cell T13.out.b 2).trans rfl
              have y3 : w13.cell? ⟨w.heap.size + 1, 3, none⟩ = some (.int .i64 b.f3) := (blk_cell T13.out.b 3).trans rfl
              go_wp2_with fail
              refine (log_Full_is HL13.out HLB.out.wf (b := false) (by rw [oneRow_ne (fun e => HAB.out e.symm)]; rfl)).mono ?_
              rintro e_ w14 ⟨rfl, hb⟩
              have T14 := Aside0.mk (T13.out.below hb)
              have HL14 := Aside0.mk (HL13.out.below hb)
              have HB14 := Aside0.mk (below_step HB13.out hb)
              have HSZ14 := Aside0.mk (Nat.le_trans HSZ13.out (below_size hb))
              clear hb T13 HL13 HB13 HSZ13 y0 y1 y2 y3
              have z0 : w14.cell? ⟨w.heap.size + 1 + 1, 0, none⟩ = some (.int .i64 (reE gz s b).f0) := (blk_cell T14.out.e 0).trans rfl
              have z1 : w14.cell? ⟨w.heap.size + 1 + 1, 1, none⟩ = some (.int .i64 (reE gz s b).f1.f0) := (blk_cell T14.out.e 1).trans rfl
              have z2 : w14.cell? ⟨w.heap.size + 1 + 1, 2, none⟩ = some (.int .i64 (reE gz s b).f1.f1) := (blk_cell T14.out.e 2).trans rfl
              have z3 : w14.cell? ⟨w.heap.size + 1 + 1, 3, none⟩ = some (.int .i64 (reE gz s b).f1.f2) := (blk_cell T14.out.e 3).trans rfl
              have z4 : w14.cell? ⟨w.heap.size + 1 + 1, 4, none⟩ = some (.int .i64 (reE gz s b).f1.f3) := (blk_cell T14.out.e 4).trans rfl
              have z5 : w14.cell? ⟨w.heap.size + 1 + 1, 5, none⟩ = some (.string (reE gz s b).f2) := (blk_cell T14.out.e 5).trans rfl
              have z6 : w14.cell? ⟨w.heap.size + 1 + 1, 6, none⟩ = some (.int .i64 (reE gz s b).f3) := (blk_cell T14.out.e 6).trans rfl
              have z7 : w14.cell? ⟨w.heap.size + 1 + 1, 7, none⟩ = some (.string (reE gz s b).f4) := (blk_cell T14.out.e 7).trans rfl
              have z8 : w14.cell? ⟨w.heap.size + 1 + 1, 8, none⟩ = some (.int .i64 (reE gz s b).f5) := (blk_cell T14.out.e 8).trans rfl
              simp only [reE] at z0 z1 z2 z3 z4 z5 z6 z7 z8
              go_wp2_with fail
              refine (log_Add_ok HL14.out (reE gz s b) (reE_may _ HMZ.out HLB.out) (by show (oneRow a (seqE gz a m) b).length < 40; rw [oneRow_ne (fun e => HAB.out e.symm)]; decide) (by have := HM.out; have := HN.out; unfold maxLen; omega) HSZ14.out).mono ?_
              rintro e_ w15 ⟨rfl, hdr2, hL, hS, hok⟩
              have HL15 := Aside0.mk hL
              have T15 := Aside0.mk (T14.out.low hS HL14.out GM.out HBASE.out)
              have HB15 := Aside0.mk (hS.below HB14.out (below_size HB14.out) HL14.out (by have := GM.out; have := HBASE.out; omega) (by have := HBASE.out; omega))
              clear hL hS hok T14 HL14 HB14 HSZ14 z0 z1 z2 z3 z4 z5 z6 z7 z8
              have y0 : w15.cell? ⟨w.heap.size + 1, 0, none⟩ = some (.int .i64 b.f0) := (blk_cell T15.out.b 0).trans rfl
              have y1 : w15.cell? ⟨w.heap.size + 1, 1, none⟩ = some (.int .i64 b.f1) := (blk_cell T15.out.b 1).trans rfl
              have y2 : w15.cell? ⟨w.heap.size + 1, 2, none⟩ = some (.int .i64 b.f2) := (blk_cell T15.out.b 2).trans rfl
              have y3 : w15.cell? ⟨w.heap.size + 1, 3, none⟩ = some (.int .i64 b.f3) := (blk_cell T15.out.b 3).trans rfl
              go_wp2_with fail
              refine (log_All_len HL15.out HLB.out.wf (l := [reE gz 1 b]) (oneRow_new (fun e => HAB.out e.symm) (reE gz s b) _) (m := 1) rfl (by decide)).mono ?_
              rintro e_ w16 ⟨A2, c2, rfl, hR, hb⟩
              have HB16 := Aside0.mk (below_step HB15.out hb)
              clear hb hR HL15 T15 HB15 y0 y1 y2 y3
              go_wp2
              go_ret
              exact ⟨rfl, HB16.out⟩
theorem donjonlaw14_AuditFull.calls (a0 a1_0 a1_1 a1_2 a1_3 a2_0 a2_1 a2_2 a2_3 a3_0 a3_1 a3_2 a3_3 a3_4 : Int) (a3_5 : ByteArray) (a3_6 : Int) (a3_7 : ByteArray) (a3_8 : Int) (r : Bool) (w : World) (hG : Laid w) (h : donjonlaw14_AuditFull.f a0 a1_0 a1_1 a1_2 a1_3 a2_0 a2_1 a2_2 a2_3 a3_0 a3_1 a3_2 a3_3 a3_4 a3_5 a3_6 a3_7 a3_8 = some r) :
    Calls Tryd.prog 3 #[.int .i64 a0, .agg #[.int .i64 a1_0, .int .i64 a1_1, .int .i64 a1_2, .int .i64 a1_3], .agg #[.int .i64 a2_0, .int .i64 a2_1, .int .i64 a2_2, .int .i64 a2_3], .agg #[.int .i64 a3_0, .int .i64 a3_1, .int .i64 a3_2, .int .i64 a3_3, .int .i64 a3_4, .string a3_5, .int .i64 a3_6, .string a3_7, .int .i64 a3_8]] w fun e w' => e = .returned (.bool r) ∧ Below w.heap.size w w' := by
  obtain rfl : true = r := Option.some.inj h
  exact AuditFull.run a0 ⟨a1_0, a1_1, a1_2, a1_3⟩ ⟨a2_0, a2_1, a2_2, a2_3⟩ ⟨a3_0, ⟨a3_1, a3_2, a3_3, a3_4⟩, a3_5, a3_6, a3_7, a3_8⟩ w hG

end Go.Proofs.YtihknjmibnonjaaDoor.X
