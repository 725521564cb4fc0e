/- Written by a program of this session over the kit's print: YtinbhijeonghaaaF7. -/
import Derived.Test.YtinbhijeonghaaaH
import Derived.Test.YtinbhijeonghaaaE43
import Derived.Test.YtinbhijeonghaaaF17
import Derived.Test.YtinbhijeonghaaaF24
import Derived.Test.YtinbhijeonghaaaQLaw
import Derived.WalkKit
import Derived.BigCall
import Derived.Test.YtinbhijeonghaaaE43
import Derived.Test.YtinbhijeonghaaaF24
import Derived.Deep.RegionWith
namespace Go.Proofs.Ytinbhijeonghaaa.X
open Go.RowKit Go.Proofs.YtinbhijeonghaaaW.PrintWords Go.Proofs.YtinbhijeonghaaaW.PrintLast Go.Proofs.YtinbhijeonghaaaW.PrintMore Go.Proofs.Ytinbhijeonghaaa.More
attribute [local go_sem] max2_int min2_int max_two min_two max_three min_three max_four min_four binOp_string_leq binOp_string_gtr   -- for this text's walks alone
set_option linter.unusedVariables false
set_option linter.unusedSimpArgs false

/-! ### donjonlaw12_QuotaApart: function 7 -/
open Go.Proofs.Ytinbhijeonghaaa.Pure Go.Proofs.Ytinbhijeonghaaa.Lib Go.Proofs.Ytinbhijeonghaaa.More
def donjonlaw12_QuotaApart.f (a0_0 a0_1 a0_2 a0_3 a1_0 a1_1 a1_2 a1_3 a2 a3 : Int) : Option Bool := some true
attribute [local go_sem high] eqA43
theorem QuotaApart.beside {W w1 : World} {mb cb' mb' n : Nat} {l : List SL} (h : CountsOf W cb' mb' n l) (hg : W.grownBy w1 (some mb)) (h1 : cb' ≠ mb) (h2 : mb' ≠ mb) : CountsOf w1 cb' mb' n l :=
  ⟨(hg.block cb' (Array.getElem?_eq_some_iff.1 h.1).1 (fun e => h1 (Option.some.inj e))).trans h.1, h.2.kept hg (fun e => h2 (Option.some.inj e))⟩
/-- What was counted after k rounds. -/
def QuotaApart.row (a b : SL) (n m k : Int) : List SL := List.replicate (min k n).toNat a ++ List.replicate (min k m).toNat b
theorem QuotaApart.row_count (a b x : SL) (n m k : Int) : (QuotaApart.row a b n m k).count x = (if a = x then (min k n).toNat else 0) + (if b = x then (min k m).toNat else 0) := by
  unfold QuotaApart.row
  rw [List.count_append, List.count_replicate, List.count_replicate]
  simp
theorem QuotaApart.row_length (a b : SL) (n m k : Int) : (QuotaApart.row a b n m k).length = (min k n).toNat + (min k m).toNat := by simp [QuotaApart.row]
theorem QuotaApart.row_ab {a b : SL} {n m k : Int} (h0 : 0 ≤ k) (h1 : k < n) (h2 : k < m) : (b :: a :: QuotaApart.row a b n m k).Perm (QuotaApart.row a b n m (k + 1)) := by
  refine List.perm_iff_count.2 fun x => ?_
  rw [List.count_cons, List.count_cons, QuotaApart.row_count, QuotaApart.row_count]
  by_cases ha : a = x <;> by_cases hb : b = x <;> simp [ha, hb] <;> omega
theorem QuotaApart.row_a {a b : SL} {n m k : Int} (h0 : 0 ≤ k) (h1 : k < n) (h2 : ¬ k < m) : (a :: QuotaApart.row a b n m k).Perm (QuotaApart.row a b n m (k + 1)) := by
  refine List.perm_iff_count.2 fun x => ?_
  rw [List.count_cons, QuotaApart.row_count, QuotaApart.row_count]
  by_cases ha : a = x <;> by_cases hb : b = x <;> simp [ha, hb] <;> omega
theorem QuotaApart.row_b {a b : SL} {n m k : Int} (h0 : 0 ≤ k) (h1 : ¬ k < n) (h2 : k < m) : (b :: QuotaApart.row a b n m k).Perm (QuotaApart.row a b n m (k + 1)) := by
  refine List.perm_iff_count.2 fun x => ?_
  rw [List.count_cons, QuotaApart.row_count, QuotaApart.row_count]
  by_cases ha : a = x <;> by_cases hb : b = x <;> simp [ha, hb] <;> omega
theorem QuotaApart.far4 {w : World} {g g' : Nat} {t : TypeId} {cs : Array Value} (h : w.heap[g]? = some (.cells cs t (0, 0))) (hne : g ≠ g') (v0 v1 v2 v3 : Value) : ((((w.setCell ⟨g', 0, none⟩ v0).setCell ⟨g', 1, none⟩ v1).setCell ⟨g', 2, none⟩ v2).setCell ⟨g', 3, none⟩ v3).heap[g]? = some (.cells cs t (0, 0)) :=
  blk_far (blk_far (blk_far (blk_far h hne _) hne _) hne _) hne _
theorem QuotaApart.within_f (a : Int) : ∃ r, donjonlaw12_within.f a 30 = some r ∧ 0 ≤ r ∧ r < 30 := by
  obtain ⟨r, e, h1, h2, _⟩ := within_small (a := a) (n := 30) (by omega) (by omega)
  exact ⟨r, by unfold donjonlaw12_within.f; exact e, h1, h2⟩
set_option maxHeartbeats 16000000 in
set_option maxRecDepth 100000 in
theorem donjonlaw12_QuotaApart.calls (a0_0 a0_1 a0_2 a0_3 a1_0 a1_1 a1_2 a1_3 a2 a3 : Int) (r : Bool) (w : World) (h : donjonlaw12_QuotaApart.f a0_0 a0_1 a0_2 a0_3 a1_0 a1_1 a1_2 a1_3 a2 a3 = some r) :
    Calls Try.prog 7 #[.agg #[.int .i64 a0_0, .int .i64 a0_1, .int .i64 a0_2, .int .i64 a0_3], .agg #[.int .i64 a1_0, .int .i64 a1_1, .int .i64 a1_2, .int .i64 a1_3], .int .i64 a2, .int .i64 a3] w fun e w' => e = .returned (.bool r) ∧ Below w.heap.size w w' := by
  obtain rfl : true = r := Option.some.inj h
  clear h
  obtain ⟨x, hx⟩ : ∃ x : SL, x = ⟨a0_0, a0_1, a0_2, a0_3⟩ := ⟨_, rfl⟩
  obtain ⟨y, hy⟩ : ∃ y : SL, y = ⟨a1_0, a1_1, a1_2, a1_3⟩ := ⟨_, rfl⟩
  rw [show a0_0 = x.f0 by rw [hx], show a0_1 = x.f1 by rw [hx], show a0_2 = x.f2 by rw [hx], show a0_3 = x.f3 by rw [hx], show a1_0 = y.f0 by rw [hy], show a1_1 = y.f1 by rw [hy], show a1_2 = y.f2 by rw [hy], show a1_3 = y.f3 by rw [hy]]
  clear hx hy
  obtain ⟨a, ha⟩ : ∃ a, goodS x = a := ⟨_, rfl⟩
  obtain ⟨b, hb⟩ : ∃ b, goodS y = b := ⟨_, rfl⟩
  have HGX : Aside0 (donjonlaw4_Good.f x.f0 x.f1 x.f2 x.f3 = some (a.f0, a.f1, a.f2, a.f3)) := ⟨by rw [goodS_f, ha]⟩
  have HGY : Aside0 (donjonlaw4_Good.f y.f0 y.f1 y.f2 y.f3 = some (b.f0, b.f1, b.f2, b.f3)) := ⟨by rw [goodS_f, hb]⟩
  have HOA : Aside0 (okL a) := ⟨by rw [← ha]; exact goodS_ok x⟩
  have HOB : Aside0 (okL b) := ⟨by rw [← hb]; exact goodS_ok y⟩
  clear ha hb
  go_enter Try.func7, Try.ntmps7
  go_wp2_with fail
  refine (known12 _).mono ?_
  rintro e w1 ⟨rfl, hb⟩
  have HB1 := Aside0.mk (below_step (below_alloc (below_alloc (Below.refl _ w) _) _) hb)
  have BA1 := Aside0.mk (blk_below (blk_alloc (blk_new w (.cells #[.int .i64 x.f0, .int .i64 x.f1, .int .i64 x.f2, .int .i64 x.f3] 43)) (.cells #[.int .i64 y.f0, .int .i64 y.f1, .int .i64 y.f2, .int .i64 y.f3] 43)) hb)
  have BB1 : Aside0 (w1.heap[w.heap.size + 1]? = some (.cells #[.int .i64 y.f0, .int .i64 y.f1, .int .i64 y.f2, .int .i64 y.f3] 43 (0, 0))) := ⟨by
    have h1 := blk_below (blk_new (w.alloc (.cells #[.int .i64 x.f0, .int .i64 x.f1, .int .i64 x.f2, .int .i64 x.f3] 43)) (.cells #[.int .i64 y.f0, .int .i64 y.f1, .int .i64 y.f2, .int .i64 y.f3] 43)) hb
    rwa [show (w.alloc (.cells #[.int .i64 x.f0, .int .i64 x.f1, .int .i64 x.f2, .int .i64 x.f3] 43)).heap.size = w.heap.size + 1 by simp] at h1⟩
  clear hb
  go_wp2
  go_cut [15] (fun _ wc => Aside0 (wc.heap[w.heap.size]? = some (.cells #[.int .i64 a.f0, .int .i64 a.f1, .int .i64 a.f2, .int .i64 a.f3] 43 (0, 0))) ∧ Aside0 (wc.heap[w.heap.size + 1]? = some (.cells #[.int .i64 b.f0, .int .i64 b.f1, .int .i64 b.f2, .int .i64 b.f3] 43 (0, 0))) ∧ Aside0 (Below w.heap.size w wc))
  case first =>
    have x0 : w1.drew.cell? ⟨w.heap.size, 0, none⟩ = some (.int .i64 x.f0) := (blk_cell BA1.out 0).trans rfl
    have x1 : w1.drew.cell? ⟨w.heap.size, 1, none⟩ = some (.int .i64 x.f1) := (blk_cell BA1.out 1).trans rfl
    have x2 : w1.drew.cell? ⟨w.heap.size, 2, none⟩ = some (.int .i64 x.f2) := (blk_cell BA1.out 2).trans rfl
    have x3 : w1.drew.cell? ⟨w.heap.size, 3, none⟩ = some (.int .i64 x.f3) := (blk_cell BA1.out 3).trans rfl
    have y0 : w1.drew.cell? ⟨w.heap.size + 1, 0, none⟩ = some (.int .i64 y.f0) := (blk_cell BB1.out 0).trans rfl
    have y1 : w1.drew.cell? ⟨w.heap.size + 1, 1, none⟩ = some (.int .i64 y.f1) := (blk_cell BB1.out 1).trans rfl
    have y2 : w1.drew.cell? ⟨w.heap.size + 1, 2, none⟩ = some (.int .i64 y.f2) := (blk_cell BB1.out 2).trans rfl
    have y3 : w1.drew.cell? ⟨w.heap.size + 1, 3, none⟩ = some (.int .i64 y.f3) := (blk_cell BB1.out 3).trans rfl
    go_region_with (first
      | (go_at_call_of 17 (Value.agg #[Value.int IntKind.i64 x.f0, Value.int IntKind.i64 x.f1, Value.int IntKind.i64 x.f2, Value.int IntKind.i64 x.f3]); (with_reducible refine (donjonlaw4_Good.calls x.f0 x.f1 x.f2 x.f3 a.f0 a.f1 a.f2 a.f3 _ HGX.out).mono ?_); rintro e w2 ⟨rfl, hb2⟩; have BA2 := Aside0.mk (blk_below BA1.out (below_step (below_drew1 (Below.refl _ _)) hb2)); have BB2 := Aside0.mk (blk_below BB1.out (below_step (below_drew1 (Below.refl _ _)) hb2)); have HB2 := Aside0.mk (below_step (below_drew1 HB1.out) hb2); clear hb2; have y20 : w2.cell? ⟨w.heap.size + 1, 0, none⟩ = some (.int .i64 y.f0) := (blk_cell BB2.out 0).trans rfl; have y21 : w2.cell? ⟨w.heap.size + 1, 1, none⟩ = some (.int .i64 y.f1) := (blk_cell BB2.out 1).trans rfl; have y22 : w2.cell? ⟨w.heap.size + 1, 2, none⟩ = some (.int .i64 y.f2) := (blk_cell BB2.out 2).trans rfl; have y23 : w2.cell? ⟨w.heap.size + 1, 3, none⟩ = some (.int .i64 y.f3) := (blk_cell BB2.out 3).trans rfl)
      | (go_at_call_of 17 (Value.agg #[Value.int IntKind.i64 y.f0, Value.int IntKind.i64 y.f1, Value.int IntKind.i64 y.f2, Value.int IntKind.i64 y.f3]); (with_reducible refine (donjonlaw4_Good.calls y.f0 y.f1 y.f2 y.f3 b.f0 b.f1 b.f2 b.f3 _ HGY.out).mono ?_); rintro e w3 ⟨rfl, hb3⟩; have BA3 := Aside0.mk (blk_below BA2.out hb3); have BB3 := Aside0.mk (blk_below BB2.out hb3); have HB3 := Aside0.mk (below_step HB2.out hb3); clear hb3;
         have xx0 : w3.cell? ⟨w.heap.size, 0, none⟩ = some (.int .i64 x.f0) := (blk_cell BA3.out 0).trans rfl; have xx1 : w3.cell? ⟨w.heap.size, 1, none⟩ = some (.int .i64 x.f1) := (blk_cell BA3.out 1).trans rfl; have xx2 : w3.cell? ⟨w.heap.size, 2, none⟩ = some (.int .i64 x.f2) := (blk_cell BA3.out 2).trans rfl; have xx3 : w3.cell? ⟨w.heap.size, 3, none⟩ = some (.int .i64 x.f3) := (blk_cell BA3.out 3).trans rfl;
         have yy0 : w3.cell? ⟨w.heap.size + 1, 0, none⟩ = some (.int .i64 y.f0) := (blk_cell BB3.out 0).trans rfl; have yy1 : w3.cell? ⟨w.heap.size + 1, 1, none⟩ = some (.int .i64 y.f1) := (blk_cell BB3.out 1).trans rfl; have yy2 : w3.cell? ⟨w.heap.size + 1, 2, none⟩ = some (.int .i64 y.f2) := (blk_cell BB3.out 2).trans rfl; have yy3 : w3.cell? ⟨w.heap.size + 1, 3, none⟩ = some (.int .i64 y.f3) := (blk_cell BB3.out 3).trans rfl;
         have fx0 := blk_frozen BA3.out 0; have fx1 := blk_frozen BA3.out 1; have fx2 := blk_frozen BA3.out 2; have fx3 := blk_frozen BA3.out 3; have fy0 := blk_frozen BB3.out 0; have fy1 := blk_frozen BB3.out 1; have fy2 := blk_frozen BB3.out 2; have fy3 := blk_frozen BB3.out 3))
    all_goals
      go_wp2_with fail
      go_meet
      case rel =>
        refine ⟨⟨?_⟩, ⟨?_⟩, ⟨?_⟩⟩
        · first
          | exact QuotaApart.far4 (puts4 BA3.out rfl) (Nat.ne_of_lt (Nat.lt_succ_self _)) _ _ _ _
          | exact puts4 (QuotaApart.far4 BA3.out (Nat.ne_of_lt (Nat.lt_succ_self _)) _ _ _ _) rfl
        · first
          | exact puts4 (QuotaApart.far4 BB3.out (Nat.ne_of_gt (Nat.lt_succ_self _)) _ _ _ _) rfl
          | exact QuotaApart.far4 (puts4 BB3.out rfl) (Nat.ne_of_gt (Nat.lt_succ_self _)) _ _ _ _
        · exact below_set (below_set (below_set (below_set (below_set (below_set (below_set (below_set HB3.out (by omega)) (by omega)) (by omega)) (by omega)) (by omega)) (by omega)) (by omega)) (by omega)
  case rest =>
    obtain ⟨BA, BB, HB⟩ := hcut
    clear BA1 BB1 HB1
    have x0 : wc.cell? ⟨w.heap.size, 0, none⟩ = some (.int .i64 a.f0) := (blk_cell BA.out 0).trans rfl
    have x1 : wc.cell? ⟨w.heap.size, 1, none⟩ = some (.int .i64 a.f1) := (blk_cell BA.out 1).trans rfl
    have x2 : wc.cell? ⟨w.heap.size, 2, none⟩ = some (.int .i64 a.f2) := (blk_cell BA.out 2).trans rfl
    have x3 : wc.cell? ⟨w.heap.size, 3, none⟩ = some (.int .i64 a.f3) := (blk_cell BA.out 3).trans rfl
    have y0 : wc.cell? ⟨w.heap.size + 1, 0, none⟩ = some (.int .i64 b.f0) := (blk_cell BB.out 0).trans rfl
    have y1 : wc.cell? ⟨w.heap.size + 1, 1, none⟩ = some (.int .i64 b.f1) := (blk_cell BB.out 1).trans rfl
    have y2 : wc.cell? ⟨w.heap.size + 1, 2, none⟩ = some (.int .i64 b.f2) := (blk_cell BB.out 2).trans rfl
    have y3 : wc.cell? ⟨w.heap.size + 1, 3, none⟩ = some (.int .i64 b.f3) := (blk_cell BB.out 3).trans rfl
    by_cases hab : a = b
    · have e : (a.f0 == b.f0 && (a.f1 == b.f1 && (a.f2 == b.f2 && (a.f3 == b.f3)))) = true := by rw [eq_beq]; exact decide_eq_true hab
      clear hab
      go_wp2
      go_ret
      exact ⟨rfl, HB.out⟩
    · have e : (a.f0 == b.f0 && (a.f1 == b.f1 && (a.f2 == b.f2 && (a.f3 == b.f3)))) = false := by rw [eq_beq]; exact decide_eq_false hab
      have HAB := Aside0.mk hab
      clear hab
      obtain ⟨n, hn, n0, n1⟩ := QuotaApart.within_f a2
      obtain ⟨m, hm, m0, m1⟩ := QuotaApart.within_f a3
      have HN := Aside0.mk hn
      have HM := Aside0.mk hm
      have HNM := Aside0.mk (And.intro (And.intro n0 n1) (And.intro m0 m1))
      clear hn hm n0 n1 m0 m1
      go_wp2_with fail
      refine (donjonlaw12_within.calls a2 30 n _ HN.out).mono ?_
      rintro e w4 ⟨rfl, hd⟩
      have HB4 := Aside0.mk (below_step HB.out hd.below)
      have BA4 := Aside0.mk (blk_below BA.out hd.below)
      have BB4 := Aside0.mk (blk_below BB.out hd.below)
      clear hd HB BA BB x0 x1 x2 x3 y0 y1 y2 y3
      go_wp2_with fail
      refine (donjonlaw12_within.calls a3 30 m _ HM.out).mono ?_
      rintro e w5 ⟨rfl, hd⟩
      have HB5 := Aside0.mk (below_step HB4.out hd.below)
      have BA5 := Aside0.mk (blk_below BA4.out hd.below)
      have BB5 := Aside0.mk (blk_below BB4.out hd.below)
      clear hd HB4 BA4 BB4
      go_wp2_with fail
      refine (new_list _).mono ?_
      rintro e w6 ⟨cb, mb, rfl, gc, gm, hC, hb⟩
      have HB6 := Aside0.mk (below_step HB5.out hb)
      have BA6 := Aside0.mk (blk_below BA5.out hb)
      have BB6 := Aside0.mk (blk_below BB5.out hb)
      have HC6 := Aside0.mk hC
      have GM := Aside0.mk (Nat.le_trans (below_size HB5.out) gm)
      clear hb hC gc gm HB5 BA5 BB5
      go_wp2_with fail
      refine (new_list _).mono ?_
      rintro e w7 ⟨cb', mb', rfl, gc, gm, hC, hb⟩
      have HNE : Aside0 (cb' ≠ mb ∧ mb' ≠ mb) := ⟨by have h1 : mb < w6.heap.size := MapIs.lt HC6.out.2; exact ⟨by omega, by omega⟩⟩
      have HB7 := Aside0.mk (below_step HB6.out hb)
      have BA7 := Aside0.mk (blk_below BA6.out hb)
      have BB7 := Aside0.mk (blk_below BB6.out hb)
      have HC7 : Aside0 (CountsOf w7 cb mb (QuotaApart.row a b n m 0).length (QuotaApart.row a b n m 0)) := ⟨by
        rw [show QuotaApart.row a b n m 0 = [] by unfold QuotaApart.row; rw [show (min 0 n).toNat = 0 by have := HNM.out; omega, show (min 0 m).toNat = 0 by have := HNM.out; omega]; rfl]
        exact CountsOf.below HC6.out hb⟩
      have HO7 := Aside0.mk hC
      clear hb hC gc gm HB6 BA6 BB6 HC6
      go_wp2
      go_loopw [11] (fun v11 wr => ∃ k : Int, v11 = .int .i64 k ∧ Aside0 (0 ≤ k ∧ k ≤ 30) ∧ Aside0 (CountsOf wr cb mb (QuotaApart.row a b n m k).length (QuotaApart.row a b n m k)) ∧ Aside0 (CountsOf wr cb' mb' 0 []) ∧
        Aside0 (wr.heap[w.heap.size]? = some (.cells #[.int .i64 a.f0, .int .i64 a.f1, .int .i64 a.f2, .int .i64 a.f3] 43 (0, 0))) ∧ Aside0 (wr.heap[w.heap.size + 1]? = some (.cells #[.int .i64 b.f0, .int .i64 b.f1, .int .i64 b.f2, .int .i64 b.f3] 43 (0, 0))) ∧ Aside0 (Below w.heap.size w wr)) (fun v11 _ => 40 - (intOf v11).toNat)
      case atStart => exact ⟨0, rfl, ⟨by omega, by omega⟩, HC7, HO7, BA7, BB7, HB7⟩
      case round =>
        clear HC7 HO7 BA7 BB7 HB7
        obtain ⟨k, rfl, HK, HC, HO, BA, BB, HB⟩ := hrel
        have x0 : wr.cell? ⟨w.heap.size, 0, none⟩ = some (.int .i64 a.f0) := (blk_cell BA.out 0).trans rfl
        have x1 : wr.cell? ⟨w.heap.size, 1, none⟩ = some (.int .i64 a.f1) := (blk_cell BA.out 1).trans rfl
        have x2 : wr.cell? ⟨w.heap.size, 2, none⟩ = some (.int .i64 a.f2) := (blk_cell BA.out 2).trans rfl
        have x3 : wr.cell? ⟨w.heap.size, 3, none⟩ = some (.int .i64 a.f3) := (blk_cell BA.out 3).trans rfl
        have y0 : wr.cell? ⟨w.heap.size + 1, 0, none⟩ = some (.int .i64 b.f0) := (blk_cell BB.out 0).trans rfl
        have y1 : wr.cell? ⟨w.heap.size + 1, 1, none⟩ = some (.int .i64 b.f1) := (blk_cell BB.out 1).trans rfl
        have y2 : wr.cell? ⟨w.heap.size + 1, 2, none⟩ = some (.int .i64 b.f2) := (blk_cell BB.out 2).trans rfl
        have y3 : wr.cell? ⟨w.heap.size + 1, 3, none⟩ = some (.int .i64 b.f3) := (blk_cell BB.out 3).trans rfl
        have ew : wrap64 (k + 1) = k + 1 := wrap64_id (by have := HK.out; omega) (by have := HK.out; omega)
        have HL : Aside0 ((QuotaApart.row a b n m k).length < 100 ∧ (QuotaApart.row a b n m k).length ≤ 100000) := ⟨by rw [QuotaApart.row_length]; have := HNM.out; omega⟩
        have HCA : Aside0 (k < n → (((QuotaApart.row a b n m k).count a + 1 : Nat) : Int) = k + 1) := ⟨fun h => by rw [QuotaApart.row_count, if_pos rfl, if_neg (fun e => HAB.out e.symm)]; have := HK.out; omega⟩
        have HCB : Aside0 (k < m → (((QuotaApart.row a b n m k).count b + 1 : Nat) : Int) = k + 1) := ⟨fun h => by rw [QuotaApart.row_count, if_pos rfl, if_neg HAB.out]; have := HK.out; omega⟩
        by_cases h1 : k < n
        · have e1 : decide (k < n) = true := decide_eq_true h1
          have HH1 := Aside0.mk h1
          go_wp2_with fail
          refine (add_list _ cb mb _ _ HC.out (Nat.lt_of_lt_of_le HL.out.1 (by decide)) HL.out.2 a HOA.out).mono ?_
          rintro e w8 ⟨rfl, hC, hg⟩
          rw [HCA.out h1]
          have HB8 := Aside0.mk (HB.out.grown hg (below_size HB.out) (fun k hk => by cases hk; exact GM.out))
          have BA8 := Aside0.mk (blk_beside HC.out.isMap BA.out hg)
          have BB8 := Aside0.mk (blk_beside HC.out.isMap BB.out hg)
          have HO8 := Aside0.mk (QuotaApart.beside HO.out hg HNE.out.1 HNE.out.2)
          have HC8 := Aside0.mk hC
          clear hC hg HB BA BB HO x0 x1 x2 x3 y0 y1 y2 y3 HC h1
          by_cases h2 : k < m
          · have e2 : decide (k < m) = true := decide_eq_true h2
            have HH2 := Aside0.mk h2
            have y0 : w8.cell? ⟨w.heap.size + 1, 0, none⟩ = some (.int .i64 b.f0) := (blk_cell BB8.out 0).trans rfl
            have y1 : w8.cell? ⟨w.heap.size + 1, 1, none⟩ = some (.int .i64 b.f1) := (blk_cell BB8.out 1).trans rfl
            have y2 : w8.cell? ⟨w.heap.size + 1, 2, none⟩ = some (.int .i64 b.f2) := (blk_cell BB8.out 2).trans rfl
            have y3 : w8.cell? ⟨w.heap.size + 1, 3, none⟩ = some (.int .i64 b.f3) := (blk_cell BB8.out 3).trans rfl
            go_wp2_with fail
            refine (add_list _ cb mb _ _ HC8.out (by have := HL.out.1; unfold maxLen; omega) (by have := HL.out.1; simp only [List.length_cons]; omega) b HOB.out).mono ?_
            rintro e w9 ⟨rfl, hC, hg⟩
            rw [List.count_cons_of_ne HAB.out, HCB.out h2]
            have HB9 := Aside0.mk (HB8.out.grown hg (below_size HB8.out) (fun k hk => by cases hk; exact GM.out))
            have BA9 := Aside0.mk (blk_beside HC8.out.isMap BA8.out hg)
            have BB9 := Aside0.mk (blk_beside HC8.out.isMap BB8.out hg)
            have HO9 := Aside0.mk (QuotaApart.beside HO8.out hg HNE.out.1 HNE.out.2)
            have HP := QuotaApart.row_ab HK.out.1 HH1.out h2 (a := a) (b := b)
            have HC9 : Aside0 (CountsOf w9 cb mb (QuotaApart.row a b n m (k + 1)).length (QuotaApart.row a b n m (k + 1))) := ⟨by rw [← HP.length_eq]; exact hC.perm HP⟩
            clear hC hg HB8 BA8 BB8 HO8 HC8 y0 y1 y2 y3 h2 HP
            go_wp2
            go_roundw
            case rel => exact ⟨k + 1, by rw [ew], ⟨by have := HK.out; omega, by have := HH1.out; have := HNM.out; omega⟩, HC9, HO9, BA9, BB9, HB9⟩
            case measure =>
              rw [ew]
              have := HH1.out
              have := HNM.out
              have := HK.out
              simp only [intOf]
              omega
          · have e2 : decide (k < m) = false := decide_eq_false h2
            have HP := QuotaApart.row_a HK.out.1 HH1.out h2 (a := a) (b := b)
            have HC9 : Aside0 (CountsOf w8 cb mb (QuotaApart.row a b n m (k + 1)).length (QuotaApart.row a b n m (k + 1))) := ⟨by rw [← HP.length_eq]; exact HC8.out.perm HP⟩
            clear h2 HP HC8
            go_wp2
            go_roundw
            case rel => exact ⟨k + 1, by rw [ew], ⟨by have := HK.out; omega, by have := HH1.out; have := HNM.out; omega⟩, HC9, HO8, BA8, BB8, HB8⟩
            case measure =>
              rw [ew]
              have := HH1.out
              have := HNM.out
              have := HK.out
              simp only [intOf]
              omega
        · have e1 : decide (k < n) = false := decide_eq_false h1
          by_cases h2 : k < m
          · have e2 : decide (k < m) = true := decide_eq_true h2
            have HH2 := Aside0.mk h2
            have HP := QuotaApart.row_b HK.out.1 h1 h2 (a := a) (b := b)
            clear h1
            go_wp2_with fail
            refine (add_list _ cb mb _ _ HC.out (Nat.lt_of_lt_of_le HL.out.1 (by decide)) HL.out.2 b HOB.out).mono ?_
            rintro e w8 ⟨rfl, hC, hg⟩
            rw [HCB.out h2]
            have HB8 := Aside0.mk (HB.out.grown hg (below_size HB.out) (fun k hk => by cases hk; exact GM.out))
            have BA8 := Aside0.mk (blk_beside HC.out.isMap BA.out hg)
            have BB8 := Aside0.mk (blk_beside HC.out.isMap BB.out hg)
            have HO8 := Aside0.mk (QuotaApart.beside HO.out hg HNE.out.1 HNE.out.2)
            have HC9 : Aside0 (CountsOf w8 cb mb (QuotaApart.row a b n m (k + 1)).length (QuotaApart.row a b n m (k + 1))) := ⟨by rw [← HP.length_eq]; exact hC.perm HP⟩
            clear hC hg HB BA BB HO x0 x1 x2 x3 y0 y1 y2 y3 HC h2 HP
            go_wp2
            go_roundw
            case rel => exact ⟨k + 1, by rw [ew], ⟨by have := HK.out; omega, by have := HH2.out; have := HNM.out; omega⟩, HC9, HO8, BA8, BB8, HB8⟩
            case measure =>
              rw [ew]
              have := HH2.out
              have := HNM.out
              have := HK.out
              simp only [intOf]
              omega
          · have e2 : decide (k < m) = false := decide_eq_false h2
            have hca : ((QuotaApart.row a b n m k).count a : Int) = n := by rw [QuotaApart.row_count, if_pos rfl, if_neg (fun e => HAB.out e.symm)]; have := HK.out; have := HNM.out; omega
            have hcb : ((QuotaApart.row a b n m k).count b : Int) = m := by rw [QuotaApart.row_count, if_pos rfl, if_neg HAB.out]; have := HK.out; have := HNM.out; omega
            have hlen : (((sortS (QuotaApart.row a b n m k)).length : Nat) : Int) = n + m := by rw [sortS_length, QuotaApart.row_length]; have := HK.out; have := HNM.out; omega
            have HCAE := Aside0.mk hca
            have HCBE := Aside0.mk hcb
            have HLE := Aside0.mk hlen
            have ewn : wrap64 (n + m) = n + m := wrap64_id (by have := HNM.out; omega) (by have := HNM.out; omega)
            clear h1 h2 hca hcb hlen
            go_wp2_with fail
            refine (of_list _ cb mb _ _ HC.out a HOA.out).mono ?_
            rintro e w8 ⟨rfl, hb⟩
            rw [HCAE.out]
            have HB8 := Aside0.mk (below_step HB.out hb)
            have BA8 := Aside0.mk (blk_below BA.out hb)
            have BB8 := Aside0.mk (blk_below BB.out hb)
            have HC8 := Aside0.mk (CountsOf.below HC.out hb)
            have HO8 := Aside0.mk (CountsOf.below HO.out hb)
            clear hb HB BA BB HC HO x0 x1 x2 x3 y0 y1 y2 y3
            have y0 : w8.cell? ⟨w.heap.size + 1, 0, none⟩ = some (.int .i64 b.f0) := (blk_cell BB8.out 0).trans rfl
            have y1 : w8.cell? ⟨w.heap.size + 1, 1, none⟩ = some (.int .i64 b.f1) := (blk_cell BB8.out 1).trans rfl
            have y2 : w8.cell? ⟨w.heap.size + 1, 2, none⟩ = some (.int .i64 b.f2) := (blk_cell BB8.out 2).trans rfl
            have y3 : w8.cell? ⟨w.heap.size + 1, 3, none⟩ = some (.int .i64 b.f3) := (blk_cell BB8.out 3).trans rfl
            go_wp2_with fail
            refine (of_list _ cb mb _ _ HC8.out b HOB.out).mono ?_
            rintro e w9 ⟨rfl, hb⟩
            rw [HCBE.out]
            have HB9 := Aside0.mk (below_step HB8.out hb)
            have BA9 := Aside0.mk (blk_below BA8.out hb)
            have BB9 := Aside0.mk (blk_below BB8.out hb)
            have HC9 := Aside0.mk (CountsOf.below HC8.out hb)
            have HO9 := Aside0.mk (CountsOf.below HO8.out hb)
            clear hb HB8 BA8 BB8 HC8 HO8 y0 y1 y2 y3
            go_wp2_with fail
            refine (all_list _ cb mb _ (sortS (QuotaApart.row a b n m k)) (HC9.out.perm (sortS_perm _).symm) (sortS_sorted _) (fun z hz => by
              have h1 := (sortS_perm _).mem_iff.1 hz
              unfold QuotaApart.row at h1
              rcases List.mem_append.1 h1 with h1 | h1
              · rw [(List.mem_replicate.1 h1).2]; exact HOA.out
              · rw [(List.mem_replicate.1 h1).2]; exact HOB.out) (by
              rw [sortS_length]
              exact Nat.le_trans (Nat.mul_le_mul (Nat.le_of_lt HL.out.1) (Nat.le_of_lt HL.out.1)) (by decide))).mono ?_
            rintro e w10 ⟨v, rfl, hR, hb⟩
            obtain ⟨A, c, ev⟩ := Kd.R_slice hR
            subst ev
            have hlen := HLE.out
            have HB10 := Aside0.mk (below_step HB9.out hb)
            have BA10 := Aside0.mk (blk_below BA9.out hb)
            have BB10 := Aside0.mk (blk_below BB9.out hb)
            have HC10 := Aside0.mk (CountsOf.below HC9.out hb)
            have HO10 := Aside0.mk (CountsOf.below HO9.out hb)
            clear hb HB9 BA9 BB9 HC9 HO9 hR HLE
            generalize (sortS (QuotaApart.row a b n m k)).length = t at hlen ⊢
            have x0 : w10.cell? ⟨w.heap.size, 0, none⟩ = some (.int .i64 a.f0) := (blk_cell BA10.out 0).trans rfl
            have x1 : w10.cell? ⟨w.heap.size, 1, none⟩ = some (.int .i64 a.f1) := (blk_cell BA10.out 1).trans rfl
            have x2 : w10.cell? ⟨w.heap.size, 2, none⟩ = some (.int .i64 a.f2) := (blk_cell BA10.out 2).trans rfl
            have x3 : w10.cell? ⟨w.heap.size, 3, none⟩ = some (.int .i64 a.f3) := (blk_cell BA10.out 3).trans rfl
            go_wp2_with fail
            refine (of_list _ cb' mb' _ _ HO10.out a HOA.out).mono ?_
            rintro e w11 ⟨rfl, hb⟩
            rw [show ((([] : List SL).count a : Nat) : Int) = 0 from rfl]
            have HB11 := Aside0.mk (below_step HB10.out hb)
            have BA11 := Aside0.mk (blk_below BA10.out hb)
            have BB11 := Aside0.mk (blk_below BB10.out hb)
            have HC11 := Aside0.mk (CountsOf.below HC10.out hb)
            have HO11 := Aside0.mk (CountsOf.below HO10.out hb)
            clear hb HB10 BA10 BB10 HC10 HO10 x0 x1 x2 x3
            go_wp2_with fail
            refine (all_list _ cb' mb' _ [] HO11.out List.Pairwise.nil (by simp) (by decide)).mono ?_
            rintro e w12 ⟨v, rfl, hR, hb⟩
            obtain ⟨A', c', ev⟩ := Kd.R_slice hR
            subst ev
            rw [show ([] : List SL).length = 0 from rfl]
            have HB12 := Aside0.mk (below_step HB11.out hb)
            clear hb hR
            go_wp2
            go_ret
            exact ⟨rfl, HB12.out⟩

end Go.Proofs.Ytinbhijeonghaaa.X
