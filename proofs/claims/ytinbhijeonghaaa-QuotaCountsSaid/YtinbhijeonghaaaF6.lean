/- Written by a program of this session over the kit's print: YtinbhijeonghaaaF6. -/
import Derived.Test.YtinbhijeonghaaaH
import Derived.Test.YtinbhijeonghaaaE43
import Derived.Test.YtinbhijeonghaaaF17
import Derived.Test.YtinbhijeonghaaaF18
import Derived.Test.YtinbhijeonghaaaF20
import Derived.Test.YtinbhijeonghaaaF23
import Derived.Test.YtinbhijeonghaaaQLaw
import Derived.WalkKit
import Derived.BigCall
import Derived.Test.YtinbhijeonghaaaE43
import Derived.Test.YtinbhijeonghaaaF23
namespace Go.Proofs.Ytinbhijeonghaaa.X
open Go.RowKit Go.Proofs.YtinbhijeonghaaaW.PrintWords Go.Proofs.YtinbhijeonghaaaW.PrintLast Go.Proofs.YtinbhijeonghaaaW.PrintMore Go.Proofs.Ytinbhijeonghaaa.More
attribute [local go_sem] max2_int min2_int max_two min_two max_three min_three max_four min_four binOp_string_leq binOp_string_gtr   -- for this text's walks alone
set_option linter.unusedVariables false
set_option linter.unusedSimpArgs false

/-! ### donjonlaw12_QuotaCounts: function 6 -/
open Go.Proofs.Ytinbhijeonghaaa.Pure Go.Proofs.Ytinbhijeonghaaa.Lib Go.Proofs.Ytinbhijeonghaaa.More
def donjonlaw12_QuotaCounts.f (l0 : List (S43)) (a1_0 a1_1 a1_2 a1_3 : Int) : Option Bool := some true
def donjonlaw12_QuotaCounts.T10 : Bool × List (List Nat × List Nat) := (true, [([], []), ([], []), ([0, 1], [0, 1]), ([], []), ([], []), ([3, 4, 2], [3, 4]), ([2, 5], [2, 5]), ([6, 5], [6]), ([7], [7]), ([7], [7]), ([9, 7, 7], [7, 9]), ([8, 10, 10, 7], [7, 8, 10]), ([7], [7]), ([7], [7]), ([13, 11, 7], [7, 13]), ([12, 14, 14, 7], [7, 12, 14]), ([11, 15, 7], [7, 11, 15]), ([7, 16], [7, 16])])
def donjonlaw12_QuotaCounts.B10 : List Nat := [0, 0, 3, 0, 0, 31, 63, 127, 255, 255, 767, 2047, 255, 255, 12287, 32767, 65535, 131071]
theorem donjonlaw12_QuotaCounts.tab10 : rtab .any (opsOf Try.f6 10) = donjonlaw12_QuotaCounts.T10 := by kernel_rfl
theorem donjonlaw12_QuotaCounts.bits10 : waitsOk donjonlaw12_QuotaCounts.T10.2 donjonlaw12_QuotaCounts.B10 = true := by kernel_rfl
def donjonlaw12_QuotaCounts.T18 : Bool × List (List Nat × List Nat) := (true, [([], []), ([], []), ([0, 1], [0, 1]), ([2], [2]), ([], []), ([], []), ([4, 5], [4, 5]), ([6], [6]), ([3, 7], [3, 7]), ([8], [8]), ([9], [9]), ([10, 9], [9, 10]), ([11, 9, 9], [9, 11]), ([12], [12]), ([12], [12]), ([13, 14, 12], [12, 13, 14]), ([15, 12], [12, 15]), ([12], [12]), ([12], [12]), ([18, 12], [12, 18]), ([17, 19, 12], [12, 17, 19]), ([20, 12], [12, 20]), ([16, 21, 12, 12], [12, 16, 21]), ([12, 22, 9], [9, 12, 22]), ([9, 23], [9, 23])])
def donjonlaw12_QuotaCounts.B18 : List Nat := [0, 0, 3, 7, 0, 0, 48, 112, 255, 511, 1023, 2047, 4095, 8191, 8191, 32767, 65535, 8191, 8191, 270335, 925695, 1974271, 4194303, 8388607, 16777215]
theorem donjonlaw12_QuotaCounts.tab18 : rtab .any (opsOf Try.f6 18) = donjonlaw12_QuotaCounts.T18 := by kernel_rfl
theorem donjonlaw12_QuotaCounts.bits18 : waitsOk donjonlaw12_QuotaCounts.T18.2 donjonlaw12_QuotaCounts.B18 = true := by kernel_rfl
attribute [local go_sem high] eqA43
set_option maxHeartbeats 16000000 in
set_option maxRecDepth 100000 in
theorem donjonlaw12_QuotaCounts.calls (A0 : Option Addr) (c0 : Nat) (l0 : List (S43)) (a1_0 a1_1 a1_2 a1_3 : Int) (r : Bool) (w : World) (hr0 : Kd.C k43 w A0 l0.length l0) (hc0 : l0.length ≤ c0) (h : donjonlaw12_QuotaCounts.f l0 a1_0 a1_1 a1_2 a1_3 = some r) :
    Calls Try.prog 6 #[.slice A0 l0.length c0, .agg #[.int .i64 a1_0, .int .i64 a1_1, .int .i64 a1_2, .int .i64 a1_3]] w fun e w' => e = .returned (.bool r) ∧ Below w.heap.size w w' := by
  obtain rfl : true = r := Option.some.inj h
  clear h
  obtain ⟨ask, hask⟩ : ∃ x : SL, x = ⟨a1_0, a1_1, a1_2, a1_3⟩ := ⟨_, rfl⟩
  rw [show a1_0 = ask.f0 by rw [hask], show a1_1 = ask.f1 by rw [hask], show a1_2 = ask.f2 by rw [hask], show a1_3 = ask.f3 by rw [hask]]
  clear hask
  have HR0 := Aside0.mk hr0
  have HLEN0 := Aside0.mk hr0.2.1
  clear hr0
  go_enter Try.func6, Try.ntmps6
  go_wp2_with fail
  refine (known12 _).mono ?_
  rintro e w1 ⟨rfl, hb⟩
  have HB1 := Aside0.mk (below_step (below_alloc (Below.refl _ w) _) hb)
  have BK1 := Aside0.mk (blk_below (blk_new w (.cells #[.int .i64 ask.f0, .int .i64 ask.f1, .int .i64 ask.f2, .int .i64 ask.f3] 43)) hb)
  clear hb
  go_wp2_with fail
  refine (new_list _).mono ?_
  rintro e w2 ⟨cb, mb, rfl, gc, gm, hC, hb⟩
  have HB2 := Aside0.mk (below_step HB1.out hb)
  have BK2 := Aside0.mk (blk_below BK1.out hb)
  have HC2 := Aside0.mk hC
  have GM := Aside0.mk (Nat.le_trans (below_size HB1.out) gm)
  clear hb hC gc gm HB1 BK1
  go_wp2
  go_loopw [6, 7] (fun v6 v7 wr => ∃ (i : Int) (all : List SL), v7 = .int .i64 i ∧ Aside0 (0 ≤ i ∧ i ≤ l0.length ∧ i ≤ 60 ∧ (all.length : Int) = i ∧ SortedS all ∧ ∀ x ∈ all, okL x) ∧ Aside0 (Kd.R k43 43 wr w.heap.size (fun _ => True) v6 all) ∧
    Aside0 (CountsOf wr cb mb all.length all) ∧ Aside0 (wr.heap[w.heap.size]? = some (.cells #[.int .i64 ask.f0, .int .i64 ask.f1, .int .i64 ask.f2, .int .i64 ask.f3] 43 (0, 0))) ∧ Aside0 (Below w.heap.size w wr)) (fun _ v7 _ => 60 - (intOf v7).toNat)
  case atStart => exact ⟨0, [], rfl, ⟨by omega, by omega, by omega, rfl, List.Pairwise.nil, by simp⟩, ⟨Kd.R_nil _ _ _ _ _⟩, HC2, BK2, HB2⟩
  case round =>
    clear HB2 BK2 HC2
    obtain ⟨i, all, rfl, HI, HR, HC, BK, HB⟩ := hrel
    have hi0 := HI.out.1
    by_cases h1 : i < (l0.length : Int)
    · have e1 : decide (i < (l0.length : Int)) = true := decide_eq_true h1
      by_cases h2 : i < 60
      · have e2 : decide (i < 60) = true := decide_eq_true h2
        have H2 := Aside0.mk (And.intro h1 h2)
        obtain ⟨ad, eA, x0, x1, x2, x3⟩ := at_T43 HR0.out i hi0 h1
        obtain ⟨y, hy⟩ : ∃ y, rd_T43 l0 i = y := ⟨_, rfl⟩
        rw [hy] at x0 x1 x2 x3
        have HR0' := HR0
        cases eA
        replace x0 := (HB.out.cell (World.block_lt_of_cell? w _ x0)).trans x0
        replace x1 := (HB.out.cell (World.block_lt_of_cell? w _ x1)).trans x1
        replace x2 := (HB.out.cell (World.block_lt_of_cell? w _ x2)).trans x2
        replace x3 := (HB.out.cell (World.block_lt_of_cell? w _ x3)).trans x3
        replace hi0 := eq_true hi0
        replace h1 := eq_true h1
        clear h2 hy
        obtain ⟨A6, c6, e6⟩ := Kd.R_slice HR.out
        subst e6
        go_wp2_with fail
        refine (donjonlaw4_Good.calls y.f0 y.f1 y.f2 y.f3 _ _ _ _ _ (goodS_f y)).mono ?_
        rintro e w3 ⟨rfl, hb⟩
        have hx := goodS_ok y
        generalize goodS y = x at hx ⊢
        have HX := Aside0.mk hx
        have HR3 := Aside0.mk (Kd.R_alloc (Kd.R_below HR.out hb) (.cells #[.int .i64 x.f0, .int .i64 x.f1, .int .i64 x.f2, .int .i64 x.f3] 43))
        have HC3 := Aside0.mk (CountsOf.below (CountsOf.below HC.out hb) (below_alloc (Below.refl _ _) (.cells #[.int .i64 x.f0, .int .i64 x.f1, .int .i64 x.f2, .int .i64 x.f3] 43)))
        have BK3 := Aside0.mk (blk_alloc (blk_below BK.out hb) (.cells #[.int .i64 x.f0, .int .i64 x.f1, .int .i64 x.f2, .int .i64 x.f3] 43))
        have BX3 := Aside0.mk (blk_new w3 (.cells #[.int .i64 x.f0, .int .i64 x.f1, .int .i64 x.f2, .int .i64 x.f3] 43))
        have HB3 := Aside0.mk (below_alloc (below_step HB.out hb) (.cells #[.int .i64 x.f0, .int .i64 x.f1, .int .i64 x.f2, .int .i64 x.f3] 43))
        have hlen : all.length < 100 ∧ all.length ≤ 100000 ∧ (all.length : Int) = i := by have := HI.out; have := H2.out; omega
        have HL := Aside0.mk hlen
        clear hb hx hlen HR HC BK HB x0 x1 x2 x3
        go_wp2_with fail
        refine (donjonref12_Add.calls 100 _ _ all x.f0 x.f1 x.f2 x.f3 (insS x all) _ (Kd.R_reads' HR3.out).2.2 (Kd.R_reads' HR3.out).2.1 (add_f x all 100 HL.out.1 HL.out.2.1)).mono ?_
        rintro e w4 ⟨v6, rfl, hR, hb⟩
        obtain ⟨A6', c6', e6⟩ := Kd.R_slice hR
        subst e6
        have HR4 := Aside0.mk (Kd.R_lower hR (below_size HB3.out))
        have HC4 := Aside0.mk (CountsOf.below HC3.out hb)
        have BK4 := Aside0.mk (blk_below BK3.out hb)
        have BX4 := Aside0.mk (blk_below BX3.out hb)
        have HB4 := Aside0.mk (below_step HB3.out hb)
        clear hb hR HR3 HC3 BK3 BX3 HB3
        generalize w3.heap.size = gx at BX4 ⊢
        go_wp2_with fail
        have HRd := Aside0.mk (Kd.R_drew HR4.out)
        have HCd : Aside0 (CountsOf w4.drew cb mb all.length all) := ⟨CountsOf.below HC4.out (below_drew1 (Below.refl _ _))⟩
        have BKd := Aside0.mk (blk_drew BK4.out)
        have BXd := Aside0.mk (blk_drew BX4.out)
        have HBd := Aside0.mk (below_drew1 HB4.out)
        have HLI := Aside0.mk (insS_length x all)
        have HCX : Aside0 (all.count x + 1 = (insS x all).count x) := ⟨by rw [insS_count, if_pos rfl]⟩
        have HGA := Aside0.mk (goodS_ok ask)
        have hga := goodS_f ask
        obtain ⟨q, hq⟩ : ∃ q, goodS ask = q := ⟨_, rfl⟩
        rw [hq] at HGA hga
        have HQF := Aside0.mk hga
        clear HR4 HC4 BK4 BX4 HB4 hq hga
        refine start_ (n := 18) (S := fun w' => w'.cell? ⟨gx, 0, none⟩ = some (.int .i64 x.f0) ∧ w'.cell? ⟨gx, 1, none⟩ = some (.int .i64 x.f1) ∧ w'.cell? ⟨gx, 2, none⟩ = some (.int .i64 x.f2) ∧ w'.cell? ⟨gx, 3, none⟩ = some (.int .i64 x.f3) ∧ w'.cell? ⟨w.heap.size, 0, none⟩ = some (.int .i64 ask.f0) ∧ w'.cell? ⟨w.heap.size, 1, none⟩ = some (.int .i64 ask.f1) ∧ w'.cell? ⟨w.heap.size, 2, none⟩ = some (.int .i64 ask.f2) ∧ w'.cell? ⟨w.heap.size, 3, none⟩ = some (.int .i64 ask.f3)) (ds := []) #[false, false, false, false, false, false, false, false, false, false, false, false, false, false, false, false, false, false] (by kernel_rfl) rfl rfl ⟨(blk_cell BXd.out 0).trans rfl, (blk_cell BXd.out 1).trans rfl, (blk_cell BXd.out 2).trans rfl, (blk_cell BXd.out 3).trans rfl, (blk_cell BKd.out 0).trans rfl, (blk_cell BKd.out 1).trans rfl, (blk_cell BKd.out 2).trans rfl, (blk_cell BKd.out 3).trans rfl⟩ (fun hHeld => ?_)
        refine with_tabW donjonlaw12_QuotaCounts.tab10 donjonlaw12_QuotaCounts.bits10 (fun HT_ HW_ => ?_)
        generalize World.drew _ = wd at HRd HCd BKd BXd HBd hHeld ⊢
        refine pure_ (i := 0) (N := some 32) (v := ?_) (a' := ?_) #[true, false, false, false, false, false, false, false, false, false, false, false, false, false, false, false, false, false] rfl rfl (any_of HT_.out (by kernel_rfl)) (fun _ _ _ h => h) (Or.inl ⟨by rfl, ?_⟩) ?_ ?_
        rotate_left
        · intro w'
          go_simp
          with_reducible rfl
        rotate_left
        · simp only [Act.put, List.setIfInBounds_toArray, List.set_cons_zero, List.set_cons_succ, i64_w, i32_w]
          rfl
        refine pure_ (i := 3) (N := some 35) (v := ?_) (a' := ?_) #[true, false, false, true, false, false, false, false, false, false, false, false, false, false, false, false, false, false] rfl rfl (any_of HT_.out (by kernel_rfl)) (fun _ _ _ h => h) (Or.inl ⟨by rfl, ?_⟩) ?_ ?_
        rotate_left
        · intro w'
          go_simp
          with_reducible rfl
        rotate_left
        · simp only [Act.put, List.setIfInBounds_toArray, List.set_cons_zero, List.set_cons_succ, i64_w, i32_w]
          rfl
        refine take_ (i := 1) (N := some 33) (v := ?_) (a' := ?_) #[true, true, false, true, false, false, false, false, false, false, false, false, false, false, false, false, false, false] rfl rfl (take_ofW HT_.out HW_.out (by kernel_rfl)) (fun _ _ _ h => h) (Or.inl ⟨by rfl, ?_⟩) hHeld ?_ ?_
        rotate_left
        · rintro w' ⟨s0, s1, s2, s3, s4, s5, s6, s7⟩
          go_simp
          with_reducible rfl
        rotate_left
        · simp only [Act.put, List.setIfInBounds_toArray, List.set_cons_zero, List.set_cons_succ, i64_w, i32_w]
          rfl
        refine take_ (i := 4) (N := some 36) (v := ?_) (a' := ?_) #[true, true, false, true, true, false, false, false, false, false, false, false, false, false, false, false, false, false] rfl rfl (take_ofW HT_.out HW_.out (by kernel_rfl)) (fun _ _ _ h => h) (Or.inl ⟨by rfl, ?_⟩) hHeld ?_ ?_
        rotate_left
        · rintro w' ⟨s0, s1, s2, s3, s4, s5, s6, s7⟩
          go_simp
          with_reducible rfl
        rotate_left
        · simp only [Act.put, List.setIfInBounds_toArray, List.set_cons_zero, List.set_cons_succ, i64_w, i32_w]
          rfl
        refine one_ (i := 2) (N := some 34) #[true, true, true, true, true, false, false, false, false, false, false, false, false, false, false, false, false, false] rfl rfl (one_of HT_.out (by kernel_rfl)) (by decide) (fun K hK => ?_)
        refine goes_ Try.func19 (by kernel_rfl) rfl #[.pointer (some ⟨cb, 0, none⟩), .agg #[.int .i64 x.f0, .int .i64 x.f1, .int .i64 x.f2, .int .i64 x.f3]] (by rfl) rfl rfl (by (try simp only [List.map_toArray, List.map_cons, List.map_nil]); first | done | rfl) ?_
        refine (add_list _ cb mb all.length all HCd.out (Nat.lt_of_lt_of_le HL.out.1 (by decide)) HL.out.2.1 x HX.out).mono ?_
        rintro e wg ⟨rfl, hC, hg⟩
        rw [HCX.out]
        refine ⟨_, rfl, ?_⟩
        have HB_ := Aside0.mk (HBd.out.grown hg (below_size HBd.out) (fun k hk => by cases hk; exact GM.out))
        have HR_ := Aside0.mk (row_beside HCd.out.isMap HRd.out hg)
        have BK_ := Aside0.mk (blk_beside HCd.out.isMap BKd.out hg)
        have BX_ := Aside0.mk (blk_beside HCd.out.isMap BXd.out hg)
        have HC_ : Aside0 (CountsOf wg cb mb (insS x all).length (insS x all)) := ⟨by rw [HLI.out]; exact hC.perm (insS_perm x all).symm⟩
        clear hC hg HBd HRd HCd BKd BXd
        have HBd := HB_
        have HRd := HR_
        have HCd := HC_
        have BKd := BK_
        have BXd := BX_
        clear HB_ HR_ HC_ BK_ BX_
        refine hK.out _ _ ⟨(blk_cell BXd.out 0).trans rfl, (blk_cell BXd.out 1).trans rfl, (blk_cell BXd.out 2).trans rfl, (blk_cell BXd.out 3).trans rfl, (blk_cell BKd.out 0).trans rfl, (blk_cell BKd.out 1).trans rfl, (blk_cell BKd.out 2).trans rfl, (blk_cell BKd.out 3).trans rfl⟩ (fun hHeld => ?_)
        clear hK K
        refine norm_ (a' := ?_) ?_ ?_
        rotate_left
        · show Act.put _ (some 34) _ = _
          simp only [Act.put, List.setIfInBounds_toArray, List.set_cons_zero, List.set_cons_succ, i64_w, i32_w]
          rfl
        refine one_ (i := 5) (N := some 37) #[true, true, true, true, true, true, false, false, false, false, false, false, false, false, false, false, false, false] rfl rfl (one_of HT_.out (by kernel_rfl)) (by decide) (fun K hK => ?_)
        refine goes_ Try.func20 (by kernel_rfl) rfl #[.slice A6' (insS x all).length c6', .agg #[.int .i64 x.f0, .int .i64 x.f1, .int .i64 x.f2, .int .i64 x.f3]] (by rfl) rfl rfl (by (try simp only [List.map_toArray, List.map_cons, List.map_nil]); first | done | rfl) ?_
        refine (donjonref12_Of.calls 100 _ _ (insS x all) x.f0 x.f1 x.f2 x.f3 _ _ (Kd.R_reads' HRd.out).2.2 (Kd.R_reads' HRd.out).2.1 (of_f x _ 100 (by rw [HLI.out]; have := HL.out; have := H2.out; omega) (by rw [HLI.out]; have := HL.out; omega))).mono ?_
        rintro e wg ⟨rfl, hb⟩
        refine ⟨_, rfl, ?_⟩
        have HB_ := Aside0.mk (below_step HBd.out hb)
        have HR_ := Aside0.mk (Kd.R_below HRd.out hb)
        have HC_ := Aside0.mk (CountsOf.below HCd.out hb)
        have BK_ := Aside0.mk (blk_below BKd.out hb)
        have BX_ := Aside0.mk (blk_below BXd.out hb)
        clear hb HBd HRd HCd BKd BXd
        have HBd := HB_
        have HRd := HR_
        have HCd := HC_
        have BKd := BK_
        have BXd := BX_
        clear HB_ HR_ HC_ BK_ BX_
        refine hK.out _ _ ⟨(blk_cell BXd.out 0).trans rfl, (blk_cell BXd.out 1).trans rfl, (blk_cell BXd.out 2).trans rfl, (blk_cell BXd.out 3).trans rfl, (blk_cell BKd.out 0).trans rfl, (blk_cell BKd.out 1).trans rfl, (blk_cell BKd.out 2).trans rfl, (blk_cell BKd.out 3).trans rfl⟩ (fun hHeld => ?_)
        clear hK K
        refine norm_ (a' := ?_) ?_ ?_
        rotate_left
        · show Act.put _ (some 37) _ = _
          simp only [Act.put, List.setIfInBounds_toArray, List.set_cons_zero, List.set_cons_succ, i64_w, i32_w]
          rfl
        refine pure_ (i := 6) (N := some 38) (v := ?_) (a' := ?_) #[true, true, true, true, true, true, true, false, false, false, false, false, false, false, false, false, false, false] rfl rfl (any_of HT_.out (by kernel_rfl)) (fun _ _ _ h => h) (Or.inl ⟨by rfl, ?_⟩) ?_ ?_
        rotate_left
        · intro w'
          go_simp
          with_reducible rfl
        rotate_left
        · simp only [Act.put, List.setIfInBounds_toArray, List.set_cons_zero, List.set_cons_succ, i64_w, i32_w]
          rfl
        refine pure_ (i := 7) (N := some 39) (v := ?_) (a' := ?_) #[true, true, true, true, true, true, true, true, false, false, false, false, false, false, false, false, false, false] rfl rfl (any_of HT_.out (by kernel_rfl)) (fun _ _ _ h => h) (Or.inl ⟨by rfl, ?_⟩) ?_ ?_
        rotate_left
        · intro w'
          go_simp
          with_reducible rfl
        rotate_left
        · simp only [Act.put, List.setIfInBounds_toArray, List.set_cons_zero, List.set_cons_succ, i64_w, i32_w]
          rfl
        refine pure_ (i := 8) (N := some 40) (v := ?_) (a' := ?_) #[true, true, true, true, true, true, true, true, true, false, false, false, false, false, false, false, false, false] rfl rfl (any_of HT_.out (by kernel_rfl)) (fun _ _ _ h => h) (Or.inl ⟨by rfl, ?_⟩) ?_ ?_
        rotate_left
        · intro w'
          go_simp
          with_reducible rfl
        rotate_left
        · simp only [Act.put, List.setIfInBounds_toArray, List.set_cons_zero, List.set_cons_succ, i64_w, i32_w]
          rfl
        refine pure_ (i := 12) (N := some 44) (v := ?_) (a' := ?_) #[true, true, true, true, true, true, true, true, true, false, false, false, true, false, false, false, false, false] rfl rfl (any_of HT_.out (by kernel_rfl)) (fun _ _ _ h => h) (Or.inl ⟨by rfl, ?_⟩) ?_ ?_
        rotate_left
        · intro w'
          go_simp
          with_reducible rfl
        rotate_left
        · simp only [Act.put, List.setIfInBounds_toArray, List.set_cons_zero, List.set_cons_succ, i64_w, i32_w]
          rfl
        refine take_ (i := 9) (N := some 41) (v := ?_) (a' := ?_) #[true, true, true, true, true, true, true, true, true, true, false, false, true, false, false, false, false, false] rfl rfl (take_ofW HT_.out HW_.out (by kernel_rfl)) (fun _ _ _ h => h) (Or.inl ⟨by rfl, ?_⟩) hHeld ?_ ?_
        rotate_left
        · rintro w' ⟨s0, s1, s2, s3, s4, s5, s6, s7⟩
          go_simp
          with_reducible rfl
        rotate_left
        · simp only [Act.put, List.setIfInBounds_toArray, List.set_cons_zero, List.set_cons_succ, i64_w, i32_w]
          rfl
        refine take_ (i := 13) (N := some 45) (v := ?_) (a' := ?_) #[true, true, true, true, true, true, true, true, true, true, false, false, true, true, false, false, false, false] rfl rfl (take_ofW HT_.out HW_.out (by kernel_rfl)) (fun _ _ _ h => h) (Or.inl ⟨by rfl, ?_⟩) hHeld ?_ ?_
        rotate_left
        · rintro w' ⟨s0, s1, s2, s3, s4, s5, s6, s7⟩
          go_simp
          with_reducible rfl
        rotate_left
        · simp only [Act.put, List.setIfInBounds_toArray, List.set_cons_zero, List.set_cons_succ, i64_w, i32_w]
          rfl
        refine one_ (i := 10) (N := some 42) #[true, true, true, true, true, true, true, true, true, true, true, false, true, true, false, false, false, false] rfl rfl (one_of HT_.out (by kernel_rfl)) (by decide) (fun K hK => ?_)
        refine goes_ Try.func17 (by kernel_rfl) rfl #[.agg #[.int .i64 ask.f0, .int .i64 ask.f1, .int .i64 ask.f2, .int .i64 ask.f3]] (by rfl) rfl rfl (by (try simp only [List.map_toArray, List.map_cons, List.map_nil]); first | done | rfl) ?_
        refine (donjonlaw4_Good.calls ask.f0 ask.f1 ask.f2 ask.f3 _ _ _ _ _ HQF.out).mono ?_
        rintro e wg ⟨rfl, hb⟩
        refine ⟨_, rfl, ?_⟩
        have HB_ := Aside0.mk (below_step HBd.out hb)
        have HR_ := Aside0.mk (Kd.R_below HRd.out hb)
        have HC_ := Aside0.mk (CountsOf.below HCd.out hb)
        have BK_ := Aside0.mk (blk_below BKd.out hb)
        have BX_ := Aside0.mk (blk_below BXd.out hb)
        clear hb HBd HRd HCd BKd BXd
        have HBd := HB_
        have HRd := HR_
        have HCd := HC_
        have BKd := BK_
        have BXd := BX_
        clear HB_ HR_ HC_ BK_ BX_
        refine hK.out _ _ ⟨(blk_cell BXd.out 0).trans rfl, (blk_cell BXd.out 1).trans rfl, (blk_cell BXd.out 2).trans rfl, (blk_cell BXd.out 3).trans rfl, (blk_cell BKd.out 0).trans rfl, (blk_cell BKd.out 1).trans rfl, (blk_cell BKd.out 2).trans rfl, (blk_cell BKd.out 3).trans rfl⟩ (fun hHeld => ?_)
        clear hK K
        refine norm_ (a' := ?_) ?_ ?_
        rotate_left
        · show Act.put _ (some 42) _ = _
          simp only [Act.put, List.setIfInBounds_toArray, List.set_cons_zero, List.set_cons_succ, i64_w, i32_w]
          rfl
        refine one_ (i := 11) (N := some 43) #[true, true, true, true, true, true, true, true, true, true, true, true, true, true, false, false, false, false] rfl rfl (one_of HT_.out (by kernel_rfl)) (by decide) (fun K hK => ?_)
        refine goes_ Try.func21 (by kernel_rfl) rfl #[.pointer (some ⟨cb, 0, none⟩), .agg #[.int .i64 q.f0, .int .i64 q.f1, .int .i64 q.f2, .int .i64 q.f3]] (by rfl) rfl rfl (by (try simp only [List.map_toArray, List.map_cons, List.map_nil]); first | done | rfl) ?_
        refine (of_list _ cb mb _ (insS x all) HCd.out q HGA.out).mono ?_
        rintro e wg ⟨rfl, hb⟩
        refine ⟨_, rfl, ?_⟩
        have HB_ := Aside0.mk (below_step HBd.out hb)
        have HR_ := Aside0.mk (Kd.R_below HRd.out hb)
        have HC_ := Aside0.mk (CountsOf.below HCd.out hb)
        have BK_ := Aside0.mk (blk_below BKd.out hb)
        have BX_ := Aside0.mk (blk_below BXd.out hb)
        clear hb HBd HRd HCd BKd BXd
        have HBd := HB_
        have HRd := HR_
        have HCd := HC_
        have BKd := BK_
        have BXd := BX_
        clear HB_ HR_ HC_ BK_ BX_
        refine hK.out _ _ ⟨(blk_cell BXd.out 0).trans rfl, (blk_cell BXd.out 1).trans rfl, (blk_cell BXd.out 2).trans rfl, (blk_cell BXd.out 3).trans rfl, (blk_cell BKd.out 0).trans rfl, (blk_cell BKd.out 1).trans rfl, (blk_cell BKd.out 2).trans rfl, (blk_cell BKd.out 3).trans rfl⟩ (fun hHeld => ?_)
        clear hK K
        refine norm_ (a' := ?_) ?_ ?_
        rotate_left
        · show Act.put _ (some 43) _ = _
          simp only [Act.put, List.setIfInBounds_toArray, List.set_cons_zero, List.set_cons_succ, i64_w, i32_w]
          rfl
        refine one_ (i := 14) (N := some 46) #[true, true, true, true, true, true, true, true, true, true, true, true, true, true, true, false, false, false] rfl rfl (one_of HT_.out (by kernel_rfl)) (by decide) (fun K hK => ?_)
        refine goes_ Try.func17 (by kernel_rfl) rfl #[.agg #[.int .i64 ask.f0, .int .i64 ask.f1, .int .i64 ask.f2, .int .i64 ask.f3]] (by rfl) rfl rfl (by (try simp only [List.map_toArray, List.map_cons, List.map_nil]); first | done | rfl) ?_
        refine (donjonlaw4_Good.calls ask.f0 ask.f1 ask.f2 ask.f3 _ _ _ _ _ HQF.out).mono ?_
        rintro e wg ⟨rfl, hb⟩
        refine ⟨_, rfl, ?_⟩
        have HB_ := Aside0.mk (below_step HBd.out hb)
        have HR_ := Aside0.mk (Kd.R_below HRd.out hb)
        have HC_ := Aside0.mk (CountsOf.below HCd.out hb)
        have BK_ := Aside0.mk (blk_below BKd.out hb)
        have BX_ := Aside0.mk (blk_below BXd.out hb)
        clear hb HBd HRd HCd BKd BXd
        have HBd := HB_
        have HRd := HR_
        have HCd := HC_
        have BKd := BK_
        have BXd := BX_
        clear HB_ HR_ HC_ BK_ BX_
        refine hK.out _ _ ⟨(blk_cell BXd.out 0).trans rfl, (blk_cell BXd.out 1).trans rfl, (blk_cell BXd.out 2).trans rfl, (blk_cell BXd.out 3).trans rfl, (blk_cell BKd.out 0).trans rfl, (blk_cell BKd.out 1).trans rfl, (blk_cell BKd.out 2).trans rfl, (blk_cell BKd.out 3).trans rfl⟩ (fun hHeld => ?_)
        clear hK K
        refine norm_ (a' := ?_) ?_ ?_
        rotate_left
        · show Act.put _ (some 46) _ = _
          simp only [Act.put, List.setIfInBounds_toArray, List.set_cons_zero, List.set_cons_succ, i64_w, i32_w]
          rfl
        refine one_ (i := 15) (N := some 47) #[true, true, true, true, true, true, true, true, true, true, true, true, true, true, true, true, false, false] rfl rfl (one_of HT_.out (by kernel_rfl)) (by decide) (fun K hK => ?_)
        refine goes_ Try.func20 (by kernel_rfl) rfl #[.slice A6' (insS x all).length c6', .agg #[.int .i64 q.f0, .int .i64 q.f1, .int .i64 q.f2, .int .i64 q.f3]] (by rfl) rfl rfl (by (try simp only [List.map_toArray, List.map_cons, List.map_nil]); first | done | rfl) ?_
        refine (donjonref12_Of.calls 100 _ _ (insS x all) q.f0 q.f1 q.f2 q.f3 _ _ (Kd.R_reads' HRd.out).2.2 (Kd.R_reads' HRd.out).2.1 (of_f q _ 100 (by rw [HLI.out]; have := HL.out; have := H2.out; omega) (by rw [HLI.out]; have := HL.out; omega))).mono ?_
        rintro e wg ⟨rfl, hb⟩
        refine ⟨_, rfl, ?_⟩
        have HB_ := Aside0.mk (below_step HBd.out hb)
        have HR_ := Aside0.mk (Kd.R_below HRd.out hb)
        have HC_ := Aside0.mk (CountsOf.below HCd.out hb)
        have BK_ := Aside0.mk (blk_below BKd.out hb)
        have BX_ := Aside0.mk (blk_below BXd.out hb)
        clear hb HBd HRd HCd BKd BXd
        have HBd := HB_
        have HRd := HR_
        have HCd := HC_
        have BKd := BK_
        have BXd := BX_
        clear HB_ HR_ HC_ BK_ BX_
        refine hK.out _ _ ⟨(blk_cell BXd.out 0).trans rfl, (blk_cell BXd.out 1).trans rfl, (blk_cell BXd.out 2).trans rfl, (blk_cell BXd.out 3).trans rfl, (blk_cell BKd.out 0).trans rfl, (blk_cell BKd.out 1).trans rfl, (blk_cell BKd.out 2).trans rfl, (blk_cell BKd.out 3).trans rfl⟩ (fun hHeld => ?_)
        clear hK K
        refine norm_ (a' := ?_) ?_ ?_
        rotate_left
        · show Act.put _ (some 47) _ = _
          simp only [Act.put, List.setIfInBounds_toArray, List.set_cons_zero, List.set_cons_succ, i64_w, i32_w]
          rfl
        refine pure_ (i := 16) (N := some 48) (v := ?_) (a' := ?_) #[true, true, true, true, true, true, true, true, true, true, true, true, true, true, true, true, true, false] rfl rfl (any_of HT_.out (by kernel_rfl)) (fun _ _ _ h => h) (Or.inl ⟨by rfl, ?_⟩) ?_ ?_
        rotate_left
        · intro w'
          go_simp
          with_reducible rfl
        rotate_left
        · simp only [Act.put, List.setIfInBounds_toArray, List.set_cons_zero, List.set_cons_succ, i64_w, i32_w]
          rfl
        refine pure_ (i := 17) (N := some 49) (v := ?_) (a' := ?_) #[true, true, true, true, true, true, true, true, true, true, true, true, true, true, true, true, true, true] rfl rfl (any_of HT_.out (by kernel_rfl)) (fun _ _ _ h => h) (Or.inl ⟨by rfl, ?_⟩) ?_ ?_
        rotate_left
        · intro w'
          go_simp
          with_reducible rfl
        rotate_left
        · simp only [Act.put, List.setIfInBounds_toArray, List.set_cons_zero, List.set_cons_succ, i64_w, i32_w]
          rfl
        refine done_ (done_of HT_.out (by kernel_rfl)) ?_
        try go_wp2
        have ew : wrap64 (i + 1) = i + 1 := wrap64_id (by have := H2.out; have := HI.out; omega) (by have := H2.out; omega)
        go_roundw
        case rel => exact ⟨i + 1, insS x all, by rw [ew], ⟨by have := HI.out.1; omega, by have := H2.out; omega, by have := H2.out; omega, by rw [HLI.out]; have := HL.out.2.2; omega, insS_sorted x HI.out.2.2.2.2.1, fun z hz => by rcases insS_mem hz with e | e; (rw [e]; exact HX.out); exact HI.out.2.2.2.2.2 z e⟩, HRd, HCd, BKd, HBd⟩
        case measure =>
          rw [ew]
          have := H2.out
          have := HI.out.1
          simp only [intOf]
          omega
      · have e2 : decide (i < 60) = false := decide_eq_false h2
        clear h1 h2
        go_wp2_with fail
        refine (all_list _ cb mb all.length all HC.out HI.out.2.2.2.2.1 HI.out.2.2.2.2.2 (Nat.le_trans (Nat.mul_le_mul (show all.length ≤ 60 by have := HI.out; omega) (show all.length ≤ 60 by have := HI.out; omega)) (by decide))).mono ?_
        rintro e w8 ⟨v9, rfl, hR, hb⟩
        obtain ⟨A9, c9, e9⟩ := Kd.R_slice hR
        subst e9
        obtain ⟨A6, c6, e6⟩ := Kd.R_slice HR.out
        subst e6
        have H9 := Aside0.mk (Kd.R_reads' hR).2.2
        have H6 := Aside0.mk (Kd.R_reads' (Kd.R_below HR.out hb)).2.2
        have HB8 := Aside0.mk (below_step HB.out hb)
        have HS := Aside0.mk HI.out.2.2.2.2.1
        have HL60 : Aside0 ((all.length : Int) ≤ 60) := ⟨by have := HI.out; omega⟩
        clear hb hR HR HC BK HB HI hi0
        try clear e1
        try clear e2
        go_wp2
        go_loopw [10] (fun v10 wz => ∃ j : Int, v10 = .int .i64 j ∧ Aside0 (0 ≤ j ∧ j ≤ all.length) ∧ Aside0 (Below w8.heap.size w8 wz)) (fun v10 _ => 60 - (intOf v10).toNat)
        case atStart => exact ⟨0, rfl, ⟨by omega, by omega⟩, ⟨Below.refl _ _⟩⟩
        case round =>
          obtain ⟨j, rfl, HJ, HBZ⟩ := hrel
          by_cases h1 : j < (all.length : Int)
          · have e1 : decide (j < (all.length : Int)) = true := decide_eq_true h1
            have H1 := Aside0.mk h1
            have p0 := HJ.out.1
            obtain ⟨y, hy⟩ : ∃ y, rd_T43 all j = y := ⟨_, rfl⟩
            have C9 := H9.out
            have C6 := H6.out
            obtain ⟨ad9, eA9, x0, x1, x2, x3⟩ := at_T43 C9 j p0 h1
            obtain ⟨ad6, eA6, y0, y1, y2, y3⟩ := at_T43 C6 j p0 h1
            rw [hy] at x0 x1 x2 x3 y0 y1 y2 y3
            by_cases h0 : 0 < j
            · have e0 : decide (0 < j) = true := decide_eq_true h0
              obtain ⟨tt, htt⟩ : ∃ tt, tt = j - 1 := ⟨_, rfl⟩
              have ew1 : wrap64 (j - 1) = tt := (wrap64_id (by omega) (by have := HL60.out; omega)).trans htt.symm
              have p1 : 0 ≤ tt := by omega
              have q1 : tt < (all.length : Int) := by omega
              obtain ⟨u, hu⟩ : ∃ u, rd_T43 all tt = u := ⟨_, rfl⟩
              obtain ⟨ad9', eA9', z0, z1, z2, z3⟩ := at_T43 C9 tt p1 q1
              rw [hu] at z0 z1 z2 z3
              have eAA := eA9.symm.trans eA9'
              injection eAA with eAA
              subst eAA
              have HLS : Aside0 (lessS y u = false) := ⟨by rw [← hy, ← hu]; exact sorted_rd HS.out p1 (by omega) h1⟩
              clear hy hu eA9' C9 C6 htt
              cases eA9
              cases eA6
              replace x0 := (HBZ.out.cell (World.block_lt_of_cell? _ _ x0)).trans x0
              replace x1 := (HBZ.out.cell (World.block_lt_of_cell? _ _ x1)).trans x1
              replace x2 := (HBZ.out.cell (World.block_lt_of_cell? _ _ x2)).trans x2
              replace x3 := (HBZ.out.cell (World.block_lt_of_cell? _ _ x3)).trans x3
              replace y0 := (HBZ.out.cell (World.block_lt_of_cell? _ _ y0)).trans y0
              replace y1 := (HBZ.out.cell (World.block_lt_of_cell? _ _ y1)).trans y1
              replace y2 := (HBZ.out.cell (World.block_lt_of_cell? _ _ y2)).trans y2
              replace y3 := (HBZ.out.cell (World.block_lt_of_cell? _ _ y3)).trans y3
              replace z0 := (HBZ.out.cell (World.block_lt_of_cell? _ _ z0)).trans z0
              replace z1 := (HBZ.out.cell (World.block_lt_of_cell? _ _ z1)).trans z1
              replace z2 := (HBZ.out.cell (World.block_lt_of_cell? _ _ z2)).trans z2
              replace z3 := (HBZ.out.cell (World.block_lt_of_cell? _ _ z3)).trans z3
              replace p0 := eq_true p0
              replace h1 := eq_true h1
              replace p1 := eq_true p1
              replace q1 := eq_true q1
              go_wp2_with fail
              have HBD := Aside0.mk (below_drew1 HBZ.out)
              refine start_ (n := 25) (S := fun w' => w'.cell? (ad9.add ((j).toNat * 4)) = some (.int .i64 y.f0) ∧ w'.cell? ⟨(ad9.add ((j).toNat * 4)).block, (ad9.add ((j).toNat * 4)).off + 1, none⟩ = some (.int .i64 y.f1) ∧ w'.cell? ⟨(ad9.add ((j).toNat * 4)).block, (ad9.add ((j).toNat * 4)).off + 2, none⟩ = some (.int .i64 y.f2) ∧ w'.cell? ⟨(ad9.add ((j).toNat * 4)).block, (ad9.add ((j).toNat * 4)).off + 3, none⟩ = some (.int .i64 y.f3) ∧ w'.cell? (ad6.add ((j).toNat * 4)) = some (.int .i64 y.f0) ∧ w'.cell? ⟨(ad6.add ((j).toNat * 4)).block, (ad6.add ((j).toNat * 4)).off + 1, none⟩ = some (.int .i64 y.f1) ∧ w'.cell? ⟨(ad6.add ((j).toNat * 4)).block, (ad6.add ((j).toNat * 4)).off + 2, none⟩ = some (.int .i64 y.f2) ∧ w'.cell? ⟨(ad6.add ((j).toNat * 4)).block, (ad6.add ((j).toNat * 4)).off + 3, none⟩ = some (.int .i64 y.f3) ∧ w'.cell? (ad9.add ((tt).toNat * 4)) = some (.int .i64 u.f0) ∧ w'.cell? ⟨(ad9.add ((tt).toNat * 4)).block, (ad9.add ((tt).toNat * 4)).off + 1, none⟩ = some (.int .i64 u.f1) ∧ w'.cell? ⟨(ad9.add ((tt).toNat * 4)).block, (ad9.add ((tt).toNat * 4)).off + 2, none⟩ = some (.int .i64 u.f2) ∧ w'.cell? ⟨(ad9.add ((tt).toNat * 4)).block, (ad9.add ((tt).toNat * 4)).off + 3, none⟩ = some (.int .i64 u.f3)) (ds := []) #[false, false, false, false, false, false, false, false, false, false, false, false, false, false, false, false, false, false, false, false, false, false, false, false, false] (by kernel_rfl) rfl rfl ⟨x0, x1, x2, x3, y0, y1, y2, y3, z0, z1, z2, z3⟩ (fun hHeld => ?_)
              refine with_tabW donjonlaw12_QuotaCounts.tab18 donjonlaw12_QuotaCounts.bits18 (fun HT_ HW_ => ?_)
              generalize World.drew _ = wd at HBD hHeld ⊢
              refine pure_ (i := 0) (N := some 63) (v := ?_) (a' := ?_) #[true, false, false, false, false, false, false, false, false, false, false, false, false, false, false, false, false, false, false, false, false, false, false, false, false] rfl rfl (any_of HT_.out (by kernel_rfl)) (fun _ _ _ h => h) (Or.inl ⟨by rfl, ?_⟩) ?_ ?_
              rotate_left
              · intro w'
                go_simp
                with_reducible rfl
              rotate_left
              · simp only [Act.put, List.setIfInBounds_toArray, List.set_cons_zero, List.set_cons_succ, i64_w, i32_w]
                rfl
              refine pure_ (i := 1) (N := some 64) (v := ?_) (a' := ?_) #[true, true, false, false, false, false, false, false, false, false, false, false, false, false, false, false, false, false, false, false, false, false, false, false, false] rfl rfl (any_of HT_.out (by kernel_rfl)) (fun _ _ _ h => h) (Or.inl ⟨by rfl, ?_⟩) ?_ ?_
              rotate_left
              · intro w'
                go_simp
                with_reducible rfl
              rotate_left
              · simp only [Act.put, List.setIfInBounds_toArray, List.set_cons_zero, List.set_cons_succ, i64_w, i32_w]
                rfl
              refine pure_ (i := 2) (N := some 65) (v := ?_) (a' := ?_) #[true, true, true, false, false, false, false, false, false, false, false, false, false, false, false, false, false, false, false, false, false, false, false, false, false] rfl rfl (any_of HT_.out (by kernel_rfl)) (fun _ _ _ h => h) (Or.inl ⟨by rfl, ?_⟩) ?_ ?_
              rotate_left
              · intro w'
                go_simp
                with_reducible rfl
              rotate_left
              · simp only [Act.put, List.setIfInBounds_toArray, List.set_cons_zero, List.set_cons_succ, i64_w, i32_w]
                rfl
              refine pure_ (i := 4) (N := some 67) (v := ?_) (a' := ?_) #[true, true, true, false, true, false, false, false, false, false, false, false, false, false, false, false, false, false, false, false, false, false, false, false, false] rfl rfl (any_of HT_.out (by kernel_rfl)) (fun _ _ _ h => h) (Or.inl ⟨by rfl, ?_⟩) ?_ ?_
              rotate_left
              · intro w'
                go_simp
                with_reducible rfl
              rotate_left
              · simp only [Act.put, List.setIfInBounds_toArray, List.set_cons_zero, List.set_cons_succ, i64_w, i32_w]
                rfl
              refine pure_ (i := 5) (N := some 68) (v := ?_) (a' := ?_) #[true, true, true, false, true, true, false, false, false, false, false, false, false, false, false, false, false, false, false, false, false, false, false, false, false] rfl rfl (any_of HT_.out (by kernel_rfl)) (fun _ _ _ h => h) (Or.inl ⟨by rfl, ?_⟩) ?_ ?_
              rotate_left
              · intro w'
                go_simp
                with_reducible rfl
              rotate_left
              · simp only [Act.put, List.setIfInBounds_toArray, List.set_cons_zero, List.set_cons_succ, i64_w, i32_w]
                rfl
              refine pure_ (i := 6) (N := some 69) (v := ?_) (a' := ?_) #[true, true, true, false, true, true, true, false, false, false, false, false, false, false, false, false, false, false, false, false, false, false, false, false, false] rfl rfl (any_of HT_.out (by kernel_rfl)) (fun _ _ _ h => h) (Or.inl ⟨by rfl, ?_⟩) ?_ ?_
              rotate_left
              · intro w'
                go_simp
                with_reducible rfl
              rotate_left
              · simp only [Act.put, List.setIfInBounds_toArray, List.set_cons_zero, List.set_cons_succ, i64_w, i32_w]
                rfl
              refine take_ (i := 3) (N := some 66) (v := ?_) (a' := ?_) #[true, true, true, true, true, true, true, false, false, false, false, false, false, false, false, false, false, false, false, false, false, false, false, false, false] rfl rfl (take_ofW HT_.out HW_.out (by kernel_rfl)) (fun _ _ _ h => h) (Or.inl ⟨by rfl, ?_⟩) hHeld ?_ ?_
              rotate_left
              · rintro w' ⟨s0, s1, s2, s3, s4, s5, s6, s7, s8, s9, s10, s11⟩
                go_simp
                with_reducible rfl
              rotate_left
              · simp only [Act.put, List.setIfInBounds_toArray, List.set_cons_zero, List.set_cons_succ, i64_w, i32_w]
                rfl
              refine take_ (i := 7) (N := some 70) (v := ?_) (a' := ?_) #[true, true, true, true, true, true, true, true, false, false, false, false, false, false, false, false, false, false, false, false, false, false, false, false, false] rfl rfl (take_ofW HT_.out HW_.out (by kernel_rfl)) (fun _ _ _ h => h) (Or.inl ⟨by rfl, ?_⟩) hHeld ?_ ?_
              rotate_left
              · rintro w' ⟨s0, s1, s2, s3, s4, s5, s6, s7, s8, s9, s10, s11⟩
                go_simp
                with_reducible rfl
              rotate_left
              · simp only [Act.put, List.setIfInBounds_toArray, List.set_cons_zero, List.set_cons_succ, i64_w, i32_w]
                rfl
              refine pure_ (i := 8) (N := some 71) (v := ?_) (a' := ?_) #[true, true, true, true, true, true, true, true, true, false, false, false, false, false, false, false, false, false, false, false, false, false, false, false, false] rfl rfl (any_of HT_.out (by kernel_rfl)) (fun _ _ _ h => h) (Or.inl ⟨by rfl, ?_⟩) ?_ ?_
              rotate_left
              · intro w'
                go_simp
                with_reducible rfl
              rotate_left
              · simp only [Act.put, List.setIfInBounds_toArray, List.set_cons_zero, List.set_cons_succ, i64_w, i32_w]
                rfl
              refine pure_ (i := 9) (N := some 72) (v := ?_) (a' := ?_) #[true, true, true, true, true, true, true, true, true, true, false, false, false, false, false, false, false, false, false, false, false, false, false, false, false] rfl rfl (any_of HT_.out (by kernel_rfl)) (fun _ _ _ h => h) (Or.inl ⟨by rfl, ?_⟩) ?_ ?_
              rotate_left
              · intro w'
                go_simp
                with_reducible rfl
              rotate_left
              · simp only [Act.put, List.setIfInBounds_toArray, List.set_cons_zero, List.set_cons_succ, i64_w, i32_w]
                rfl
              refine pure_ (i := 10) (N := some 73) (v := ?_) (a' := ?_) #[true, true, true, true, true, true, true, true, true, true, true, false, false, false, false, false, false, false, false, false, false, false, false, false, false] rfl rfl (any_of HT_.out (by kernel_rfl)) (fun _ _ _ h => h) (Or.inl ⟨by rfl, ?_⟩) ?_ ?_
              rotate_left
              · intro w'
                go_simp
                with_reducible rfl
              rotate_left
              · simp only [Act.put, List.setIfInBounds_toArray, List.set_cons_zero, List.set_cons_succ, i64_w, i32_w]
                rfl
              refine pure_ (i := 11) (N := some 74) (v := ?_) (a' := ?_) #[true, true, true, true, true, true, true, true, true, true, true, true, false, false, false, false, false, false, false, false, false, false, false, false, false] rfl rfl (any_of HT_.out (by kernel_rfl)) (fun _ _ _ h => h) (Or.inl ⟨by rfl, ?_⟩) ?_ ?_
              rotate_left
              · intro w'
                go_simp
                with_reducible rfl
              rotate_left
              · simp only [Act.put, List.setIfInBounds_toArray, List.set_cons_zero, List.set_cons_succ, i64_w, i32_w]
                rfl
              refine pure_ (i := 12) (N := some 75) (v := ?_) (a' := ?_) #[true, true, true, true, true, true, true, true, true, true, true, true, true, false, false, false, false, false, false, false, false, false, false, false, false] rfl rfl (any_of HT_.out (by kernel_rfl)) (fun _ _ _ h => h) (Or.inl ⟨by rfl, ?_⟩) ?_ ?_
              rotate_left
              · intro w'
                go_simp
                with_reducible rfl
              rotate_left
              · simp only [Act.put, List.setIfInBounds_toArray, List.set_cons_zero, List.set_cons_succ, i64_w, i32_w]
                rfl
              refine pure_ (i := 13) (N := some 76) (v := ?_) (a' := ?_) #[true, true, true, true, true, true, true, true, true, true, true, true, true, true, false, false, false, false, false, false, false, false, false, false, false] rfl rfl (any_of HT_.out (by kernel_rfl)) (fun _ _ _ h => h) (Or.inl ⟨by rfl, ?_⟩) ?_ ?_
              rotate_left
              · intro w'
                go_simp
                with_reducible rfl
              rotate_left
              · simp only [Act.put, List.setIfInBounds_toArray, List.set_cons_zero, List.set_cons_succ, i64_w, i32_w]
                rfl
              refine pure_ (i := 14) (N := some 77) (v := ?_) (a' := ?_) #[true, true, true, true, true, true, true, true, true, true, true, true, true, true, true, false, false, false, false, false, false, false, false, false, false] rfl rfl (any_of HT_.out (by kernel_rfl)) (fun _ _ _ h => h) (Or.inl ⟨by rfl, ?_⟩) ?_ ?_
              rotate_left
              · intro w'
                go_simp
                with_reducible rfl
              rotate_left
              · simp only [Act.put, List.setIfInBounds_toArray, List.set_cons_zero, List.set_cons_succ, i64_w, i32_w]
                rfl
              refine pure_ (i := 15) (N := some 78) (v := ?_) (a' := ?_) #[true, true, true, true, true, true, true, true, true, true, true, true, true, true, true, true, false, false, false, false, false, false, false, false, false] rfl rfl (any_of HT_.out (by kernel_rfl)) (fun _ _ _ h => h) (Or.inl ⟨by rfl, ?_⟩) ?_ ?_
              rotate_left
              · intro w'
                go_simp
                with_reducible rfl
              rotate_left
              · simp only [Act.put, List.setIfInBounds_toArray, List.set_cons_zero, List.set_cons_succ, i64_w, i32_w]
                rfl
              refine pure_ (i := 17) (N := some 80) (v := ?_) (a' := ?_) #[true, true, true, true, true, true, true, true, true, true, true, true, true, true, true, true, false, true, false, false, false, false, false, false, false] rfl rfl (any_of HT_.out (by kernel_rfl)) (fun _ _ _ h => h) (Or.inl ⟨by rfl, ?_⟩) ?_ ?_
              rotate_left
              · intro w'
                go_simp
                with_reducible rfl
              rotate_left
              · simp only [Act.put, List.setIfInBounds_toArray, List.set_cons_zero, List.set_cons_succ, i64_w, i32_w]
                rfl
              refine pure_ (i := 18) (N := some 81) (v := ?_) (a' := ?_) #[true, true, true, true, true, true, true, true, true, true, true, true, true, true, true, true, false, true, true, false, false, false, false, false, false] rfl rfl (any_of HT_.out (by kernel_rfl)) (fun _ _ _ h => h) (Or.inl ⟨by rfl, ?_⟩) ?_ ?_
              rotate_left
              · intro w'
                go_simp
                with_reducible rfl
              rotate_left
              · simp only [Act.put, List.setIfInBounds_toArray, List.set_cons_zero, List.set_cons_succ, i64_w, i32_w]
                rfl
              refine pure_ (i := 19) (N := some 82) (v := ?_) (a' := ?_) #[true, true, true, true, true, true, true, true, true, true, true, true, true, true, true, true, false, true, true, true, false, false, false, false, false] rfl rfl (any_of HT_.out (by kernel_rfl)) (fun _ _ _ h => h) (Or.inl ⟨by rfl, ?_⟩) ?_ ?_
              rotate_left
              · intro w'
                go_simp
                with_reducible rfl
              rotate_left
              · simp only [Act.put, List.setIfInBounds_toArray, List.set_cons_zero, List.set_cons_succ, i64_w, i32_w]
                rfl
              refine pure_ (i := 20) (N := some 83) (v := ?_) (a' := ?_) #[true, true, true, true, true, true, true, true, true, true, true, true, true, true, true, true, false, true, true, true, true, false, false, false, false] rfl rfl (any_of HT_.out (by kernel_rfl)) (fun _ _ _ h => h) (Or.inl ⟨by rfl, ?_⟩) ?_ ?_
              rotate_left
              · intro w'
                go_simp
                with_reducible rfl
              rotate_left
              · simp only [Act.put, List.setIfInBounds_toArray, List.set_cons_zero, List.set_cons_succ, i64_w, i32_w]
                rfl
              refine take_ (i := 16) (N := some 79) (v := ?_) (a' := ?_) #[true, true, true, true, true, true, true, true, true, true, true, true, true, true, true, true, true, true, true, true, true, false, false, false, false] rfl rfl (take_ofW HT_.out HW_.out (by kernel_rfl)) (fun _ _ _ h => h) (Or.inl ⟨by rfl, ?_⟩) hHeld ?_ ?_
              rotate_left
              · rintro w' ⟨s0, s1, s2, s3, s4, s5, s6, s7, s8, s9, s10, s11⟩
                go_simp
                with_reducible rfl
              rotate_left
              · simp only [Act.put, List.setIfInBounds_toArray, List.set_cons_zero, List.set_cons_succ, i64_w, i32_w]
                rfl
              refine take_ (i := 21) (N := some 84) (v := ?_) (a' := ?_) #[true, true, true, true, true, true, true, true, true, true, true, true, true, true, true, true, true, true, true, true, true, true, false, false, false] rfl rfl (take_ofW HT_.out HW_.out (by kernel_rfl)) (fun _ _ _ h => h) (Or.inl ⟨by rfl, ?_⟩) hHeld ?_ ?_
              rotate_left
              · rintro w' ⟨s0, s1, s2, s3, s4, s5, s6, s7, s8, s9, s10, s11⟩
                go_simp
                with_reducible rfl
              rotate_left
              · simp only [Act.put, List.setIfInBounds_toArray, List.set_cons_zero, List.set_cons_succ, i64_w, i32_w]
                rfl
              refine one_ (i := 22) (N := some 85) #[true, true, true, true, true, true, true, true, true, true, true, true, true, true, true, true, true, true, true, true, true, true, true, false, false] rfl rfl (one_of HT_.out (by kernel_rfl)) (by decide) (fun K hK => ?_)
              refine goes_ Try.func23 (by kernel_rfl) rfl #[.agg #[.int .i64 y.f0, .int .i64 y.f1, .int .i64 y.f2, .int .i64 y.f3], .agg #[.int .i64 u.f0, .int .i64 u.f1, .int .i64 u.f2, .int .i64 u.f3]] (by rfl) rfl rfl (by (try simp only [List.map_toArray, List.map_cons, List.map_nil]); first | done | rfl) ?_
              refine (donjonref4_Less.calls _ _ _ _ _ _ _ _ false _ ((less_f y u).trans (by rw [HLS.out]))).mono ?_
              rintro e w9 ⟨rfl, hb⟩
              refine ⟨_, rfl, ?_⟩
              have HBE := Aside0.mk (below_step HBD.out hb)
              have old := fun p (v : Value) (h : wd.cell? p = some v) => (hb.cell (World.block_lt_of_cell? _ _ h)).trans h
              obtain ⟨s0, s1, s2, s3, s4, s5, s6, s7, s8, s9, s10, s11⟩ := hHeld
              have HBD := HBE
              refine hK.out _ _ ⟨old _ _ s0, old _ _ s1, old _ _ s2, old _ _ s3, old _ _ s4, old _ _ s5, old _ _ s6, old _ _ s7, old _ _ s8, old _ _ s9, old _ _ s10, old _ _ s11⟩ (fun hHeld => ?_)
              clear hK K
              refine norm_ (a' := ?_) ?_ ?_
              rotate_left
              · show Act.put _ (some 85) _ = _
                simp only [Act.put, List.setIfInBounds_toArray, List.set_cons_zero, List.set_cons_succ, i64_w, i32_w]
                rfl
              refine pure_ (i := 23) (N := some 86) (v := ?_) (a' := ?_) #[true, true, true, true, true, true, true, true, true, true, true, true, true, true, true, true, true, true, true, true, true, true, true, true, false] rfl rfl (any_of HT_.out (by kernel_rfl)) (fun _ _ _ h => h) (Or.inl ⟨by rfl, ?_⟩) ?_ ?_
              rotate_left
              · intro w'
                go_simp
                with_reducible rfl
              rotate_left
              · simp only [Act.put, List.setIfInBounds_toArray, List.set_cons_zero, List.set_cons_succ, i64_w, i32_w]
                rfl
              refine pure_ (i := 24) (N := some 87) (v := ?_) (a' := ?_) #[true, true, true, true, true, true, true, true, true, true, true, true, true, true, true, true, true, true, true, true, true, true, true, true, true] rfl rfl (any_of HT_.out (by kernel_rfl)) (fun _ _ _ h => h) (Or.inl ⟨by rfl, ?_⟩) ?_ ?_
              rotate_left
              · intro w'
                go_simp
                with_reducible rfl
              rotate_left
              · simp only [Act.put, List.setIfInBounds_toArray, List.set_cons_zero, List.set_cons_succ, i64_w, i32_w]
                rfl
              refine done_ (done_of HT_.out (by kernel_rfl)) ?_
              try go_wp2
              have ew : wrap64 (j + 1) = j + 1 := wrap64_id (by have := HJ.out; omega) (by have := H1.out; have := HL60.out; omega)
              go_roundw
              case rel => exact ⟨j + 1, by rw [ew], ⟨by have := HJ.out; omega, by have := H1.out; omega⟩, HBD⟩
              case measure =>
                rw [ew]
                have := H1.out
                have := HL60.out
                have := HJ.out.1
                simp only [intOf]
                omega
            · have e0 : decide (0 < j) = false := decide_eq_false h0
              clear hy C9 C6
              cases eA9
              cases eA6
              replace x0 := (HBZ.out.cell (World.block_lt_of_cell? _ _ x0)).trans x0
              replace x1 := (HBZ.out.cell (World.block_lt_of_cell? _ _ x1)).trans x1
              replace x2 := (HBZ.out.cell (World.block_lt_of_cell? _ _ x2)).trans x2
              replace x3 := (HBZ.out.cell (World.block_lt_of_cell? _ _ x3)).trans x3
              replace y0 := (HBZ.out.cell (World.block_lt_of_cell? _ _ y0)).trans y0
              replace y1 := (HBZ.out.cell (World.block_lt_of_cell? _ _ y1)).trans y1
              replace y2 := (HBZ.out.cell (World.block_lt_of_cell? _ _ y2)).trans y2
              replace y3 := (HBZ.out.cell (World.block_lt_of_cell? _ _ y3)).trans y3
              replace p0 := eq_true p0
              replace h1 := eq_true h1
              go_wp2_with fail
              have HBD := Aside0.mk (below_drew1 HBZ.out)
              refine start_ (n := 25) (S := fun w' => w'.cell? (ad9.add ((j).toNat * 4)) = some (.int .i64 y.f0) ∧ w'.cell? ⟨(ad9.add ((j).toNat * 4)).block, (ad9.add ((j).toNat * 4)).off + 1, none⟩ = some (.int .i64 y.f1) ∧ w'.cell? ⟨(ad9.add ((j).toNat * 4)).block, (ad9.add ((j).toNat * 4)).off + 2, none⟩ = some (.int .i64 y.f2) ∧ w'.cell? ⟨(ad9.add ((j).toNat * 4)).block, (ad9.add ((j).toNat * 4)).off + 3, none⟩ = some (.int .i64 y.f3) ∧ w'.cell? (ad6.add ((j).toNat * 4)) = some (.int .i64 y.f0) ∧ w'.cell? ⟨(ad6.add ((j).toNat * 4)).block, (ad6.add ((j).toNat * 4)).off + 1, none⟩ = some (.int .i64 y.f1) ∧ w'.cell? ⟨(ad6.add ((j).toNat * 4)).block, (ad6.add ((j).toNat * 4)).off + 2, none⟩ = some (.int .i64 y.f2) ∧ w'.cell? ⟨(ad6.add ((j).toNat * 4)).block, (ad6.add ((j).toNat * 4)).off + 3, none⟩ = some (.int .i64 y.f3)) (ds := []) #[false, false, false, false, false, false, false, false, false, false, false, false, false, false, false, false, false, false, false, false, false, false, false, false, false] (by kernel_rfl) rfl rfl ⟨x0, x1, x2, x3, y0, y1, y2, y3⟩ (fun hHeld => ?_)
              refine with_tabW donjonlaw12_QuotaCounts.tab18 donjonlaw12_QuotaCounts.bits18 (fun HT_ HW_ => ?_)
              generalize World.drew _ = wd at HBD hHeld ⊢
              refine pure_ (i := 0) (N := some 63) (v := ?_) (a' := ?_) #[true, false, false, false, false, false, false, false, false, false, false, false, false, false, false, false, false, false, false, false, false, false, false, false, false] rfl rfl (any_of HT_.out (by kernel_rfl)) (fun _ _ _ h => h) (Or.inl ⟨by rfl, ?_⟩) ?_ ?_
              rotate_left
              · intro w'
                go_simp
                with_reducible rfl
              rotate_left
              · simp only [Act.put, List.setIfInBounds_toArray, List.set_cons_zero, List.set_cons_succ, i64_w, i32_w]
                rfl
              refine pure_ (i := 1) (N := some 64) (v := ?_) (a' := ?_) #[true, true, false, false, false, false, false, false, false, false, false, false, false, false, false, false, false, false, false, false, false, false, false, false, false] rfl rfl (any_of HT_.out (by kernel_rfl)) (fun _ _ _ h => h) (Or.inl ⟨by rfl, ?_⟩) ?_ ?_
              rotate_left
              · intro w'
                go_simp
                with_reducible rfl
              rotate_left
              · simp only [Act.put, List.setIfInBounds_toArray, List.set_cons_zero, List.set_cons_succ, i64_w, i32_w]
                rfl
              refine pure_ (i := 2) (N := some 65) (v := ?_) (a' := ?_) #[true, true, true, false, false, false, false, false, false, false, false, false, false, false, false, false, false, false, false, false, false, false, false, false, false] rfl rfl (any_of HT_.out (by kernel_rfl)) (fun _ _ _ h => h) (Or.inl ⟨by rfl, ?_⟩) ?_ ?_
              rotate_left
              · intro w'
                go_simp
                with_reducible rfl
              rotate_left
              · simp only [Act.put, List.setIfInBounds_toArray, List.set_cons_zero, List.set_cons_succ, i64_w, i32_w]
                rfl
              refine pure_ (i := 4) (N := some 67) (v := ?_) (a' := ?_) #[true, true, true, false, true, false, false, false, false, false, false, false, false, false, false, false, false, false, false, false, false, false, false, false, false] rfl rfl (any_of HT_.out (by kernel_rfl)) (fun _ _ _ h => h) (Or.inl ⟨by rfl, ?_⟩) ?_ ?_
              rotate_left
              · intro w'
                go_simp
                with_reducible rfl
              rotate_left
              · simp only [Act.put, List.setIfInBounds_toArray, List.set_cons_zero, List.set_cons_succ, i64_w, i32_w]
                rfl
              refine pure_ (i := 5) (N := some 68) (v := ?_) (a' := ?_) #[true, true, true, false, true, true, false, false, false, false, false, false, false, false, false, false, false, false, false, false, false, false, false, false, false] rfl rfl (any_of HT_.out (by kernel_rfl)) (fun _ _ _ h => h) (Or.inl ⟨by rfl, ?_⟩) ?_ ?_
              rotate_left
              · intro w'
                go_simp
                with_reducible rfl
              rotate_left
              · simp only [Act.put, List.setIfInBounds_toArray, List.set_cons_zero, List.set_cons_succ, i64_w, i32_w]
                rfl
              refine pure_ (i := 6) (N := some 69) (v := ?_) (a' := ?_) #[true, true, true, false, true, true, true, false, false, false, false, false, false, false, false, false, false, false, false, false, false, false, false, false, false] rfl rfl (any_of HT_.out (by kernel_rfl)) (fun _ _ _ h => h) (Or.inl ⟨by rfl, ?_⟩) ?_ ?_
              rotate_left
              · intro w'
                go_simp
                with_reducible rfl
              rotate_left
              · simp only [Act.put, List.setIfInBounds_toArray, List.set_cons_zero, List.set_cons_succ, i64_w, i32_w]
                rfl
              refine take_ (i := 3) (N := some 66) (v := ?_) (a' := ?_) #[true, true, true, true, true, true, true, false, false, false, false, false, false, false, false, false, false, false, false, false, false, false, false, false, false] rfl rfl (take_ofW HT_.out HW_.out (by kernel_rfl)) (fun _ _ _ h => h) (Or.inl ⟨by rfl, ?_⟩) hHeld ?_ ?_
              rotate_left
              · rintro w' ⟨s0, s1, s2, s3, s4, s5, s6, s7⟩
                go_simp
                with_reducible rfl
              rotate_left
              · simp only [Act.put, List.setIfInBounds_toArray, List.set_cons_zero, List.set_cons_succ, i64_w, i32_w]
                rfl
              refine take_ (i := 7) (N := some 70) (v := ?_) (a' := ?_) #[true, true, true, true, true, true, true, true, false, false, false, false, false, false, false, false, false, false, false, false, false, false, false, false, false] rfl rfl (take_ofW HT_.out HW_.out (by kernel_rfl)) (fun _ _ _ h => h) (Or.inl ⟨by rfl, ?_⟩) hHeld ?_ ?_
              rotate_left
              · rintro w' ⟨s0, s1, s2, s3, s4, s5, s6, s7⟩
                go_simp
                with_reducible rfl
              rotate_left
              · simp only [Act.put, List.setIfInBounds_toArray, List.set_cons_zero, List.set_cons_succ, i64_w, i32_w]
                rfl
              refine pure_ (i := 8) (N := some 71) (v := ?_) (a' := ?_) #[true, true, true, true, true, true, true, true, true, false, false, false, false, false, false, false, false, false, false, false, false, false, false, false, false] rfl rfl (any_of HT_.out (by kernel_rfl)) (fun _ _ _ h => h) (Or.inl ⟨by rfl, ?_⟩) ?_ ?_
              rotate_left
              · intro w'
                go_simp
                with_reducible rfl
              rotate_left
              · simp only [Act.put, List.setIfInBounds_toArray, List.set_cons_zero, List.set_cons_succ, i64_w, i32_w]
                rfl
              refine pure_ (i := 9) (N := some 72) (v := ?_) (a' := ?_) #[true, true, true, true, true, true, true, true, true, true, false, false, false, false, false, false, false, false, false, false, false, false, false, false, false] rfl rfl (any_of HT_.out (by kernel_rfl)) (fun _ _ _ h => h) (Or.inl ⟨by rfl, ?_⟩) ?_ ?_
              rotate_left
              · intro w'
                go_simp
                with_reducible rfl
              rotate_left
              · simp only [Act.put, List.setIfInBounds_toArray, List.set_cons_zero, List.set_cons_succ, i64_w, i32_w]
                rfl
              refine pure_ (i := 10) (N := some 73) (v := ?_) (a' := ?_) #[true, true, true, true, true, true, true, true, true, true, true, false, false, false, false, false, false, false, false, false, false, false, false, false, false] rfl rfl (any_of HT_.out (by kernel_rfl)) (fun _ _ _ h => h) (Or.inl ⟨by rfl, ?_⟩) ?_ ?_
              rotate_left
              · intro w'
                go_simp
                with_reducible rfl
              rotate_left
              · simp only [Act.put, List.setIfInBounds_toArray, List.set_cons_zero, List.set_cons_succ, i64_w, i32_w]
                rfl
              refine pure_ (i := 11) (N := some 74) (v := ?_) (a' := ?_) #[true, true, true, true, true, true, true, true, true, true, true, true, false, false, false, false, false, false, false, false, false, false, false, false, false] rfl rfl (any_of HT_.out (by kernel_rfl)) (fun _ _ _ h => h) (Or.inl ⟨by rfl, ?_⟩) ?_ ?_
              rotate_left
              · intro w'
                go_simp
                with_reducible rfl
              rotate_left
              · simp only [Act.put, List.setIfInBounds_toArray, List.set_cons_zero, List.set_cons_succ, i64_w, i32_w]
                rfl
              refine pure_ (i := 12) (N := some 75) (v := ?_) (a' := ?_) #[true, true, true, true, true, true, true, true, true, true, true, true, true, false, false, false, false, false, false, false, false, false, false, false, false] rfl rfl (any_of HT_.out (by kernel_rfl)) (fun _ _ _ h => h) (Or.inl ⟨by rfl, ?_⟩) ?_ ?_
              rotate_left
              · intro w'
                go_simp
                with_reducible rfl
              rotate_left
              · simp only [Act.put, List.setIfInBounds_toArray, List.set_cons_zero, List.set_cons_succ, i64_w, i32_w]
                rfl
              refine pure_ (i := 13) (N := some 76) (v := undef) (a' := ?_) #[true, true, true, true, true, true, true, true, true, true, true, true, true, true, false, false, false, false, false, false, false, false, false, false, false] rfl rfl (any_of HT_.out (by kernel_rfl)) (fun _ _ _ h => h) (Or.inr ⟨by rfl, rfl⟩) ?_ ?_
              rotate_left
              · simp only [Act.put, List.setIfInBounds_toArray, List.set_cons_zero, List.set_cons_succ, i64_w, i32_w]
                rfl
              refine pure_ (i := 14) (N := some 77) (v := undef) (a' := ?_) #[true, true, true, true, true, true, true, true, true, true, true, true, true, true, true, false, false, false, false, false, false, false, false, false, false] rfl rfl (any_of HT_.out (by kernel_rfl)) (fun _ _ _ h => h) (Or.inr ⟨by rfl, rfl⟩) ?_ ?_
              rotate_left
              · simp only [Act.put, List.setIfInBounds_toArray, List.set_cons_zero, List.set_cons_succ, i64_w, i32_w]
                rfl
              refine pure_ (i := 15) (N := some 78) (v := undef) (a' := ?_) #[true, true, true, true, true, true, true, true, true, true, true, true, true, true, true, true, false, false, false, false, false, false, false, false, false] rfl rfl (any_of HT_.out (by kernel_rfl)) (fun _ _ _ h => h) (Or.inr ⟨by rfl, rfl⟩) ?_ ?_
              rotate_left
              · simp only [Act.put, List.setIfInBounds_toArray, List.set_cons_zero, List.set_cons_succ, i64_w, i32_w]
                rfl
              refine pure_ (i := 16) (N := some 79) (v := undef) (a' := ?_) #[true, true, true, true, true, true, true, true, true, true, true, true, true, true, true, true, true, false, false, false, false, false, false, false, false] rfl rfl (any_of HT_.out (by kernel_rfl)) (fun _ _ _ h => h) (Or.inr ⟨by rfl, rfl⟩) ?_ ?_
              rotate_left
              · simp only [Act.put, List.setIfInBounds_toArray, List.set_cons_zero, List.set_cons_succ, i64_w, i32_w]
                rfl
              refine pure_ (i := 17) (N := some 80) (v := undef) (a' := ?_) #[true, true, true, true, true, true, true, true, true, true, true, true, true, true, true, true, true, true, false, false, false, false, false, false, false] rfl rfl (any_of HT_.out (by kernel_rfl)) (fun _ _ _ h => h) (Or.inr ⟨by rfl, rfl⟩) ?_ ?_
              rotate_left
              · simp only [Act.put, List.setIfInBounds_toArray, List.set_cons_zero, List.set_cons_succ, i64_w, i32_w]
                rfl
              refine pure_ (i := 18) (N := some 81) (v := undef) (a' := ?_) #[true, true, true, true, true, true, true, true, true, true, true, true, true, true, true, true, true, true, true, false, false, false, false, false, false] rfl rfl (any_of HT_.out (by kernel_rfl)) (fun _ _ _ h => h) (Or.inr ⟨by rfl, rfl⟩) ?_ ?_
              rotate_left
              · simp only [Act.put, List.setIfInBounds_toArray, List.set_cons_zero, List.set_cons_succ, i64_w, i32_w]
                rfl
              refine pure_ (i := 19) (N := some 82) (v := undef) (a' := ?_) #[true, true, true, true, true, true, true, true, true, true, true, true, true, true, true, true, true, true, true, true, false, false, false, false, false] rfl rfl (any_of HT_.out (by kernel_rfl)) (fun _ _ _ h => h) (Or.inr ⟨by rfl, rfl⟩) ?_ ?_
              rotate_left
              · simp only [Act.put, List.setIfInBounds_toArray, List.set_cons_zero, List.set_cons_succ, i64_w, i32_w]
                rfl
              refine pure_ (i := 20) (N := some 83) (v := undef) (a' := ?_) #[true, true, true, true, true, true, true, true, true, true, true, true, true, true, true, true, true, true, true, true, true, false, false, false, false] rfl rfl (any_of HT_.out (by kernel_rfl)) (fun _ _ _ h => h) (Or.inr ⟨by rfl, rfl⟩) ?_ ?_
              rotate_left
              · simp only [Act.put, List.setIfInBounds_toArray, List.set_cons_zero, List.set_cons_succ, i64_w, i32_w]
                rfl
              refine pure_ (i := 21) (N := some 84) (v := undef) (a' := ?_) #[true, true, true, true, true, true, true, true, true, true, true, true, true, true, true, true, true, true, true, true, true, true, false, false, false] rfl rfl (any_of HT_.out (by kernel_rfl)) (fun _ _ _ h => h) (Or.inr ⟨by rfl, rfl⟩) ?_ ?_
              rotate_left
              · simp only [Act.put, List.setIfInBounds_toArray, List.set_cons_zero, List.set_cons_succ, i64_w, i32_w]
                rfl
              refine pure_ (i := 22) (N := some 85) (v := undef) (a' := ?_) #[true, true, true, true, true, true, true, true, true, true, true, true, true, true, true, true, true, true, true, true, true, true, true, false, false] rfl rfl (any_of HT_.out (by kernel_rfl)) (fun _ _ _ h => h) (Or.inr ⟨by rfl, rfl⟩) ?_ ?_
              rotate_left
              · simp only [Act.put, List.setIfInBounds_toArray, List.set_cons_zero, List.set_cons_succ, i64_w, i32_w]
                rfl
              refine pure_ (i := 23) (N := some 86) (v := ?_) (a' := ?_) #[true, true, true, true, true, true, true, true, true, true, true, true, true, true, true, true, true, true, true, true, true, true, true, true, false] rfl rfl (any_of HT_.out (by kernel_rfl)) (fun _ _ _ h => h) (Or.inl ⟨by rfl, ?_⟩) ?_ ?_
              rotate_left
              · intro w'
                go_simp
                with_reducible rfl
              rotate_left
              · simp only [Act.put, List.setIfInBounds_toArray, List.set_cons_zero, List.set_cons_succ, i64_w, i32_w]
                rfl
              refine pure_ (i := 24) (N := some 87) (v := ?_) (a' := ?_) #[true, true, true, true, true, true, true, true, true, true, true, true, true, true, true, true, true, true, true, true, true, true, true, true, true] rfl rfl (any_of HT_.out (by kernel_rfl)) (fun _ _ _ h => h) (Or.inl ⟨by rfl, ?_⟩) ?_ ?_
              rotate_left
              · intro w'
                go_simp
                with_reducible rfl
              rotate_left
              · simp only [Act.put, List.setIfInBounds_toArray, List.set_cons_zero, List.set_cons_succ, i64_w, i32_w]
                rfl
              refine done_ (done_of HT_.out (by kernel_rfl)) ?_
              try go_wp2
              have ew : wrap64 (j + 1) = j + 1 := wrap64_id (by have := HJ.out; omega) (by have := H1.out; have := HL60.out; omega)
              go_roundw
              case rel => exact ⟨j + 1, by rw [ew], ⟨by have := HJ.out; omega, by have := H1.out; omega⟩, HBD⟩
              case measure =>
                rw [ew]
                have := H1.out
                have := HL60.out
                have := HJ.out.1
                simp only [intOf]
                omega
          · have e1 : decide (j < (all.length : Int)) = false := decide_eq_false h1
            go_wp2
            go_ret
            exact ⟨rfl, below_step HB8.out HBZ.out⟩
    · have e1 : decide (i < (l0.length : Int)) = false := decide_eq_false h1
      clear h1
      go_wp2_with fail
      refine (all_list _ cb mb all.length all HC.out HI.out.2.2.2.2.1 HI.out.2.2.2.2.2 (Nat.le_trans (Nat.mul_le_mul (show all.length ≤ 60 by have := HI.out; omega) (show all.length ≤ 60 by have := HI.out; omega)) (by decide))).mono ?_
      rintro e w8 ⟨v9, rfl, hR, hb⟩
      obtain ⟨A9, c9, e9⟩ := Kd.R_slice hR
      subst e9
      obtain ⟨A6, c6, e6⟩ := Kd.R_slice HR.out
      subst e6
      have H9 := Aside0.mk (Kd.R_reads' hR).2.2
      have H6 := Aside0.mk (Kd.R_reads' (Kd.R_below HR.out hb)).2.2
      have HB8 := Aside0.mk (below_step HB.out hb)
      have HS := Aside0.mk HI.out.2.2.2.2.1
      have HL60 : Aside0 ((all.length : Int) ≤ 60) := ⟨by have := HI.out; omega⟩
      clear hb hR HR HC BK HB HI hi0
      try clear e1
      try clear e2
      go_wp2
      go_loopw [10] (fun v10 wz => ∃ j : Int, v10 = .int .i64 j ∧ Aside0 (0 ≤ j ∧ j ≤ all.length) ∧ Aside0 (Below w8.heap.size w8 wz)) (fun v10 _ => 60 - (intOf v10).toNat)
      case atStart => exact ⟨0, rfl, ⟨by omega, by omega⟩, ⟨Below.refl _ _⟩⟩
      case round =>
        obtain ⟨j, rfl, HJ, HBZ⟩ := hrel
        by_cases h1 : j < (all.length : Int)
        · have e1 : decide (j < (all.length : Int)) = true := decide_eq_true h1
          have H1 := Aside0.mk h1
          have p0 := HJ.out.1
          obtain ⟨y, hy⟩ : ∃ y, rd_T43 all j = y := ⟨_, rfl⟩
          have C9 := H9.out
          have C6 := H6.out
          obtain ⟨ad9, eA9, x0, x1, x2, x3⟩ := at_T43 C9 j p0 h1
          obtain ⟨ad6, eA6, y0, y1, y2, y3⟩ := at_T43 C6 j p0 h1
          rw [hy] at x0 x1 x2 x3 y0 y1 y2 y3
          by_cases h0 : 0 < j
          · have e0 : decide (0 < j) = true := decide_eq_true h0
            obtain ⟨tt, htt⟩ : ∃ tt, tt = j - 1 := ⟨_, rfl⟩
            have ew1 : wrap64 (j - 1) = tt := (wrap64_id (by omega) (by have := HL60.out; omega)).trans htt.symm
            have p1 : 0 ≤ tt := by omega
            have q1 : tt < (all.length : Int) := by omega
            obtain ⟨u, hu⟩ : ∃ u, rd_T43 all tt = u := ⟨_, rfl⟩
            obtain ⟨ad9', eA9', z0, z1, z2, z3⟩ := at_T43 C9 tt p1 q1
            rw [hu] at z0 z1 z2 z3
            have eAA := eA9.symm.trans eA9'
            injection eAA with eAA
            subst eAA
            have HLS : Aside0 (lessS y u = false) := ⟨by rw [← hy, ← hu]; exact sorted_rd HS.out p1 (by omega) h1⟩
            clear hy hu eA9' C9 C6 htt
            cases eA9
            cases eA6
            replace x0 := (HBZ.out.cell (World.block_lt_of_cell? _ _ x0)).trans x0
            replace x1 := (HBZ.out.cell (World.block_lt_of_cell? _ _ x1)).trans x1
            replace x2 := (HBZ.out.cell (World.block_lt_of_cell? _ _ x2)).trans x2
            replace x3 := (HBZ.out.cell (World.block_lt_of_cell? _ _ x3)).trans x3
            replace y0 := (HBZ.out.cell (World.block_lt_of_cell? _ _ y0)).trans y0
            replace y1 := (HBZ.out.cell (World.block_lt_of_cell? _ _ y1)).trans y1
            replace y2 := (HBZ.out.cell (World.block_lt_of_cell? _ _ y2)).trans y2
            replace y3 := (HBZ.out.cell (World.block_lt_of_cell? _ _ y3)).trans y3
            replace z0 := (HBZ.out.cell (World.block_lt_of_cell? _ _ z0)).trans z0
            replace z1 := (HBZ.out.cell (World.block_lt_of_cell? _ _ z1)).trans z1
            replace z2 := (HBZ.out.cell (World.block_lt_of_cell? _ _ z2)).trans z2
            replace z3 := (HBZ.out.cell (World.block_lt_of_cell? _ _ z3)).trans z3
            replace p0 := eq_true p0
            replace h1 := eq_true h1
            replace p1 := eq_true p1
            replace q1 := eq_true q1
            go_wp2_with fail
            have HBD := Aside0.mk (below_drew1 HBZ.out)
            refine start_ (n := 25) (S := fun w' => w'.cell? (ad9.add ((j).toNat * 4)) = some (.int .i64 y.f0) ∧ w'.cell? ⟨(ad9.add ((j).toNat * 4)).block, (ad9.add ((j).toNat * 4)).off + 1, none⟩ = some (.int .i64 y.f1) ∧ w'.cell? ⟨(ad9.add ((j).toNat * 4)).block, (ad9.add ((j).toNat * 4)).off + 2, none⟩ = some (.int .i64 y.f2) ∧ w'.cell? ⟨(ad9.add ((j).toNat * 4)).block, (ad9.add ((j).toNat * 4)).off + 3, none⟩ = some (.int .i64 y.f3) ∧ w'.cell? (ad6.add ((j).toNat * 4)) = some (.int .i64 y.f0) ∧ w'.cell? ⟨(ad6.add ((j).toNat * 4)).block, (ad6.add ((j).toNat * 4)).off + 1, none⟩ = some (.int .i64 y.f1) ∧ w'.cell? ⟨(ad6.add ((j).toNat * 4)).block, (ad6.add ((j).toNat * 4)).off + 2, none⟩ = some (.int .i64 y.f2) ∧ w'.cell? ⟨(ad6.add ((j).toNat * 4)).block, (ad6.add ((j).toNat * 4)).off + 3, none⟩ = some (.int .i64 y.f3) ∧ w'.cell? (ad9.add ((tt).toNat * 4)) = some (.int .i64 u.f0) ∧ w'.cell? ⟨(ad9.add ((tt).toNat * 4)).block, (ad9.add ((tt).toNat * 4)).off + 1, none⟩ = some (.int .i64 u.f1) ∧ w'.cell? ⟨(ad9.add ((tt).toNat * 4)).block, (ad9.add ((tt).toNat * 4)).off + 2, none⟩ = some (.int .i64 u.f2) ∧ w'.cell? ⟨(ad9.add ((tt).toNat * 4)).block, (ad9.add ((tt).toNat * 4)).off + 3, none⟩ = some (.int .i64 u.f3)) (ds := []) #[false, false, false, false, false, false, false, false, false, false, false, false, false, false, false, false, false, false, false, false, false, false, false, false, false] (by kernel_rfl) rfl rfl ⟨x0, x1, x2, x3, y0, y1, y2, y3, z0, z1, z2, z3⟩ (fun hHeld => ?_)
            refine with_tabW donjonlaw12_QuotaCounts.tab18 donjonlaw12_QuotaCounts.bits18 (fun HT_ HW_ => ?_)
            generalize World.drew _ = wd at HBD hHeld ⊢
            refine pure_ (i := 0) (N := some 63) (v := ?_) (a' := ?_) #[true, false, false, false, false, false, false, false, false, false, false, false, false, false, false, false, false, false, false, false, false, false, false, false, false] rfl rfl (any_of HT_.out (by kernel_rfl)) (fun _ _ _ h => h) (Or.inl ⟨by rfl, ?_⟩) ?_ ?_
            rotate_left
            · intro w'
              go_simp
              with_reducible rfl
            rotate_left
            · simp only [Act.put, List.setIfInBounds_toArray, List.set_cons_zero, List.set_cons_succ, i64_w, i32_w]
              rfl
            refine pure_ (i := 1) (N := some 64) (v := ?_) (a' := ?_) #[true, true, false, false, false, false, false, false, false, false, false, false, false, false, false, false, false, false, false, false, false, false, false, false, false] rfl rfl (any_of HT_.out (by kernel_rfl)) (fun _ _ _ h => h) (Or.inl ⟨by rfl, ?_⟩) ?_ ?_
            rotate_left
            · intro w'
              go_simp
              with_reducible rfl
            rotate_left
            · simp only [Act.put, List.setIfInBounds_toArray, List.set_cons_zero, List.set_cons_succ, i64_w, i32_w]
              rfl
            refine pure_ (i := 2) (N := some 65) (v := ?_) (a' := ?_) #[true, true, true, false, false, false, false, false, false, false, false, false, false, false, false, false, false, false, false, false, false, false, false, false, false] rfl rfl (any_of HT_.out (by kernel_rfl)) (fun _ _ _ h => h) (Or.inl ⟨by rfl, ?_⟩) ?_ ?_
            rotate_left
            · intro w'
              go_simp
              with_reducible rfl
            rotate_left
            · simp only [Act.put, List.setIfInBounds_toArray, List.set_cons_zero, List.set_cons_succ, i64_w, i32_w]
              rfl
            refine pure_ (i := 4) (N := some 67) (v := ?_) (a' := ?_) #[true, true, true, false, true, false, false, false, false, false, false, false, false, false, false, false, false, false, false, false, false, false, false, false, false] rfl rfl (any_of HT_.out (by kernel_rfl)) (fun _ _ _ h => h) (Or.inl ⟨by rfl, ?_⟩) ?_ ?_
            rotate_left
            · intro w'
              go_simp
              with_reducible rfl
            rotate_left
            · simp only [Act.put, List.setIfInBounds_toArray, List.set_cons_zero, List.set_cons_succ, i64_w, i32_w]
              rfl
            refine pure_ (i := 5) (N := some 68) (v := ?_) (a' := ?_) #[true, true, true, false, true, true, false, false, false, false, false, false, false, false, false, false, false, false, false, false, false, false, false, false, false] rfl rfl (any_of HT_.out (by kernel_rfl)) (fun _ _ _ h => h) (Or.inl ⟨by rfl, ?_⟩) ?_ ?_
            rotate_left
            · intro w'
              go_simp
              with_reducible rfl
            rotate_left
            · simp only [Act.put, List.setIfInBounds_toArray, List.set_cons_zero, List.set_cons_succ, i64_w, i32_w]
              rfl
            refine pure_ (i := 6) (N := some 69) (v := ?_) (a' := ?_) #[true, true, true, false, true, true, true, false, false, false, false, false, false, false, false, false, false, false, false, false, false, false, false, false, false] rfl rfl (any_of HT_.out (by kernel_rfl)) (fun _ _ _ h => h) (Or.inl ⟨by rfl, ?_⟩) ?_ ?_
            rotate_left
            · intro w'
              go_simp
              with_reducible rfl
            rotate_left
            · simp only [Act.put, List.setIfInBounds_toArray, List.set_cons_zero, List.set_cons_succ, i64_w, i32_w]
              rfl
            refine take_ (i := 3) (N := some 66) (v := ?_) (a' := ?_) #[true, true, true, true, true, true, true, false, false, false, false, false, false, false, false, false, false, false, false, false, false, false, false, false, false] rfl rfl (take_ofW HT_.out HW_.out (by kernel_rfl)) (fun _ _ _ h => h) (Or.inl ⟨by rfl, ?_⟩) hHeld ?_ ?_
            rotate_left
            · rintro w' ⟨s0, s1, s2, s3, s4, s5, s6, s7, s8, s9, s10, s11⟩
              go_simp
              with_reducible rfl
            rotate_left
            · simp only [Act.put, List.setIfInBounds_toArray, List.set_cons_zero, List.set_cons_succ, i64_w, i32_w]
              rfl
            refine take_ (i := 7) (N := some 70) (v := ?_) (a' := ?_) #[true, true, true, true, true, true, true, true, false, false, false, false, false, false, false, false, false, false, false, false, false, false, false, false, false] rfl rfl (take_ofW HT_.out HW_.out (by kernel_rfl)) (fun _ _ _ h => h) (Or.inl ⟨by rfl, ?_⟩) hHeld ?_ ?_
            rotate_left
            · rintro w' ⟨s0, s1, s2, s3, s4, s5, s6, s7, s8, s9, s10, s11⟩
              go_simp
              with_reducible rfl
            rotate_left
            · simp only [Act.put, List.setIfInBounds_toArray, List.set_cons_zero, List.set_cons_succ, i64_w, i32_w]
              rfl
            refine pure_ (i := 8) (N := some 71) (v := ?_) (a' := ?_) #[true, true, true, true, true, true, true, true, true, false, false, false, false, false, false, false, false, false, false, false, false, false, false, false, false] rfl rfl (any_of HT_.out (by kernel_rfl)) (fun _ _ _ h => h) (Or.inl ⟨by rfl, ?_⟩) ?_ ?_
            rotate_left
            · intro w'
              go_simp
              with_reducible rfl
            rotate_left
            · simp only [Act.put, List.setIfInBounds_toArray, List.set_cons_zero, List.set_cons_succ, i64_w, i32_w]
              rfl
            refine pure_ (i := 9) (N := some 72) (v := ?_) (a' := ?_) #[true, true, true, true, true, true, true, true, true, true, false, false, false, false, false, false, false, false, false, false, false, false, false, false, false] rfl rfl (any_of HT_.out (by kernel_rfl)) (fun _ _ _ h => h) (Or.inl ⟨by rfl, ?_⟩) ?_ ?_
            rotate_left
            · intro w'
              go_simp
              with_reducible rfl
            rotate_left
            · simp only [Act.put, List.setIfInBounds_toArray, List.set_cons_zero, List.set_cons_succ, i64_w, i32_w]
              rfl
            refine pure_ (i := 10) (N := some 73) (v := ?_) (a' := ?_) #[true, true, true, true, true, true, true, true, true, true, true, false, false, false, false, false, false, false, false, false, false, false, false, false, false] rfl rfl (any_of HT_.out (by kernel_rfl)) (fun _ _ _ h => h) (Or.inl ⟨by rfl, ?_⟩) ?_ ?_
            rotate_left
            · intro w'
              go_simp
              with_reducible rfl
            rotate_left
            · simp only [Act.put, List.setIfInBounds_toArray, List.set_cons_zero, List.set_cons_succ, i64_w, i32_w]
              rfl
            refine pure_ (i := 11) (N := some 74) (v := ?_) (a' := ?_) #[true, true, true, true, true, true, true, true, true, true, true, true, false, false, false, false, false, false, false, false, false, false, false, false, false] rfl rfl (any_of HT_.out (by kernel_rfl)) (fun _ _ _ h => h) (Or.inl ⟨by rfl, ?_⟩) ?_ ?_
            rotate_left
            · intro w'
              go_simp
              with_reducible rfl
            rotate_left
            · simp only [Act.put, List.setIfInBounds_toArray, List.set_cons_zero, List.set_cons_succ, i64_w, i32_w]
              rfl
            refine pure_ (i := 12) (N := some 75) (v := ?_) (a' := ?_) #[true, true, true, true, true, true, true, true, true, true, true, true, true, false, false, false, false, false, false, false, false, false, false, false, false] rfl rfl (any_of HT_.out (by kernel_rfl)) (fun _ _ _ h => h) (Or.inl ⟨by rfl, ?_⟩) ?_ ?_
            rotate_left
            · intro w'
              go_simp
              with_reducible rfl
            rotate_left
            · simp only [Act.put, List.setIfInBounds_toArray, List.set_cons_zero, List.set_cons_succ, i64_w, i32_w]
              rfl
            refine pure_ (i := 13) (N := some 76) (v := ?_) (a' := ?_) #[true, true, true, true, true, true, true, true, true, true, true, true, true, true, false, false, false, false, false, false, false, false, false, false, false] rfl rfl (any_of HT_.out (by kernel_rfl)) (fun _ _ _ h => h) (Or.inl ⟨by rfl, ?_⟩) ?_ ?_
            rotate_left
            · intro w'
              go_simp
              with_reducible rfl
            rotate_left
            · simp only [Act.put, List.setIfInBounds_toArray, List.set_cons_zero, List.set_cons_succ, i64_w, i32_w]
              rfl
            refine pure_ (i := 14) (N := some 77) (v := ?_) (a' := ?_) #[true, true, true, true, true, true, true, true, true, true, true, true, true, true, true, false, false, false, false, false, false, false, false, false, false] rfl rfl (any_of HT_.out (by kernel_rfl)) (fun _ _ _ h => h) (Or.inl ⟨by rfl, ?_⟩) ?_ ?_
            rotate_left
            · intro w'
              go_simp
              with_reducible rfl
            rotate_left
            · simp only [Act.put, List.setIfInBounds_toArray, List.set_cons_zero, List.set_cons_succ, i64_w, i32_w]
              rfl
            refine pure_ (i := 15) (N := some 78) (v := ?_) (a' := ?_) #[true, true, true, true, true, true, true, true, true, true, true, true, true, true, true, true, false, false, false, false, false, false, false, false, false] rfl rfl (any_of HT_.out (by kernel_rfl)) (fun _ _ _ h => h) (Or.inl ⟨by rfl, ?_⟩) ?_ ?_
            rotate_left
            · intro w'
              go_simp
              with_reducible rfl
            rotate_left
            · simp only [Act.put, List.setIfInBounds_toArray, List.set_cons_zero, List.set_cons_succ, i64_w, i32_w]
              rfl
            refine pure_ (i := 17) (N := some 80) (v := ?_) (a' := ?_) #[true, true, true, true, true, true, true, true, true, true, true, true, true, true, true, true, false, true, false, false, false, false, false, false, false] rfl rfl (any_of HT_.out (by kernel_rfl)) (fun _ _ _ h => h) (Or.inl ⟨by rfl, ?_⟩) ?_ ?_
            rotate_left
            · intro w'
              go_simp
              with_reducible rfl
            rotate_left
            · simp only [Act.put, List.setIfInBounds_toArray, List.set_cons_zero, List.set_cons_succ, i64_w, i32_w]
              rfl
            refine pure_ (i := 18) (N := some 81) (v := ?_) (a' := ?_) #[true, true, true, true, true, true, true, true, true, true, true, true, true, true, true, true, false, true, true, false, false, false, false, false, false] rfl rfl (any_of HT_.out (by kernel_rfl)) (fun _ _ _ h => h) (Or.inl ⟨by rfl, ?_⟩) ?_ ?_
            rotate_left
            · intro w'
              go_simp
              with_reducible rfl
            rotate_left
            · simp only [Act.put, List.setIfInBounds_toArray, List.set_cons_zero, List.set_cons_succ, i64_w, i32_w]
              rfl
            refine pure_ (i := 19) (N := some 82) (v := ?_) (a' := ?_) #[true, true, true, true, true, true, true, true, true, true, true, true, true, true, true, true, false, true, true, true, false, false, false, false, false] rfl rfl (any_of HT_.out (by kernel_rfl)) (fun _ _ _ h => h) (Or.inl ⟨by rfl, ?_⟩) ?_ ?_
            rotate_left
            · intro w'
              go_simp
              with_reducible rfl
            rotate_left
            · simp only [Act.put, List.setIfInBounds_toArray, List.set_cons_zero, List.set_cons_succ, i64_w, i32_w]
              rfl
            refine pure_ (i := 20) (N := some 83) (v := ?_) (a' := ?_) #[true, true, true, true, true, true, true, true, true, true, true, true, true, true, true, true, false, true, true, true, true, false, false, false, false] rfl rfl (any_of HT_.out (by kernel_rfl)) (fun _ _ _ h => h) (Or.inl ⟨by rfl, ?_⟩) ?_ ?_
            rotate_left
            · intro w'
              go_simp
              with_reducible rfl
            rotate_left
            · simp only [Act.put, List.setIfInBounds_toArray, List.set_cons_zero, List.set_cons_succ, i64_w, i32_w]
              rfl
            refine take_ (i := 16) (N := some 79) (v := ?_) (a' := ?_) #[true, true, true, true, true, true, true, true, true, true, true, true, true, true, true, true, true, true, true, true, true, false, false, false, false] rfl rfl (take_ofW HT_.out HW_.out (by kernel_rfl)) (fun _ _ _ h => h) (Or.inl ⟨by rfl, ?_⟩) hHeld ?_ ?_
            rotate_left
            · rintro w' ⟨s0, s1, s2, s3, s4, s5, s6, s7, s8, s9, s10, s11⟩
              go_simp
              with_reducible rfl
            rotate_left
            · simp only [Act.put, List.setIfInBounds_toArray, List.set_cons_zero, List.set_cons_succ, i64_w, i32_w]
              rfl
            refine take_ (i := 21) (N := some 84) (v := ?_) (a' := ?_) #[true, true, true, true, true, true, true, true, true, true, true, true, true, true, true, true, true, true, true, true, true, true, false, false, false] rfl rfl (take_ofW HT_.out HW_.out (by kernel_rfl)) (fun _ _ _ h => h) (Or.inl ⟨by rfl, ?_⟩) hHeld ?_ ?_
            rotate_left
            · rintro w' ⟨s0, s1, s2, s3, s4, s5, s6, s7, s8, s9, s10, s11⟩
              go_simp
              with_reducible rfl
            rotate_left
            · simp only [Act.put, List.setIfInBounds_toArray, List.set_cons_zero, List.set_cons_succ, i64_w, i32_w]
              rfl
            refine one_ (i := 22) (N := some 85) #[true, true, true, true, true, true, true, true, true, true, true, true, true, true, true, true, true, true, true, true, true, true, true, false, false] rfl rfl (one_of HT_.out (by kernel_rfl)) (by decide) (fun K hK => ?_)
            refine goes_ Try.func23 (by kernel_rfl) rfl #[.agg #[.int .i64 y.f0, .int .i64 y.f1, .int .i64 y.f2, .int .i64 y.f3], .agg #[.int .i64 u.f0, .int .i64 u.f1, .int .i64 u.f2, .int .i64 u.f3]] (by rfl) rfl rfl (by (try simp only [List.map_toArray, List.map_cons, List.map_nil]); first | done | rfl) ?_
            refine (donjonref4_Less.calls _ _ _ _ _ _ _ _ false _ ((less_f y u).trans (by rw [HLS.out]))).mono ?_
            rintro e w9 ⟨rfl, hb⟩
            refine ⟨_, rfl, ?_⟩
            have HBE := Aside0.mk (below_step HBD.out hb)
            have old := fun p (v : Value) (h : wd.cell? p = some v) => (hb.cell (World.block_lt_of_cell? _ _ h)).trans h
            obtain ⟨s0, s1, s2, s3, s4, s5, s6, s7, s8, s9, s10, s11⟩ := hHeld
            have HBD := HBE
            refine hK.out _ _ ⟨old _ _ s0, old _ _ s1, old _ _ s2, old _ _ s3, old _ _ s4, old _ _ s5, old _ _ s6, old _ _ s7, old _ _ s8, old _ _ s9, old _ _ s10, old _ _ s11⟩ (fun hHeld => ?_)
            clear hK K
            refine norm_ (a' := ?_) ?_ ?_
            rotate_left
            · show Act.put _ (some 85) _ = _
              simp only [Act.put, List.setIfInBounds_toArray, List.set_cons_zero, List.set_cons_succ, i64_w, i32_w]
              rfl
            refine pure_ (i := 23) (N := some 86) (v := ?_) (a' := ?_) #[true, true, true, true, true, true, true, true, true, true, true, true, true, true, true, true, true, true, true, true, true, true, true, true, false] rfl rfl (any_of HT_.out (by kernel_rfl)) (fun _ _ _ h => h) (Or.inl ⟨by rfl, ?_⟩) ?_ ?_
            rotate_left
            · intro w'
              go_simp
              with_reducible rfl
            rotate_left
            · simp only [Act.put, List.setIfInBounds_toArray, List.set_cons_zero, List.set_cons_succ, i64_w, i32_w]
              rfl
            refine pure_ (i := 24) (N := some 87) (v := ?_) (a' := ?_) #[true, true, true, true, true, true, true, true, true, true, true, true, true, true, true, true, true, true, true, true, true, true, true, true, true] rfl rfl (any_of HT_.out (by kernel_rfl)) (fun _ _ _ h => h) (Or.inl ⟨by rfl, ?_⟩) ?_ ?_
            rotate_left
            · intro w'
              go_simp
              with_reducible rfl
            rotate_left
            · simp only [Act.put, List.setIfInBounds_toArray, List.set_cons_zero, List.set_cons_succ, i64_w, i32_w]
              rfl
            refine done_ (done_of HT_.out (by kernel_rfl)) ?_
            try go_wp2
            have ew : wrap64 (j + 1) = j + 1 := wrap64_id (by have := HJ.out; omega) (by have := H1.out; have := HL60.out; omega)
            go_roundw
            case rel => exact ⟨j + 1, by rw [ew], ⟨by have := HJ.out; omega, by have := H1.out; omega⟩, HBD⟩
            case measure =>
              rw [ew]
              have := H1.out
              have := HL60.out
              have := HJ.out.1
              simp only [intOf]
              omega
          · have e0 : decide (0 < j) = false := decide_eq_false h0
            clear hy C9 C6
            cases eA9
            cases eA6
            replace x0 := (HBZ.out.cell (World.block_lt_of_cell? _ _ x0)).trans x0
            replace x1 := (HBZ.out.cell (World.block_lt_of_cell? _ _ x1)).trans x1
            replace x2 := (HBZ.out.cell (World.block_lt_of_cell? _ _ x2)).trans x2
            replace x3 := (HBZ.out.cell (World.block_lt_of_cell? _ _ x3)).trans x3
            replace y0 := (HBZ.out.cell (World.block_lt_of_cell? _ _ y0)).trans y0
            replace y1 := (HBZ.out.cell (World.block_lt_of_cell? _ _ y1)).trans y1
            replace y2 := (HBZ.out.cell (World.block_lt_of_cell? _ _ y2)).trans y2
            replace y3 := (HBZ.out.cell (World.block_lt_of_cell? _ _ y3)).trans y3
            replace p0 := eq_true p0
            replace h1 := eq_true h1
            go_wp2_with fail
            have HBD := Aside0.mk (below_drew1 HBZ.out)
            refine start_ (n := 25) (S := fun w' => w'.cell? (ad9.add ((j).toNat * 4)) = some (.int .i64 y.f0) ∧ w'.cell? ⟨(ad9.add ((j).toNat * 4)).block, (ad9.add ((j).toNat * 4)).off + 1, none⟩ = some (.int .i64 y.f1) ∧ w'.cell? ⟨(ad9.add ((j).toNat * 4)).block, (ad9.add ((j).toNat * 4)).off + 2, none⟩ = some (.int .i64 y.f2) ∧ w'.cell? ⟨(ad9.add ((j).toNat * 4)).block, (ad9.add ((j).toNat * 4)).off + 3, none⟩ = some (.int .i64 y.f3) ∧ w'.cell? (ad6.add ((j).toNat * 4)) = some (.int .i64 y.f0) ∧ w'.cell? ⟨(ad6.add ((j).toNat * 4)).block, (ad6.add ((j).toNat * 4)).off + 1, none⟩ = some (.int .i64 y.f1) ∧ w'.cell? ⟨(ad6.add ((j).toNat * 4)).block, (ad6.add ((j).toNat * 4)).off + 2, none⟩ = some (.int .i64 y.f2) ∧ w'.cell? ⟨(ad6.add ((j).toNat * 4)).block, (ad6.add ((j).toNat * 4)).off + 3, none⟩ = some (.int .i64 y.f3)) (ds := []) #[false, false, false, false, false, false, false, false, false, false, false, false, false, false, false, false, false, false, false, false, false, false, false, false, false] (by kernel_rfl) rfl rfl ⟨x0, x1, x2, x3, y0, y1, y2, y3⟩ (fun hHeld => ?_)
            refine with_tabW donjonlaw12_QuotaCounts.tab18 donjonlaw12_QuotaCounts.bits18 (fun HT_ HW_ => ?_)
            generalize World.drew _ = wd at HBD hHeld ⊢
            refine pure_ (i := 0) (N := some 63) (v := ?_) (a' := ?_) #[true, false, false, false, false, false, false, false, false, false, false, false, false, false, false, false, false, false, false, false, false, false, false, false, false] rfl rfl (any_of HT_.out (by kernel_rfl)) (fun _ _ _ h => h) (Or.inl ⟨by rfl, ?_⟩) ?_ ?_
            rotate_left
            · intro w'
              go_simp
              with_reducible rfl
            rotate_left
            · simp only [Act.put, List.setIfInBounds_toArray, List.set_cons_zero, List.set_cons_succ, i64_w, i32_w]
              rfl
            refine pure_ (i := 1) (N := some 64) (v := ?_) (a' := ?_) #[true, true, false, false, false, false, false, false, false, false, false, false, false, false, false, false, false, false, false, false, false, false, false, false, false] rfl rfl (any_of HT_.out (by kernel_rfl)) (fun _ _ _ h => h) (Or.inl ⟨by rfl, ?_⟩) ?_ ?_
            rotate_left
            · intro w'
              go_simp
              with_reducible rfl
            rotate_left
            · simp only [Act.put, List.setIfInBounds_toArray, List.set_cons_zero, List.set_cons_succ, i64_w, i32_w]
              rfl
            refine pure_ (i := 2) (N := some 65) (v := ?_) (a' := ?_) #[true, true, true, false, false, false, false, false, false, false, false, false, false, false, false, false, false, false, false, false, false, false, false, false, false] rfl rfl (any_of HT_.out (by kernel_rfl)) (fun _ _ _ h => h) (Or.inl ⟨by rfl, ?_⟩) ?_ ?_
            rotate_left
            · intro w'
              go_simp
              with_reducible rfl
            rotate_left
            · simp only [Act.put, List.setIfInBounds_toArray, List.set_cons_zero, List.set_cons_succ, i64_w, i32_w]
              rfl
            refine pure_ (i := 4) (N := some 67) (v := ?_) (a' := ?_) #[true, true, true, false, true, false, false, false, false, false, false, false, false, false, false, false, false, false, false, false, false, false, false, false, false] rfl rfl (any_of HT_.out (by kernel_rfl)) (fun _ _ _ h => h) (Or.inl ⟨by rfl, ?_⟩) ?_ ?_
            rotate_left
            · intro w'
              go_simp
              with_reducible rfl
            rotate_left
            · simp only [Act.put, List.setIfInBounds_toArray, List.set_cons_zero, List.set_cons_succ, i64_w, i32_w]
              rfl
            refine pure_ (i := 5) (N := some 68) (v := ?_) (a' := ?_) #[true, true, true, false, true, true, false, false, false, false, false, false, false, false, false, false, false, false, false, false, false, false, false, false, false] rfl rfl (any_of HT_.out (by kernel_rfl)) (fun _ _ _ h => h) (Or.inl ⟨by rfl, ?_⟩) ?_ ?_
            rotate_left
            · intro w'
              go_simp
              with_reducible rfl
            rotate_left
            · simp only [Act.put, List.setIfInBounds_toArray, List.set_cons_zero, List.set_cons_succ, i64_w, i32_w]
              rfl
            refine pure_ (i := 6) (N := some 69) (v := ?_) (a' := ?_) #[true, true, true, false, true, true, true, false, false, false, false, false, false, false, false, false, false, false, false, false, false, false, false, false, false] rfl rfl (any_of HT_.out (by kernel_rfl)) (fun _ _ _ h => h) (Or.inl ⟨by rfl, ?_⟩) ?_ ?_
            rotate_left
            · intro w'
              go_simp
              with_reducible rfl
            rotate_left
            · simp only [Act.put, List.setIfInBounds_toArray, List.set_cons_zero, List.set_cons_succ, i64_w, i32_w]
              rfl
            refine take_ (i := 3) (N := some 66) (v := ?_) (a' := ?_) #[true, true, true, true, true, true, true, false, false, false, false, false, false, false, false, false, false, false, false, false, false, false, false, false, false] rfl rfl (take_ofW HT_.out HW_.out (by kernel_rfl)) (fun _ _ _ h => h) (Or.inl ⟨by rfl, ?_⟩) hHeld ?_ ?_
            rotate_left
            · rintro w' ⟨s0, s1, s2, s3, s4, s5, s6, s7⟩
              go_simp
              with_reducible rfl
            rotate_left
            · simp only [Act.put, List.setIfInBounds_toArray, List.set_cons_zero, List.set_cons_succ, i64_w, i32_w]
              rfl
            refine take_ (i := 7) (N := some 70) (v := ?_) (a' := ?_) #[true, true, true, true, true, true, true, true, false, false, false, false, false, false, false, false, false, false, false, false, false, false, false, false, false] rfl rfl (take_ofW HT_.out HW_.out (by kernel_rfl)) (fun _ _ _ h => h) (Or.inl ⟨by rfl, ?_⟩) hHeld ?_ ?_
            rotate_left
            · rintro w' ⟨s0, s1, s2, s3, s4, s5, s6, s7⟩
              go_simp
              with_reducible rfl
            rotate_left
            · simp only [Act.put, List.setIfInBounds_toArray, List.set_cons_zero, List.set_cons_succ, i64_w, i32_w]
              rfl
            refine pure_ (i := 8) (N := some 71) (v := ?_) (a' := ?_) #[true, true, true, true, true, true, true, true, true, false, false, false, false, false, false, false, false, false, false, false, false, false, false, false, false] rfl rfl (any_of HT_.out (by kernel_rfl)) (fun _ _ _ h => h) (Or.inl ⟨by rfl, ?_⟩) ?_ ?_
            rotate_left
            · intro w'
              go_simp
              with_reducible rfl
            rotate_left
            · simp only [Act.put, List.setIfInBounds_toArray, List.set_cons_zero, List.set_cons_succ, i64_w, i32_w]
              rfl
            refine pure_ (i := 9) (N := some 72) (v := ?_) (a' := ?_) #[true, true, true, true, true, true, true, true, true, true, false, false, false, false, false, false, false, false, false, false, false, false, false, false, false] rfl rfl (any_of HT_.out (by kernel_rfl)) (fun _ _ _ h => h) (Or.inl ⟨by rfl, ?_⟩) ?_ ?_
            rotate_left
            · intro w'
              go_simp
              with_reducible rfl
            rotate_left
            · simp only [Act.put, List.setIfInBounds_toArray, List.set_cons_zero, List.set_cons_succ, i64_w, i32_w]
              rfl
            refine pure_ (i := 10) (N := some 73) (v := ?_) (a' := ?_) #[true, true, true, true, true, true, true, true, true, true, true, false, false, false, false, false, false, false, false, false, false, false, false, false, false] rfl rfl (any_of HT_.out (by kernel_rfl)) (fun _ _ _ h => h) (Or.inl ⟨by rfl, ?_⟩) ?_ ?_
            rotate_left
            · intro w'
              go_simp
              with_reducible rfl
            rotate_left
            · simp only [Act.put, List.setIfInBounds_toArray, List.set_cons_zero, List.set_cons_succ, i64_w, i32_w]
              rfl
            refine pure_ (i := 11) (N := some 74) (v := ?_) (a' := ?_) #[true, true, true, true, true, true, true, true, true, true, true, true, false, false, false, false, false, false, false, false, false, false, false, false, false] rfl rfl (any_of HT_.out (by kernel_rfl)) (fun _ _ _ h => h) (Or.inl ⟨by rfl, ?_⟩) ?_ ?_
            rotate_left
            · intro w'
              go_simp
              with_reducible rfl
            rotate_left
            · simp only [Act.put, List.setIfInBounds_toArray, List.set_cons_zero, List.set_cons_succ, i64_w, i32_w]
              rfl
            refine pure_ (i := 12) (N := some 75) (v := ?_) (a' := ?_) #[true, true, true, true, true, true, true, true, true, true, true, true, true, false, false, false, false, false, false, false, false, false, false, false, false] rfl rfl (any_of HT_.out (by kernel_rfl)) (fun _ _ _ h => h) (Or.inl ⟨by rfl, ?_⟩) ?_ ?_
            rotate_left
            · intro w'
              go_simp
              with_reducible rfl
            rotate_left
            · simp only [Act.put, List.setIfInBounds_toArray, List.set_cons_zero, List.set_cons_succ, i64_w, i32_w]
              rfl
            refine pure_ (i := 13) (N := some 76) (v := undef) (a' := ?_) #[true, true, true, true, true, true, true, true, true, true, true, true, true, true, false, false, false, false, false, false, false, false, false, false, false] rfl rfl (any_of HT_.out (by kernel_rfl)) (fun _ _ _ h => h) (Or.inr ⟨by rfl, rfl⟩) ?_ ?_
            rotate_left
            · simp only [Act.put, List.setIfInBounds_toArray, List.set_cons_zero, List.set_cons_succ, i64_w, i32_w]
              rfl
            refine pure_ (i := 14) (N := some 77) (v := undef) (a' := ?_) #[true, true, true, true, true, true, true, true, true, true, true, true, true, true, true, false, false, false, false, false, false, false, false, false, false] rfl rfl (any_of HT_.out (by kernel_rfl)) (fun _ _ _ h => h) (Or.inr ⟨by rfl, rfl⟩) ?_ ?_
            rotate_left
            · simp only [Act.put, List.setIfInBounds_toArray, List.set_cons_zero, List.set_cons_succ, i64_w, i32_w]
              rfl
            refine pure_ (i := 15) (N := some 78) (v := undef) (a' := ?_) #[true, true, true, true, true, true, true, true, true, true, true, true, true, true, true, true, false, false, false, false, false, false, false, false, false] rfl rfl (any_of HT_.out (by kernel_rfl)) (fun _ _ _ h => h) (Or.inr ⟨by rfl, rfl⟩) ?_ ?_
            rotate_left
            · simp only [Act.put, List.setIfInBounds_toArray, List.set_cons_zero, List.set_cons_succ, i64_w, i32_w]
              rfl
            refine pure_ (i := 16) (N := some 79) (v := undef) (a' := ?_) #[true, true, true, true, true, true, true, true, true, true, true, true, true, true, true, true, true, false, false, false, false, false, false, false, false] rfl rfl (any_of HT_.out (by kernel_rfl)) (fun _ _ _ h => h) (Or.inr ⟨by rfl, rfl⟩) ?_ ?_
            rotate_left
            · simp only [Act.put, List.setIfInBounds_toArray, List.set_cons_zero, List.set_cons_succ, i64_w, i32_w]
              rfl
            refine pure_ (i := 17) (N := some 80) (v := undef) (a' := ?_) #[true, true, true, true, true, true, true, true, true, true, true, true, true, true, true, true, true, true, false, false, false, false, false, false, false] rfl rfl (any_of HT_.out (by kernel_rfl)) (fun _ _ _ h => h) (Or.inr ⟨by rfl, rfl⟩) ?_ ?_
            rotate_left
            · simp only [Act.put, List.setIfInBounds_toArray, List.set_cons_zero, List.set_cons_succ, i64_w, i32_w]
              rfl
            refine pure_ (i := 18) (N := some 81) (v := undef) (a' := ?_) #[true, true, true, true, true, true, true, true, true, true, true, true, true, true, true, true, true, true, true, false, false, false, false, false, false] rfl rfl (any_of HT_.out (by kernel_rfl)) (fun _ _ _ h => h) (Or.inr ⟨by rfl, rfl⟩) ?_ ?_
            rotate_left
            · simp only [Act.put, List.setIfInBounds_toArray, List.set_cons_zero, List.set_cons_succ, i64_w, i32_w]
              rfl
            refine pure_ (i := 19) (N := some 82) (v := undef) (a' := ?_) #[true, true, true, true, true, true, true, true, true, true, true, true, true, true, true, true, true, true, true, true, false, false, false, false, false] rfl rfl (any_of HT_.out (by kernel_rfl)) (fun _ _ _ h => h) (Or.inr ⟨by rfl, rfl⟩) ?_ ?_
            rotate_left
            · simp only [Act.put, List.setIfInBounds_toArray, List.set_cons_zero, List.set_cons_succ, i64_w, i32_w]
              rfl
            refine pure_ (i := 20) (N := some 83) (v := undef) (a' := ?_) #[true, true, true, true, true, true, true, true, true, true, true, true, true, true, true, true, true, true, true, true, true, false, false, false, false] rfl rfl (any_of HT_.out (by kernel_rfl)) (fun _ _ _ h => h) (Or.inr ⟨by rfl, rfl⟩) ?_ ?_
            rotate_left
            · simp only [Act.put, List.setIfInBounds_toArray, List.set_cons_zero, List.set_cons_succ, i64_w, i32_w]
              rfl
            refine pure_ (i := 21) (N := some 84) (v := undef) (a' := ?_) #[true, true, true, true, true, true, true, true, true, true, true, true, true, true, true, true, true, true, true, true, true, true, false, false, false] rfl rfl (any_of HT_.out (by kernel_rfl)) (fun _ _ _ h => h) (Or.inr ⟨by rfl, rfl⟩) ?_ ?_
            rotate_left
            · simp only [Act.put, List.setIfInBounds_toArray, List.set_cons_zero, List.set_cons_succ, i64_w, i32_w]
              rfl
            refine pure_ (i := 22) (N := some 85) (v := undef) (a' := ?_) #[true, true, true, true, true, true, true, true, true, true, true, true, true, true, true, true, true, true, true, true, true, true, true, false, false] rfl rfl (any_of HT_.out (by kernel_rfl)) (fun _ _ _ h => h) (Or.inr ⟨by rfl, rfl⟩) ?_ ?_
            rotate_left
            · simp only [Act.put, List.setIfInBounds_toArray, List.set_cons_zero, List.set_cons_succ, i64_w, i32_w]
              rfl
            refine pure_ (i := 23) (N := some 86) (v := ?_) (a' := ?_) #[true, true, true, true, true, true, true, true, true, true, true, true, true, true, true, true, true, true, true, true, true, true, true, true, false] rfl rfl (any_of HT_.out (by kernel_rfl)) (fun _ _ _ h => h) (Or.inl ⟨by rfl, ?_⟩) ?_ ?_
            rotate_left
            · intro w'
              go_simp
              with_reducible rfl
            rotate_left
            · simp only [Act.put, List.setIfInBounds_toArray, List.set_cons_zero, List.set_cons_succ, i64_w, i32_w]
              rfl
            refine pure_ (i := 24) (N := some 87) (v := ?_) (a' := ?_) #[true, true, true, true, true, true, true, true, true, true, true, true, true, true, true, true, true, true, true, true, true, true, true, true, true] rfl rfl (any_of HT_.out (by kernel_rfl)) (fun _ _ _ h => h) (Or.inl ⟨by rfl, ?_⟩) ?_ ?_
            rotate_left
            · intro w'
              go_simp
              with_reducible rfl
            rotate_left
            · simp only [Act.put, List.setIfInBounds_toArray, List.set_cons_zero, List.set_cons_succ, i64_w, i32_w]
              rfl
            refine done_ (done_of HT_.out (by kernel_rfl)) ?_
            try go_wp2
            have ew : wrap64 (j + 1) = j + 1 := wrap64_id (by have := HJ.out; omega) (by have := H1.out; have := HL60.out; omega)
            go_roundw
            case rel => exact ⟨j + 1, by rw [ew], ⟨by have := HJ.out; omega, by have := H1.out; omega⟩, HBD⟩
            case measure =>
              rw [ew]
              have := H1.out
              have := HL60.out
              have := HJ.out.1
              simp only [intOf]
              omega
        · have e1 : decide (j < (all.length : Int)) = false := decide_eq_false h1
          go_wp2
          go_ret
          exact ⟨rfl, below_step HB8.out HBZ.out⟩

end Go.Proofs.Ytinbhijeonghaaa.X
