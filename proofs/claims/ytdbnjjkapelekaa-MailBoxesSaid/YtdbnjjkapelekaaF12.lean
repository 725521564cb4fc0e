/- Written by a program of this session over the kit's print: YtdbnjjkapelekaaF12. -/
import Derived.Test.YtdbnjjkapelekaaH
import Derived.Test.YtdbnjjkapelekaaF10
import Derived.Test.YtdbnjjkapelekaaF25
namespace Go.Proofs.Ytdbnjjkapelekaa.X
open Go.RowKit Go.Proofs.YtdbnjjkapelekaaW.PrintWords Go.Proofs.YtdbnjjkapelekaaW.PrintLast Go.Proofs.YtdbnjjkapelekaaW.PrintMore Go.Proofs.Ytdbnjjkapelekaa.More
attribute [local go_sem] max2_int min2_int max_two min_two max_three min_three max_four min_four binOp_string_leq binOp_string_gtr   -- for this text's walks alone
set_option linter.unusedVariables false
set_option linter.unusedSimpArgs false

/-! ### donjonlaw18_good: function 12 -/
def donjonlaw18_good.f (a0_0 : ByteArray) (a0_1 : Int) (a0_2 : Int) (a0_3 : Int) (a0_4 : Int) (a0_5 : ByteArray) (a0_6 : Int) (a0_7 : Int) (a0_8 : Int) (a0_9 : Int) (a0_10 : ByteArray) (a1 : Int) : Option (ByteArray × Int × Int × Int × Int × ByteArray × Int × Int × Int × Int × ByteArray) := (donjonlaw18_within.f a1 4).bind fun t103 => ((some (([(wrap64 (97 + t103)) % 256] : List Int) : List Int)).bind fun y104 => ((donjonlaw18_within.f (wrap64 (Int.tdiv a1 4)) 4).bind fun t107 => ((some (([(wrap64 (97 + t107)) % 256] : List Int) : List Int)).bind fun y108 => ((donjonlaw4_Good.f a0_1 a0_2 a0_3 a0_4).bind fun bt111 => ((donjonlaw4_Good.f a0_6 a0_7 a0_8 a0_9).bind fun bt115 => (if (a0_10.size : Int) > 40 then (if 0 ≤ 40 then (if 40 ≤ (a0_10.size : Int) then (some (strOfNums y104, bt111.1, bt111.2.1, bt111.2.2.1, bt111.2.2.2, strOfNums y108, bt115.1, bt115.2.1, bt115.2.2.1, bt115.2.2.2, a0_10.extract 0 40)) else (none)) else (none)) else (some (strOfNums y104, bt111.1, bt111.2.1, bt111.2.2.1, bt111.2.2.2, strOfNums y108, bt115.1, bt115.2.1, bt115.2.2.1, bt115.2.2.2, a0_10))))))))
def donjonlaw18_good.T1 : Bool × List (List Nat × List Nat) := (true, [([], []), ([0], [0]), ([1], [1]), ([2], [2]), ([3], [3]), ([4], [4]), ([], []), ([6], [6]), ([7, 1], [7]), ([8], [8]), ([9], [9]), ([10], [10]), ([11], [11]), ([0, 1, 2, 3, 4, 5], []), ([13, 5, 8, 0, 1, 2, 3, 4, 5], [5, 13]), ([0, 1, 2, 3, 4, 5, 6, 7, 8, 9, 10, 11, 12, 13, 14], []), ([15, 12, 14, 0, 1, 2, 3, 4, 5, 6, 7, 8, 9, 10, 11, 12, 13, 14], [12, 15])])
def donjonlaw18_good.B1 : List Nat := [0, 1, 3, 7, 15, 31, 0, 64, 195, 451, 963, 1987, 4035, 63, 8703, 32767, 65535]
theorem donjonlaw18_good.tab1 : rtab .any (opsOf Try.f12 1) = donjonlaw18_good.T1 := by kernel_rfl
theorem donjonlaw18_good.bits1 : waitsOk donjonlaw18_good.T1.2 donjonlaw18_good.B1 = true := by kernel_rfl
def donjonlaw18_good.T2 : Bool × List (List Nat × List Nat) := (true, [([], []), ([0], [0]), ([1], [1]), ([], []), ([3], [3]), ([4, 2], [4]), ([0, 1, 2, 3, 4], []), ([6, 2, 5, 0, 1, 2, 3, 4], [2, 6]), ([0, 1, 2, 3, 4, 5, 6, 7], []), ([8, 5, 7, 0, 1, 2, 3, 4, 5, 6, 7], [5, 8])])
def donjonlaw18_good.B2 : List Nat := [0, 1, 3, 0, 8, 31, 31, 127, 255, 511]
theorem donjonlaw18_good.tab2 : rtab .any (opsOf Try.f12 2) = donjonlaw18_good.T2 := by kernel_rfl
theorem donjonlaw18_good.bits2 : waitsOk donjonlaw18_good.T2.2 donjonlaw18_good.B2 = true := by kernel_rfl
set_option maxHeartbeats 8000000 in
set_option maxRecDepth 100000 in
theorem donjonlaw18_good.calls (a0_0 : ByteArray) (a0_1 : Int) (a0_2 : Int) (a0_3 : Int) (a0_4 : Int) (a0_5 : ByteArray) (a0_6 : Int) (a0_7 : Int) (a0_8 : Int) (a0_9 : Int) (a0_10 : ByteArray) (a1 : Int) (r1 : ByteArray) (r2 : Int) (r3 : Int) (r4 : Int) (r5 : Int) (r6 : ByteArray) (r7 : Int) (r8 : Int) (r9 : Int) (r10 : Int) (r11 : ByteArray) (w : World) (h : donjonlaw18_good.f a0_0 a0_1 a0_2 a0_3 a0_4 a0_5 a0_6 a0_7 a0_8 a0_9 a0_10 a1 = some (r1, r2, r3, r4, r5, r6, r7, r8, r9, r10, r11)) :
  Calls Try.prog 12 #[.agg #[.string a0_0, .int .i64 a0_1, .int .i64 a0_2, .int .i64 a0_3, .int .i64 a0_4, .string a0_5, .int .i64 a0_6, .int .i64 a0_7, .int .i64 a0_8, .int .i64 a0_9, .string a0_10], .int .i64 a1] w fun e w' => e = .returned (.agg #[.string r1, .int .i64 r2, .int .i64 r3, .int .i64 r4, .int .i64 r5, .string r6, .int .i64 r7, .int .i64 r8, .int .i64 r9, .int .i64 r10, .string r11]) ∧ Below w.heap.size w w' := by
 have hu28 := Try.underlying28; have hu26 := Try.underlying26; have HB := Aside0.mk (Below.refl w.heap.size w); have H : ((donjonlaw18_within.f a1 4).bind fun t103 => ((some (([(wrap64 (97 + t103)) % 256] : List Int) : List Int)).bind fun y104 => ((donjonlaw18_within.f (wrap64 (Int.tdiv a1 4)) 4).bind fun t107 => ((some (([(wrap64 (97 + t107)) % 256] : List Int) : List Int)).bind fun y108 => ((donjonlaw4_Good.f a0_1 a0_2 a0_3 a0_4).bind fun bt111 => ((donjonlaw4_Good.f a0_6 a0_7 a0_8 a0_9).bind fun bt115 => (if (a0_10.size : Int) > 40 then (if 0 ≤ 40 then (if 40 ≤ (a0_10.size : Int) then (some (strOfNums y104, bt111.1, bt111.2.1, bt111.2.2.1, bt111.2.2.2, strOfNums y108, bt115.1, bt115.2.1, bt115.2.2.1, bt115.2.2.2, a0_10.extract 0 40)) else (none)) else (none)) else (some (strOfNums y104, bt111.1, bt111.2.1, bt111.2.2.1, bt111.2.2.2, strOfNums y108, bt115.1, bt115.2.1, bt115.2.2.1, bt115.2.2.2, a0_10))))))))) = some (r1, r2, r3, r4, r5, r6, r7, r8, r9, r10, r11) := h; clear h; replace H := Option.bind_eq_some_iff.mp H; obtain ⟨t103, A30, H⟩ := H; (try dsimp only at H); have A3 := Aside0.mk A30; clear A30; obtain ⟨y104, hy104⟩ : ∃ y_ : List Int, y_ = (([(wrap64 (97 + t103)) % 256] : List Int)) := ⟨_, rfl⟩
 replace H : ((donjonlaw18_within.f (wrap64 (Int.tdiv a1 4)) 4).bind fun t107 => ((some (([(wrap64 (97 + t107)) % 256] : List Int) : List Int)).bind fun y108 => ((donjonlaw4_Good.f a0_1 a0_2 a0_3 a0_4).bind fun bt111 => ((donjonlaw4_Good.f a0_6 a0_7 a0_8 a0_9).bind fun bt115 => (if (a0_10.size : Int) > 40 then (if 0 ≤ 40 then (if 40 ≤ (a0_10.size : Int) then (some (strOfNums y104, bt111.1, bt111.2.1, bt111.2.2.1, bt111.2.2.2, strOfNums y108, bt115.1, bt115.2.1, bt115.2.2.1, bt115.2.2.2, a0_10.extract 0 40)) else (none)) else (none)) else (some (strOfNums y104, bt111.1, bt111.2.1, bt111.2.2.1, bt111.2.2.2, strOfNums y108, bt115.1, bt115.2.1, bt115.2.2.1, bt115.2.2.2, a0_10))))))) = some (r1, r2, r3, r4, r5, r6, r7, r8, r9, r10, r11) := by first | (rw [hy104]; with_reducible exact H) | (have H2_ := (Option.bind_some _ _).symm.trans H; rw [hy104]; with_reducible exact H2_) | (have H2_ := (Option.bind_some _ _).symm.trans H; with_reducible exact H2_) | with_reducible exact H | (rw [hy104]; exact H) | exact H
 have Ny104 := Aside0.mk hy104; clear hy104; replace H := Option.bind_eq_some_iff.mp H; obtain ⟨t107, A40, H⟩ := H; (try dsimp only at H); have A4 := Aside0.mk A40; clear A40; obtain ⟨y108, hy108⟩ : ∃ y_ : List Int, y_ = (([(wrap64 (97 + t107)) % 256] : List Int)) := ⟨_, rfl⟩
 replace H : ((donjonlaw4_Good.f a0_1 a0_2 a0_3 a0_4).bind fun bt111 => ((donjonlaw4_Good.f a0_6 a0_7 a0_8 a0_9).bind fun bt115 => (if (a0_10.size : Int) > 40 then (if 0 ≤ 40 then (if 40 ≤ (a0_10.size : Int) then (some (strOfNums y104, bt111.1, bt111.2.1, bt111.2.2.1, bt111.2.2.2, strOfNums y108, bt115.1, bt115.2.1, bt115.2.2.1, bt115.2.2.2, a0_10.extract 0 40)) else (none)) else (none)) else (some (strOfNums y104, bt111.1, bt111.2.1, bt111.2.2.1, bt111.2.2.2, strOfNums y108, bt115.1, bt115.2.1, bt115.2.2.1, bt115.2.2.2, a0_10))))) = some (r1, r2, r3, r4, r5, r6, r7, r8, r9, r10, r11) := by first | (rw [hy108]; with_reducible exact H) | (have H2_ := (Option.bind_some _ _).symm.trans H; rw [hy108]; with_reducible exact H2_) | (have H2_ := (Option.bind_some _ _).symm.trans H; with_reducible exact H2_) | with_reducible exact H | (rw [hy108]; exact H) | exact H
 have Ny108 := Aside0.mk hy108; clear hy108; replace H := Option.bind_eq_some_iff.mp H; obtain ⟨⟨t111, t112, t113, t114⟩, A50, H⟩ := H; (try dsimp only at H); have A5 := Aside0.mk A50; clear A50; replace H := Option.bind_eq_some_iff.mp H; obtain ⟨⟨t115, t116, t117, t118⟩, A60, H⟩ := H; (try dsimp only at H); have A6 := Aside0.mk A60; clear A60
 by_cases c7 : (a0_10.size : Int) > 40
 ·rw [if_pos c7] at H
  have c7b0 : decide (40 < (a0_10.size : Int)) = true := decide_eq_true c7; have c7b1 : decide (40 < a0_10.size) = true := decide_eq_true (by omega); clear c7
  by_cases c8 : 0 ≤ 40
  ·rw [if_pos c8] at H
   have c8b0 := eq_true c8; have c8b1 : decide (0 ≤ 40) = true := decide_eq_true c8; clear c8
   by_cases c9 : 40 ≤ (a0_10.size : Int)
   ·rw [if_pos c9] at H
    have c9b0 := eq_true c9; have c9b1 : decide (40 ≤ (a0_10.size : Int)) = true := decide_eq_true c9; clear c9; simp only [Option.some.injEq, Prod.mk.injEq] at H; obtain ⟨rfl, rfl, rfl, rfl, rfl, rfl, rfl, rfl, rfl, rfl, rfl⟩ := H
    go_enter Try.func12, Try.ntmps12
    try go_wp2_with (first | ((with_reducible refine gate_dst (N := 2) rfl ?_); refine box_event ?hg (N := 2) ?hd (cs := #[.string a0_0, .int .i64 a0_1, .int .i64 a0_2, .int .i64 a0_3, .int .i64 a0_4, .string a0_5, .int .i64 a0_6, .int .i64 a0_7, .int .i64 a0_8, .int .i64 a0_9, .string a0_10]) (t := 28) ?hr ?_; (case hd => rfl); (case hg => rfl); (case hr => first | (go_simp; done) | (go_simp; rfl)); intro gb101 hg w10 hbox hb; have n0_ := Aside0.mk (below_step (bl_ HB.out) hb); have n1_ := Aside0.mk (hbox); have n2_ := Aside0.mk ((by rw [hg]; exact (below_size (bl_ HB.out)) : w.heap.size ≤ gb101)); have n3_ := Aside0.mk ((by rw [hg]; exact (below_size (bl_ HB.out)) : w.heap.size ≤ gb101)); clear HB; have HB := n0_; have BK101 := n1_; have GW101 := n2_; have GE101 := n3_; clear n0_ n1_ n2_ n3_; clear hb hbox hg) | ((with_reducible refine gate_dst (N := 4) rfl ?_); refine box_event ?hg (N := 4) ?hd (cs := #[.string ⟨#[]⟩, .int .i64 0, .int .i64 0, .int .i64 0, .int .i64 0, .string ⟨#[]⟩, .int .i64 0, .int .i64 0, .int .i64 0, .int .i64 0, .string ⟨#[]⟩]) (t := 28) ?hr ?_; (case hd => rfl); (case hg => rfl); (case hr => first | (go_simp; done) | (go_simp; rfl)); intro gb102 hg w11 hbox hb; have n0_ := bb_ BK101 hb; have n1_ := Aside0.mk (below_step (bl_ HB.out) hb); have n2_ := Aside0.mk (hbox); have n3_ := Aside0.mk ((by rw [hg]; exact (below_size (bl_ HB.out)) : w.heap.size ≤ gb102)); have n4_ := Aside0.mk ((by rw [hg]; exact (below_size (bl_ HB.out)) : w.heap.size ≤ gb102)); have n5_ := Aside0.mk ((by rw [hg]; exact Nat.ne_of_lt (blk_lt (g := gb101) (o := .cells #[.string a0_0, .int .i64 a0_1, .int .i64 a0_2, .int .i64 a0_3, .int .i64 a0_4, .string a0_5, .int .i64 a0_6, .int .i64 a0_7, .int .i64 a0_8, .int .i64 a0_9, .string a0_10] 28 (0, 0)) (bk_ BK101.out)) : gb101 ≠ gb102)); have n6_ := Aside0.mk ((by rw [hg]; exact Nat.ne_of_gt (blk_lt (g := gb101) (o := .cells #[.string a0_0, .int .i64 a0_1, .int .i64 a0_2, .int .i64 a0_3, .int .i64 a0_4, .string a0_5, .int .i64 a0_6, .int .i64 a0_7, .int .i64 a0_8, .int .i64 a0_9, .string a0_10] 28 (0, 0)) (bk_ BK101.out)) : gb102 ≠ gb101)); clear BK101 HB; have BK101 := n0_; have HB := n1_; have BK102 := n2_; have GW102 := n3_; have GE102 := n4_; have NB101_102 := n5_; have NB102_101 := n6_; clear n0_ n1_ n2_ n3_ n4_ n5_ n6_; clear hb hbox hg))
    have n0_ := Aside0.mk (blk_drew BK101.out); have n1_ := Aside0.mk (blk_drew BK102.out); have n2_ := Aside0.mk (below_drew1 HB.out); clear BK101 BK102 HB; have BK101 := n0_; have BK102 := n1_; have HB := n2_; clear n0_ n1_ n2_; refine start_ (n := 17) (S := fun w' => True) (ds := []) (bA 17 0) (by kernel_rfl) rfl rfl trivial (fun hHeld => ?_); refine with_tabW donjonlaw18_good.tab1 donjonlaw18_good.bits1 (fun HT_ HW_ => ?_)
    generalize w11.drew = w12 at BK101 BK102 HB hHeld ⊢
    refine pure_ (i := 0) (N := some 5) (v := ?_) (a' := ?_) (bA 17 1) rfl rfl (any_of HT_.out (by kernel_rfl)) (fun _ _ _ h => h) (Or.inl ⟨by rfl, ?_⟩) ?_ ?_; rotate_left; (·intro w'; go_simp; with_reducible rfl); rotate_left; (·simp only [Act.put, xset_a, xset_z, xset_s, i64_w, i32_w]; rfl); refine pure_ (i := 6) (N := some 11) (v := ?_) (a' := ?_) (bA 17 65) rfl rfl (any_of HT_.out (by kernel_rfl)) (fun _ _ _ h => h) (Or.inl ⟨by rfl, ?_⟩) ?_ ?_; rotate_left; (·intro w'; go_simp; with_reducible rfl); rotate_left; (·simp only [Act.put, xset_a, xset_z, xset_s, i64_w, i32_w]; rfl); refine pure_ (i := 7) (N := some 12) (v := ?_) (a' := ?_) (bA 17 193) rfl rfl (any_of HT_.out (by kernel_rfl)) (fun _ _ _ h => h) (Or.inl ⟨by rfl, ?_⟩) ?_ ?_; rotate_left; (·intro w'; go_simp; with_reducible rfl); rotate_left; (·simp only [Act.put, xset_a, xset_z, xset_s, i64_w, i32_w]; rfl); refine one_ (i := 1) (N := some 6) (bA 17 195) rfl rfl (one_of HT_.out (by kernel_rfl)) (by decide) (fun K hK => ?_); refine goes_ Try.func10 (by kernel_rfl) rfl #[.int .i64 a1, .int .i64 4] (by rfl) rfl rfl (by (try simp only [List.map_toArray, List.map_cons, List.map_nil]); first | done | rfl | (simp only [List.length_drop, List.length_take]; rfl)) ?_
    with_reducible refine (donjonlaw18_within.calls a1 4 t103 _ A3.out).mono ?_
    rintro e w' ⟨rfl, ⟨nd, rfl⟩⟩; refine ⟨_, rfl, ?_⟩; refine hK.out _ _ trivial (fun hHeld => ?_); clear hK K; refine norm_ (a' := ?_) ?_ ?_; rotate_left
    ·show Act.put _ (some 6) _ = _
     simp only [Act.put, xset_a, xset_z, xset_s, i64_w, i32_w]
     rfl
    refine pure_ (i := 2) (N := some 7) (v := ?_) (a' := ?_) (bA 17 199) rfl rfl (any_of HT_.out (by kernel_rfl)) (fun _ _ _ h => h) (Or.inl ⟨by rfl, ?_⟩) ?_ ?_; rotate_left; (·intro w'; go_simp; with_reducible rfl); rotate_left; (·simp only [Act.put, xset_a, xset_z, xset_s, i64_w, i32_w]; rfl); refine pure_ (i := 3) (N := some 8) (v := ?_) (a' := ?_) (bA 17 207) rfl rfl (any_of HT_.out (by kernel_rfl)) (fun _ _ _ h => h) (Or.inl ⟨by rfl, ?_⟩) ?_ ?_; rotate_left; (·intro w'; go_simp; with_reducible rfl); rotate_left; (·simp only [Act.put, xset_a, xset_z, xset_s, i64_w, i32_w]; rfl); refine join_ (σ := Value × Value) 2 (bA 17 32767) (fun s_ => [(9, s_.1), (10, .string (strOfNums y104)), (13, .int .i64 t107), (16, s_.2), (17, .string (strOfNums y108)), (14, .int .i64 (wrap64 (97 + t107))), (15, .int .u8 ((wrap64 (97 + t107)) % 256)), (18, .pointer (some ⟨gb101, 0, none⟩))]) (fun s_ w' => (Kd.R (Kd.int .u8) 5 w' w.heap.size (fun k_ => some k_ ≠ (s_.2 : Value).ownBlock) s_.1 y104) ∧ (Kd.R (Kd.int .u8) 5 w' w.heap.size (fun k_ => some k_ ≠ (s_.1 : Value).ownBlock) s_.2 y108) ∧ (w'.heap[gb101]? = some (.cells #[.string (strOfNums y104), .int .i64 a0_1, .int .i64 a0_2, .int .i64 a0_3, .int .i64 a0_4, .string a0_5, .int .i64 a0_6, .int .i64 a0_7, .int .i64 a0_8, .int .i64 a0_9, .string a0_10] 28 (0, 0))) ∧ (w'.heap[gb102]? = some (.cells #[.string ⟨#[]⟩, .int .i64 0, .int .i64 0, .int .i64 0, .int .i64 0, .string ⟨#[]⟩, .int .i64 0, .int .i64 0, .int .i64 0, .int .i64 0, .string ⟨#[]⟩] 28 (0, 0))) ∧ (Below w.heap.size w w')) ?_ ?_; rotate_left
    ·intro hJ4_5_8_11_12_14
     refine join_ (σ := Value × Value) 3 (bA 17 16383) (fun s_ => [(9, s_.1), (10, .string (strOfNums y104)), (13, .int .i64 t107), (16, s_.2), (17, .string (strOfNums y108)), (14, .int .i64 (wrap64 (97 + t107))), (15, .int .u8 ((wrap64 (97 + t107)) % 256)), (18, .pointer (some ⟨gb101, 0, none⟩))]) (fun s_ w' => (Kd.R (Kd.int .u8) 5 w' w.heap.size (fun k_ => some k_ ≠ (s_.2 : Value).ownBlock) s_.1 y104) ∧ (Kd.R (Kd.int .u8) 5 w' w.heap.size (fun k_ => some k_ ≠ (s_.1 : Value).ownBlock) s_.2 y108) ∧ (w'.heap[gb101]? = some (.cells #[.string a0_0, .int .i64 a0_1, .int .i64 a0_2, .int .i64 a0_3, .int .i64 a0_4, .string a0_5, .int .i64 a0_6, .int .i64 a0_7, .int .i64 a0_8, .int .i64 a0_9, .string a0_10] 28 (0, 0))) ∧ (w'.heap[gb102]? = some (.cells #[.string ⟨#[]⟩, .int .i64 0, .int .i64 0, .int .i64 0, .int .i64 0, .string ⟨#[]⟩, .int .i64 0, .int .i64 0, .int .i64 0, .int .i64 0, .string ⟨#[]⟩] 28 (0, 0))) ∧ (Below w.heap.size w w')) ?_ ?_; rotate_left
     ·intro hJ4_5_8_11_12
      refine join_ (σ := Value × Value) 3 (bA 17 28671) (fun s_ => [(9, s_.1), (10, .string (strOfNums y104)), (13, .int .i64 t107), (16, s_.2), (14, .int .i64 (wrap64 (97 + t107))), (15, .int .u8 ((wrap64 (97 + t107)) % 256)), (18, .pointer (some ⟨gb101, 0, none⟩))]) (fun s_ w' => (Kd.R (Kd.int .u8) 5 w' w.heap.size (fun k_ => some k_ ≠ (s_.2 : Value).ownBlock) s_.1 y104) ∧ (Kd.R (Kd.int .u8) 5 w' w.heap.size (fun k_ => some k_ ≠ (s_.1 : Value).ownBlock) s_.2 y108) ∧ (w'.heap[gb101]? = some (.cells #[.string (strOfNums y104), .int .i64 a0_1, .int .i64 a0_2, .int .i64 a0_3, .int .i64 a0_4, .string a0_5, .int .i64 a0_6, .int .i64 a0_7, .int .i64 a0_8, .int .i64 a0_9, .string a0_10] 28 (0, 0))) ∧ (w'.heap[gb102]? = some (.cells #[.string ⟨#[]⟩, .int .i64 0, .int .i64 0, .int .i64 0, .int .i64 0, .string ⟨#[]⟩, .int .i64 0, .int .i64 0, .int .i64 0, .int .i64 0, .string ⟨#[]⟩] 28 (0, 0))) ∧ (Below w.heap.size w w')) ?_ ?_; rotate_left
      ·intro hJ4_5_8_11_14
       refine join_ (σ := Value × Value) 4 (bA 17 12287) (fun s_ => [(9, s_.1), (10, .string (strOfNums y104)), (13, .int .i64 t107), (16, s_.2), (14, .int .i64 (wrap64 (97 + t107))), (15, .int .u8 ((wrap64 (97 + t107)) % 256)), (18, .pointer (some ⟨gb101, 0, none⟩))]) (fun s_ w' => (Kd.R (Kd.int .u8) 5 w' w.heap.size (fun k_ => some k_ ≠ (s_.2 : Value).ownBlock) s_.1 y104) ∧ (Kd.R (Kd.int .u8) 5 w' w.heap.size (fun k_ => some k_ ≠ (s_.1 : Value).ownBlock) s_.2 y108) ∧ (w'.heap[gb101]? = some (.cells #[.string a0_0, .int .i64 a0_1, .int .i64 a0_2, .int .i64 a0_3, .int .i64 a0_4, .string a0_5, .int .i64 a0_6, .int .i64 a0_7, .int .i64 a0_8, .int .i64 a0_9, .string a0_10] 28 (0, 0))) ∧ (w'.heap[gb102]? = some (.cells #[.string ⟨#[]⟩, .int .i64 0, .int .i64 0, .int .i64 0, .int .i64 0, .string ⟨#[]⟩, .int .i64 0, .int .i64 0, .int .i64 0, .int .i64 0, .string ⟨#[]⟩] 28 (0, 0))) ∧ (Below w.heap.size w w')) ?_ ?_; rotate_left
       ·intro hJ4_5_8_11
        refine join_ (σ := Value) 4 (bA 17 26623) (fun s_ => [(9, s_), (10, .string (strOfNums y104)), (13, .int .i64 t107), (14, .int .i64 (wrap64 (97 + t107))), (15, .int .u8 ((wrap64 (97 + t107)) % 256)), (18, .pointer (some ⟨gb101, 0, none⟩))]) (fun s_ w' => (Kd.R (Kd.int .u8) 5 w' w.heap.size (fun _ => True) s_ y104) ∧ (w'.heap[gb101]? = some (.cells #[.string (strOfNums y104), .int .i64 a0_1, .int .i64 a0_2, .int .i64 a0_3, .int .i64 a0_4, .string a0_5, .int .i64 a0_6, .int .i64 a0_7, .int .i64 a0_8, .int .i64 a0_9, .string a0_10] 28 (0, 0))) ∧ (w'.heap[gb102]? = some (.cells #[.string ⟨#[]⟩, .int .i64 0, .int .i64 0, .int .i64 0, .int .i64 0, .string ⟨#[]⟩, .int .i64 0, .int .i64 0, .int .i64 0, .int .i64 0, .string ⟨#[]⟩] 28 (0, 0))) ∧ (Below w.heap.size w w')) ?_ ?_; rotate_left
        ·intro hJ4_5_8_14
         refine join_ (σ := Value × Value) 5 (bA 17 8159) (fun s_ => [(9, s_.1), (13, .int .i64 t107), (16, s_.2), (17, .string (strOfNums y108)), (14, .int .i64 (wrap64 (97 + t107))), (15, .int .u8 ((wrap64 (97 + t107)) % 256))]) (fun s_ w' => (Kd.R (Kd.int .u8) 5 w' w.heap.size (fun k_ => some k_ ≠ (s_.2 : Value).ownBlock) s_.1 y104) ∧ (Kd.R (Kd.int .u8) 5 w' w.heap.size (fun k_ => some k_ ≠ (s_.1 : Value).ownBlock) s_.2 y108) ∧ (w'.heap[gb101]? = some (.cells #[.string a0_0, .int .i64 a0_1, .int .i64 a0_2, .int .i64 a0_3, .int .i64 a0_4, .string a0_5, .int .i64 a0_6, .int .i64 a0_7, .int .i64 a0_8, .int .i64 a0_9, .string a0_10] 28 (0, 0))) ∧ (w'.heap[gb102]? = some (.cells #[.string ⟨#[]⟩, .int .i64 0, .int .i64 0, .int .i64 0, .int .i64 0, .string ⟨#[]⟩, .int .i64 0, .int .i64 0, .int .i64 0, .int .i64 0, .string ⟨#[]⟩] 28 (0, 0))) ∧ (Below w.heap.size w w')) ?_ ?_; rotate_left
         ·intro hJ4_8_11_12
          refine join_ (σ := Value) 5 (bA 17 10239) (fun s_ => [(9, s_), (10, .string (strOfNums y104)), (13, .int .i64 t107), (14, .int .i64 (wrap64 (97 + t107))), (15, .int .u8 ((wrap64 (97 + t107)) % 256)), (18, .pointer (some ⟨gb101, 0, none⟩))]) (fun s_ w' => (Kd.R (Kd.int .u8) 5 w' w.heap.size (fun _ => True) s_ y104) ∧ (w'.heap[gb101]? = some (.cells #[.string a0_0, .int .i64 a0_1, .int .i64 a0_2, .int .i64 a0_3, .int .i64 a0_4, .string a0_5, .int .i64 a0_6, .int .i64 a0_7, .int .i64 a0_8, .int .i64 a0_9, .string a0_10] 28 (0, 0))) ∧ (w'.heap[gb102]? = some (.cells #[.string ⟨#[]⟩, .int .i64 0, .int .i64 0, .int .i64 0, .int .i64 0, .string ⟨#[]⟩, .int .i64 0, .int .i64 0, .int .i64 0, .int .i64 0, .string ⟨#[]⟩] 28 (0, 0))) ∧ (Below w.heap.size w w')) ?_ ?_; rotate_left
          ·intro hJ4_5_8
           refine join_ (σ := Value × Value) 6 (bA 17 4063) (fun s_ => [(9, s_.1), (13, .int .i64 t107), (16, s_.2), (14, .int .i64 (wrap64 (97 + t107))), (15, .int .u8 ((wrap64 (97 + t107)) % 256))]) (fun s_ w' => (Kd.R (Kd.int .u8) 5 w' w.heap.size (fun k_ => some k_ ≠ (s_.2 : Value).ownBlock) s_.1 y104) ∧ (Kd.R (Kd.int .u8) 5 w' w.heap.size (fun k_ => some k_ ≠ (s_.1 : Value).ownBlock) s_.2 y108) ∧ (w'.heap[gb101]? = some (.cells #[.string a0_0, .int .i64 a0_1, .int .i64 a0_2, .int .i64 a0_3, .int .i64 a0_4, .string a0_5, .int .i64 a0_6, .int .i64 a0_7, .int .i64 a0_8, .int .i64 a0_9, .string a0_10] 28 (0, 0))) ∧ (w'.heap[gb102]? = some (.cells #[.string ⟨#[]⟩, .int .i64 0, .int .i64 0, .int .i64 0, .int .i64 0, .string ⟨#[]⟩, .int .i64 0, .int .i64 0, .int .i64 0, .int .i64 0, .string ⟨#[]⟩] 28 (0, 0))) ∧ (Below w.heap.size w w')) ?_ ?_; rotate_left
           ·intro hJ4_8_11
            refine join_ (σ := Value) 6 (bA 17 8143) (fun s_ => [(13, .int .i64 t107), (16, s_), (17, .string (strOfNums y108)), (14, .int .i64 (wrap64 (97 + t107))), (15, .int .u8 ((wrap64 (97 + t107)) % 256))]) (fun s_ w' => (Kd.R (Kd.int .u8) 5 w' w.heap.size (fun _ => True) s_ y108) ∧ (w'.heap[gb101]? = some (.cells #[.string a0_0, .int .i64 a0_1, .int .i64 a0_2, .int .i64 a0_3, .int .i64 a0_4, .string a0_5, .int .i64 a0_6, .int .i64 a0_7, .int .i64 a0_8, .int .i64 a0_9, .string a0_10] 28 (0, 0))) ∧ (w'.heap[gb102]? = some (.cells #[.string ⟨#[]⟩, .int .i64 0, .int .i64 0, .int .i64 0, .int .i64 0, .string ⟨#[]⟩, .int .i64 0, .int .i64 0, .int .i64 0, .int .i64 0, .string ⟨#[]⟩] 28 (0, 0))) ∧ (Below w.heap.size w w')) ?_ ?_; rotate_left
            ·intro hJ8_11_12
             refine join_ (σ := Value) 8 (bA 17 8447) (fun s_ => [(9, s_), (10, .string (strOfNums y104)), (18, .pointer (some ⟨gb101, 0, none⟩))]) (fun s_ w' => (Kd.R (Kd.int .u8) 5 w' w.heap.size (fun _ => True) s_ y104) ∧ (w'.heap[gb101]? = some (.cells #[.string a0_0, .int .i64 a0_1, .int .i64 a0_2, .int .i64 a0_3, .int .i64 a0_4, .string a0_5, .int .i64 a0_6, .int .i64 a0_7, .int .i64 a0_8, .int .i64 a0_9, .string a0_10] 28 (0, 0))) ∧ (w'.heap[gb102]? = some (.cells #[.string ⟨#[]⟩, .int .i64 0, .int .i64 0, .int .i64 0, .int .i64 0, .string ⟨#[]⟩, .int .i64 0, .int .i64 0, .int .i64 0, .int .i64 0, .string ⟨#[]⟩] 28 (0, 0))) ∧ (Below w.heap.size w w')) ?_ ?_; rotate_left
             ·intro hJ4_5
              refine join_ (σ := Value) 7 (bA 17 2015) (fun s_ => [(9, s_), (13, .int .i64 t107), (14, .int .i64 (wrap64 (97 + t107))), (15, .int .u8 ((wrap64 (97 + t107)) % 256))]) (fun s_ w' => (Kd.R (Kd.int .u8) 5 w' w.heap.size (fun _ => True) s_ y104) ∧ (w'.heap[gb101]? = some (.cells #[.string a0_0, .int .i64 a0_1, .int .i64 a0_2, .int .i64 a0_3, .int .i64 a0_4, .string a0_5, .int .i64 a0_6, .int .i64 a0_7, .int .i64 a0_8, .int .i64 a0_9, .string a0_10] 28 (0, 0))) ∧ (w'.heap[gb102]? = some (.cells #[.string ⟨#[]⟩, .int .i64 0, .int .i64 0, .int .i64 0, .int .i64 0, .string ⟨#[]⟩, .int .i64 0, .int .i64 0, .int .i64 0, .int .i64 0, .string ⟨#[]⟩] 28 (0, 0))) ∧ (Below w.heap.size w w')) ?_ ?_; rotate_left
              ·intro hJ4_8
               refine join_ (σ := Value) 7 (bA 17 4047) (fun s_ => [(13, .int .i64 t107), (16, s_), (14, .int .i64 (wrap64 (97 + t107))), (15, .int .u8 ((wrap64 (97 + t107)) % 256))]) (fun s_ w' => (Kd.R (Kd.int .u8) 5 w' w.heap.size (fun _ => True) s_ y108) ∧ (w'.heap[gb101]? = some (.cells #[.string a0_0, .int .i64 a0_1, .int .i64 a0_2, .int .i64 a0_3, .int .i64 a0_4, .string a0_5, .int .i64 a0_6, .int .i64 a0_7, .int .i64 a0_8, .int .i64 a0_9, .string a0_10] 28 (0, 0))) ∧ (w'.heap[gb102]? = some (.cells #[.string ⟨#[]⟩, .int .i64 0, .int .i64 0, .int .i64 0, .int .i64 0, .string ⟨#[]⟩, .int .i64 0, .int .i64 0, .int .i64 0, .int .i64 0, .string ⟨#[]⟩] 28 (0, 0))) ∧ (Below w.heap.size w w')) ?_ ?_; rotate_left
               ·intro hJ8_11
                refine join_ (σ := Value) 10 (bA 17 223) (fun s_ => [(9, s_)]) (fun s_ w' => (Kd.R (Kd.int .u8) 5 w' w.heap.size (fun _ => True) s_ y104) ∧ (w'.heap[gb101]? = some (.cells #[.string a0_0, .int .i64 a0_1, .int .i64 a0_2, .int .i64 a0_3, .int .i64 a0_4, .string a0_5, .int .i64 a0_6, .int .i64 a0_7, .int .i64 a0_8, .int .i64 a0_9, .string a0_10] 28 (0, 0))) ∧ (w'.heap[gb102]? = some (.cells #[.string ⟨#[]⟩, .int .i64 0, .int .i64 0, .int .i64 0, .int .i64 0, .string ⟨#[]⟩, .int .i64 0, .int .i64 0, .int .i64 0, .int .i64 0, .string ⟨#[]⟩] 28 (0, 0))) ∧ (Below w.heap.size w w')) ?_ ?_; rotate_left
                ·intro hJ4
                 refine join_ (σ := Unit) 8 (bA 17 1999) (fun s_ => [(13, .int .i64 t107), (14, .int .i64 (wrap64 (97 + t107))), (15, .int .u8 ((wrap64 (97 + t107)) % 256))]) (fun s_ w' => (w'.heap[gb101]? = some (.cells #[.string a0_0, .int .i64 a0_1, .int .i64 a0_2, .int .i64 a0_3, .int .i64 a0_4, .string a0_5, .int .i64 a0_6, .int .i64 a0_7, .int .i64 a0_8, .int .i64 a0_9, .string a0_10] 28 (0, 0))) ∧ (w'.heap[gb102]? = some (.cells #[.string ⟨#[]⟩, .int .i64 0, .int .i64 0, .int .i64 0, .int .i64 0, .string ⟨#[]⟩, .int .i64 0, .int .i64 0, .int .i64 0, .int .i64 0, .string ⟨#[]⟩] 28 (0, 0))) ∧ (Below w.heap.size w w')) ?_ ?_; rotate_left
                 ·intro hJ8
                  refine two_ (i := 4) (j := 8) (Ni := some 9) (Nj := some 13) (bA 17 223) (bA 17 463) rfl rfl rfl rfl (two_of HT_.out (by kernel_rfl)) (by decide) (by decide) (fun K hK => ?_) (fun K hK => ?_)
                  ·skip
                   refine Kd.R_lit_step (Kd.int .u8) _ 5 ?hg (N := 9) ?hd (xs := ([(wrap64 (97 + t103)) % 256] : List Int)) (inner := [.int .u8 ((wrap64 (97 + t103)) % 256)]) (ok := fun _ => True) (okp := fun _ => True) ?hr ?hp (fun _ hk => hk) trivial (Below.refl _ _) (Nat.le_refl _) (by simp) ?_; (case hd => rfl); (case hg => rfl); (case hr => first | (go_simp; done) | (go_simp; rfl)); (case hp => exact (Reps.one (show Kd.M (Kd.int .u8) _ _ _ ((wrap64 (97 + t103)) % 256) [.int .u8 ((wrap64 (97 + t103)) % 256)] from rfl) (Reps.none _ _))); intro v105 w13 ho14 hb hg_ hnew_; clear hg_ hnew_
                   (first | rw [← Ny104.out] at ho14 | (simp only [Int.reduceToNat] at ho14; rw [← Ny104.out] at ho14))
                   have n0_ := Aside0.mk (Kd.R_lower ho14 (below_size (bl_ HB.out))); have n1_ := bb_ BK101 hb; have n2_ := bb_ BK102 hb; have n3_ := Aside0.mk (below_step (bl_ HB.out) hb); clear BK101 BK102 HB; have HO106 := n0_; have BK101 := n1_; have BK102 := n2_; have HB := n3_; clear n0_ n1_ n2_ n3_; clear hb ho14; refine hK.out _ _ trivial (fun hHeld => ?_); clear hK K; refine norm_ (a' := ?_) ?_ ?_; rotate_left
                   ·show Act.put _ (some 9) _ = _
                    simp only [Act.put, xset_a, xset_z, xset_s, i64_w, i32_w]
                    rfl
                   exact norm_ (by simp only [putAll, Act.put, xset_a, xset_z, xset_s] <;> rfl) (hJ4 (v105) _ ⟨(kr_ HO106.out), (bk_ BK101.out), (bk_ BK102.out), (bl_ HB.out)⟩)
                  ·skip
                   refine goes_ Try.func10 (by kernel_rfl) rfl #[.int .i64 (wrap64 (Int.tdiv a1 4)), .int .i64 4] (by rfl) rfl rfl (by (try simp only [List.map_toArray, List.map_cons, List.map_nil]); first | done | rfl | (simp only [List.length_drop, List.length_take]; rfl)) ?_
                   with_reducible refine (donjonlaw18_within.calls (wrap64 (Int.tdiv a1 4)) 4 t107 _ A4.out).mono ?_
                   rintro e w' ⟨rfl, ⟨nd, rfl⟩⟩; refine ⟨_, rfl, ?_⟩; refine hK.out _ _ trivial (fun hHeld => ?_); clear hK K; refine norm_ (a' := ?_) ?_ ?_; rotate_left
                   ·show Act.put _ (some 13) _ = _
                    simp only [Act.put, xset_a, xset_z, xset_s, i64_w, i32_w]
                    rfl
                   refine pure_ (i := 9) (N := some 14) (v := ?_) (a' := ?_) (bA 17 975) rfl rfl (any_of HT_.out (by kernel_rfl)) (fun _ _ _ h => h) (Or.inl ⟨by rfl, ?_⟩) ?_ ?_; rotate_left; (·intro w'; go_simp; with_reducible rfl); rotate_left; (·simp only [Act.put, xset_a, xset_z, xset_s, i64_w, i32_w]; rfl); refine pure_ (i := 10) (N := some 15) (v := ?_) (a' := ?_) (bA 17 1999) rfl rfl (any_of HT_.out (by kernel_rfl)) (fun _ _ _ h => h) (Or.inl ⟨by rfl, ?_⟩) ?_ ?_; rotate_left; (·intro w'; go_simp; with_reducible rfl); rotate_left; (·simp only [Act.put, xset_a, xset_z, xset_s, i64_w, i32_w]; rfl)
                   exact norm_ (by simp only [putAll, Act.put, xset_a, xset_z, xset_s] <;> rfl) (hJ8 () _ ⟨(bk_ BK101.out), (bk_ BK102.out), (bl_ HB.out)⟩)
                 ·skip
                  rintro _ w13 ⟨h0_, h1_, h2_⟩; have n0_ := Aside0.mk h0_; have n1_ := Aside0.mk h1_; have n2_ := Aside0.mk h2_; clear BK101 BK102 HB; clear h0_ h1_ h2_; have BK101 := n0_; have BK102 := n1_; have HB := n2_; clear n0_ n1_ n2_; have hHeld := trivial; refine norm_ (a' := ?_) ?_ ?_; rotate_left
                  ·simp only [putAll, Act.put, xset_a, xset_z, xset_s]
                   rfl
                  refine two_ (i := 4) (j := 11) (Ni := some 9) (Nj := some 16) (bA 17 2015) (bA 17 4047) rfl rfl rfl rfl (two_of HT_.out (by kernel_rfl)) (by decide) (by decide) (fun K hK => ?_) (fun K hK => ?_)
                  ·skip
                   refine Kd.R_lit_step (Kd.int .u8) _ 5 ?hg (N := 9) ?hd (xs := ([(wrap64 (97 + t103)) % 256] : List Int)) (inner := [.int .u8 ((wrap64 (97 + t103)) % 256)]) (ok := fun _ => True) (okp := fun _ => True) ?hr ?hp (fun _ hk => hk) trivial (Below.refl _ _) (Nat.le_refl _) (by simp) ?_; (case hd => rfl); (case hg => rfl); (case hr => first | (go_simp; done) | (go_simp; rfl)); (case hp => exact (Reps.one (show Kd.M (Kd.int .u8) _ _ _ ((wrap64 (97 + t103)) % 256) [.int .u8 ((wrap64 (97 + t103)) % 256)] from rfl) (Reps.none _ _))); intro v105 w14 ho15 hb hg_ hnew_; clear hg_ hnew_
                   (first | rw [← Ny104.out] at ho15 | (simp only [Int.reduceToNat] at ho15; rw [← Ny104.out] at ho15))
                   have n0_ := Aside0.mk (Kd.R_lower ho15 (below_size (bl_ HB.out))); have n1_ := bb_ BK101 hb; have n2_ := bb_ BK102 hb; have n3_ := Aside0.mk (below_step (bl_ HB.out) hb); clear BK101 BK102 HB; have HO106 := n0_; have BK101 := n1_; have BK102 := n2_; have HB := n3_; clear n0_ n1_ n2_ n3_; clear hb ho15; refine hK.out _ _ trivial (fun hHeld => ?_); clear hK K; refine norm_ (a' := ?_) ?_ ?_; rotate_left
                   ·show Act.put _ (some 9) _ = _
                    simp only [Act.put, xset_a, xset_z, xset_s, i64_w, i32_w]
                    rfl
                   exact norm_ (by simp only [putAll, Act.put, xset_a, xset_z, xset_s] <;> rfl) (hJ4_8 (v105) _ ⟨(kr_ HO106.out), (bk_ BK101.out), (bk_ BK102.out), (bl_ HB.out)⟩)
                  ·skip
                   refine Kd.R_lit_step (Kd.int .u8) _ 5 ?hg (N := 16) ?hd (xs := ([(wrap64 (97 + t107)) % 256] : List Int)) (inner := [.int .u8 ((wrap64 (97 + t107)) % 256)]) (ok := fun _ => True) (okp := fun _ => True) ?hr ?hp (fun _ hk => hk) trivial (Below.refl _ _) (Nat.le_refl _) (by simp) ?_; (case hd => rfl); (case hg => rfl); (case hr => first | (go_simp; done) | (go_simp; rfl)); (case hp => exact (Reps.one (show Kd.M (Kd.int .u8) _ _ _ ((wrap64 (97 + t107)) % 256) [.int .u8 ((wrap64 (97 + t107)) % 256)] from rfl) (Reps.none _ _))); intro v109 w14 ho15 hb hg_ hnew_; clear hg_ hnew_
                   (first | rw [← Ny108.out] at ho15 | (simp only [Int.reduceToNat] at ho15; rw [← Ny108.out] at ho15))
                   have n0_ := Aside0.mk (Kd.R_lower ho15 (below_size (bl_ HB.out))); have n1_ := bb_ BK101 hb; have n2_ := bb_ BK102 hb; have n3_ := Aside0.mk (below_step (bl_ HB.out) hb); clear BK101 BK102 HB; have HO110 := n0_; have BK101 := n1_; have BK102 := n2_; have HB := n3_; clear n0_ n1_ n2_ n3_; clear hb ho15; refine hK.out _ _ trivial (fun hHeld => ?_); clear hK K; refine norm_ (a' := ?_) ?_ ?_; rotate_left
                   ·show Act.put _ (some 16) _ = _
                    simp only [Act.put, xset_a, xset_z, xset_s, i64_w, i32_w]
                    rfl
                   exact norm_ (by simp only [putAll, Act.put, xset_a, xset_z, xset_s] <;> rfl) (hJ8_11 (v109) _ ⟨(kr_ HO110.out), (bk_ BK101.out), (bk_ BK102.out), (bl_ HB.out)⟩)
                ·skip
                 rintro v105 w15 ⟨h0_, h1_, h2_, h3_⟩; have n0_ := Aside0.mk h0_; have n1_ := Aside0.mk h1_; have n2_ := Aside0.mk h2_; have n3_ := Aside0.mk h3_; clear BK101 BK102 HB; clear h0_ h1_ h2_ h3_; have HO106 := n0_; have BK101 := n1_; have BK102 := n2_; have HB := n3_; clear n0_ n1_ n2_ n3_; have hHeld := trivial; refine norm_ (a' := ?_) ?_ ?_; rotate_left
                 ·simp only [putAll, Act.put, xset_a, xset_z, xset_s]
                  rfl
                 refine two_ (i := 5) (j := 8) (Ni := some 10) (Nj := some 13) (bA 17 255) (bA 17 479) rfl rfl rfl rfl (two_of HT_.out (by kernel_rfl)) (by decide) (by decide) (fun K hK => ?_) (fun K hK => ?_)
                 ·skip
                  have hcv16 := own_string (P := Try.prog) Try.underlying24 Try.underlying5 Try.underlying9 (Kd.own_of_R HO106.out); refine value_ (w1 := ?_) (v := ?_) (by rfl) rfl ?_ ?_; rotate_left 2
                  ·go_simp
                   constructor
                   ·rfl
                   ·rfl
                  clear hcv16; refine hK.out _ _ trivial (fun hHeld => ?_); clear hK K; refine norm_ (a' := ?_) ?_ ?_; rotate_left
                  ·show Act.put _ (some 10) _ = _
                   simp only [Act.put, xset_a, xset_z, xset_s, i64_w, i32_w]
                   rfl
                  refine pure_ (i := 13) (N := some 18) (v := ?_) (a' := ?_) (bA 17 8447) rfl rfl (any_of HT_.out (by kernel_rfl)) (fun _ _ _ h => h) (Or.inl ⟨by rfl, ?_⟩) ?_ ?_; rotate_left; (·intro w'; go_simp; with_reducible rfl); rotate_left; (·simp only [Act.put, xset_a, xset_z, xset_s, i64_w, i32_w]; rfl)
                  exact norm_ (by simp only [putAll, Act.put, xset_a, xset_z, xset_s] <;> rfl) (hJ4_5 (v105) _ ⟨(kr_ HO106.out), (bk_ BK101.out), (bk_ BK102.out), (bl_ HB.out)⟩)
                 ·skip
                  refine goes_ Try.func10 (by kernel_rfl) rfl #[.int .i64 (wrap64 (Int.tdiv a1 4)), .int .i64 4] (by rfl) rfl rfl (by (try simp only [List.map_toArray, List.map_cons, List.map_nil]); first | done | rfl | (simp only [List.length_drop, List.length_take]; rfl)) ?_
                  with_reducible refine (donjonlaw18_within.calls (wrap64 (Int.tdiv a1 4)) 4 t107 _ A4.out).mono ?_
                  rintro e w' ⟨rfl, ⟨nd, rfl⟩⟩; refine ⟨_, rfl, ?_⟩; refine hK.out _ _ trivial (fun hHeld => ?_); clear hK K; refine norm_ (a' := ?_) ?_ ?_; rotate_left
                  ·show Act.put _ (some 13) _ = _
                   simp only [Act.put, xset_a, xset_z, xset_s, i64_w, i32_w]
                   rfl
                  refine pure_ (i := 9) (N := some 14) (v := ?_) (a' := ?_) (bA 17 991) rfl rfl (any_of HT_.out (by kernel_rfl)) (fun _ _ _ h => h) (Or.inl ⟨by rfl, ?_⟩) ?_ ?_; rotate_left; (·intro w'; go_simp; with_reducible rfl); rotate_left; (·simp only [Act.put, xset_a, xset_z, xset_s, i64_w, i32_w]; rfl); refine pure_ (i := 10) (N := some 15) (v := ?_) (a' := ?_) (bA 17 2015) rfl rfl (any_of HT_.out (by kernel_rfl)) (fun _ _ _ h => h) (Or.inl ⟨by rfl, ?_⟩) ?_ ?_; rotate_left; (·intro w'; go_simp; with_reducible rfl); rotate_left; (·simp only [Act.put, xset_a, xset_z, xset_s, i64_w, i32_w]; rfl)
                  exact norm_ (by simp only [putAll, Act.put, xset_a, xset_z, xset_s] <;> rfl) (hJ4_8 (v105) _ ⟨(kr_ HO106.out), (bk_ BK101.out), (bk_ BK102.out), (bl_ HB.out)⟩)
               ·skip
                rintro v109 w15 ⟨h0_, h1_, h2_, h3_⟩; have n0_ := Aside0.mk h0_; have n1_ := Aside0.mk h1_; have n2_ := Aside0.mk h2_; have n3_ := Aside0.mk h3_; clear BK101 BK102 HB; clear h0_ h1_ h2_ h3_; have HO110 := n0_; have BK101 := n1_; have BK102 := n2_; have HB := n3_; clear n0_ n1_ n2_ n3_; have hHeld := trivial; refine norm_ (a' := ?_) ?_ ?_; rotate_left
                ·simp only [putAll, Act.put, xset_a, xset_z, xset_s]
                 rfl
                refine two_ (i := 4) (j := 12) (Ni := some 9) (Nj := some 17) (bA 17 4063) (bA 17 8143) rfl rfl rfl rfl (two_of HT_.out (by kernel_rfl)) (by decide) (by decide) (fun K hK => ?_) (fun K hK => ?_)
                ·skip
                 refine Kd.R_lit_step (Kd.int .u8) _ 5 ?hg (N := 9) ?hd (xs := ([(wrap64 (97 + t103)) % 256] : List Int)) (inner := [.int .u8 ((wrap64 (97 + t103)) % 256)]) (ok := fun _ => True) (okp := fun _ => True) ?hr ?hp (fun _ hk => hk) trivial (Below.refl _ _) (Nat.le_refl _) (by simp) ?_; (case hd => rfl); (case hg => rfl); (case hr => first | (go_simp; done) | (go_simp; rfl)); (case hp => exact (Reps.one (show Kd.M (Kd.int .u8) _ _ _ ((wrap64 (97 + t103)) % 256) [.int .u8 ((wrap64 (97 + t103)) % 256)] from rfl) (Reps.none _ _))); intro v105 w16 ho17 hb hg_ hnew_; clear hg_ hnew_
                 (first | rw [← Ny104.out] at ho17 | (simp only [Int.reduceToNat] at ho17; rw [← Ny104.out] at ho17))
                 have n0_ := Aside0.mk (Kd.R_elder' (kr_ HO110.out) (Kd.R_base ho17) hb); have n1_ := Aside0.mk (Kd.R_lower (Kd.R_new' ho17 (Kd.R_lt (kr_ HO110.out))) (below_size (bl_ HB.out))); have n2_ := bb_ BK101 hb; have n3_ := bb_ BK102 hb; have n4_ := Aside0.mk (below_step (bl_ HB.out) hb); clear HO110 BK101 BK102 HB; have HO110 := n0_; have HO106 := n1_; have BK101 := n2_; have BK102 := n3_; have HB := n4_; clear n0_ n1_ n2_ n3_ n4_; clear hb ho17; refine hK.out _ _ trivial (fun hHeld => ?_); clear hK K; refine norm_ (a' := ?_) ?_ ?_; rotate_left
                 ·show Act.put _ (some 9) _ = _
                  simp only [Act.put, xset_a, xset_z, xset_s, i64_w, i32_w]
                  rfl
                 exact norm_ (by simp only [putAll, Act.put, xset_a, xset_z, xset_s] <;> rfl) (hJ4_8_11 (v105, v109) _ ⟨(by (with_reducible repeat (first | apply Kd.R_alloc | apply Kd.R_drewN | apply Kd.R_drew)); exact Kd.R_mono HO106.out (fun _ hk => hk.2)), (by (with_reducible repeat (first | apply Kd.R_alloc | apply Kd.R_drewN | apply Kd.R_drew)); exact Kd.R_mono HO110.out (fun _ hk => hk.2)), (bk_ BK101.out), (bk_ BK102.out), (bl_ HB.out)⟩)
                ·skip
                 have hcv16 := own_string (P := Try.prog) Try.underlying24 Try.underlying5 Try.underlying9 (Kd.own_of_R HO110.out); refine value_ (w1 := ?_) (v := ?_) (by rfl) rfl ?_ ?_; rotate_left 2
                 ·go_simp
                  constructor
                  ·rfl
                  ·rfl
                 clear hcv16; refine hK.out _ _ trivial (fun hHeld => ?_); clear hK K; refine norm_ (a' := ?_) ?_ ?_; rotate_left
                 ·show Act.put _ (some 17) _ = _
                  simp only [Act.put, xset_a, xset_z, xset_s, i64_w, i32_w]
                  rfl
                 exact norm_ (by simp only [putAll, Act.put, xset_a, xset_z, xset_s] <;> rfl) (hJ8_11_12 (v109) _ ⟨(kr_ HO110.out), (bk_ BK101.out), (bk_ BK102.out), (bl_ HB.out)⟩)
              ·skip
               rintro v105 w15 ⟨h0_, h1_, h2_, h3_⟩; have n0_ := Aside0.mk h0_; have n1_ := Aside0.mk h1_; have n2_ := Aside0.mk h2_; have n3_ := Aside0.mk h3_; clear BK101 BK102 HB; clear h0_ h1_ h2_ h3_; have HO106 := n0_; have BK101 := n1_; have BK102 := n2_; have HB := n3_; clear n0_ n1_ n2_ n3_; have hHeld := trivial; refine norm_ (a' := ?_) ?_ ?_; rotate_left
               ·simp only [putAll, Act.put, xset_a, xset_z, xset_s]
                rfl
               refine two_ (i := 5) (j := 11) (Ni := some 10) (Nj := some 16) (bA 17 2047) (bA 17 4063) rfl rfl rfl rfl (two_of HT_.out (by kernel_rfl)) (by decide) (by decide) (fun K hK => ?_) (fun K hK => ?_)
               ·skip
                have hcv16 := own_string (P := Try.prog) Try.underlying24 Try.underlying5 Try.underlying9 (Kd.own_of_R HO106.out); refine value_ (w1 := ?_) (v := ?_) (by rfl) rfl ?_ ?_; rotate_left 2
                ·go_simp
                 constructor
                 ·rfl
                 ·rfl
                clear hcv16; refine hK.out _ _ trivial (fun hHeld => ?_); clear hK K; refine norm_ (a' := ?_) ?_ ?_; rotate_left
                ·show Act.put _ (some 10) _ = _
                 simp only [Act.put, xset_a, xset_z, xset_s, i64_w, i32_w]
                 rfl
                refine pure_ (i := 13) (N := some 18) (v := ?_) (a' := ?_) (bA 17 10239) rfl rfl (any_of HT_.out (by kernel_rfl)) (fun _ _ _ h => h) (Or.inl ⟨by rfl, ?_⟩) ?_ ?_; rotate_left; (·intro w'; go_simp; with_reducible rfl); rotate_left; (·simp only [Act.put, xset_a, xset_z, xset_s, i64_w, i32_w]; rfl)
                exact norm_ (by simp only [putAll, Act.put, xset_a, xset_z, xset_s] <;> rfl) (hJ4_5_8 (v105) _ ⟨(kr_ HO106.out), (bk_ BK101.out), (bk_ BK102.out), (bl_ HB.out)⟩)
               ·skip
                refine Kd.R_lit_step (Kd.int .u8) _ 5 ?hg (N := 16) ?hd (xs := ([(wrap64 (97 + t107)) % 256] : List Int)) (inner := [.int .u8 ((wrap64 (97 + t107)) % 256)]) (ok := fun _ => True) (okp := fun _ => True) ?hr ?hp (fun _ hk => hk) trivial (Below.refl _ _) (Nat.le_refl _) (by simp) ?_; (case hd => rfl); (case hg => rfl); (case hr => first | (go_simp; done) | (go_simp; rfl)); (case hp => exact (Reps.one (show Kd.M (Kd.int .u8) _ _ _ ((wrap64 (97 + t107)) % 256) [.int .u8 ((wrap64 (97 + t107)) % 256)] from rfl) (Reps.none _ _))); intro v109 w16 ho17 hb hg_ hnew_; clear hg_ hnew_
                (first | rw [← Ny108.out] at ho17 | (simp only [Int.reduceToNat] at ho17; rw [← Ny108.out] at ho17))
                have n0_ := Aside0.mk (Kd.R_elder' (kr_ HO106.out) (Kd.R_base ho17) hb); have n1_ := Aside0.mk (Kd.R_lower (Kd.R_new' ho17 (Kd.R_lt (kr_ HO106.out))) (below_size (bl_ HB.out))); have n2_ := bb_ BK101 hb; have n3_ := bb_ BK102 hb; have n4_ := Aside0.mk (below_step (bl_ HB.out) hb); clear HO106 BK101 BK102 HB; have HO106 := n0_; have HO110 := n1_; have BK101 := n2_; have BK102 := n3_; have HB := n4_; clear n0_ n1_ n2_ n3_ n4_; clear hb ho17; refine hK.out _ _ trivial (fun hHeld => ?_); clear hK K; refine norm_ (a' := ?_) ?_ ?_; rotate_left
                ·show Act.put _ (some 16) _ = _
                 simp only [Act.put, xset_a, xset_z, xset_s, i64_w, i32_w]
                 rfl
                exact norm_ (by simp only [putAll, Act.put, xset_a, xset_z, xset_s] <;> rfl) (hJ4_8_11 (v105, v109) _ ⟨(by (with_reducible repeat (first | apply Kd.R_alloc | apply Kd.R_drewN | apply Kd.R_drew)); exact Kd.R_mono HO106.out (fun _ hk => hk.2)), (by (with_reducible repeat (first | apply Kd.R_alloc | apply Kd.R_drewN | apply Kd.R_drew)); exact Kd.R_mono HO110.out (fun _ hk => hk.2)), (bk_ BK101.out), (bk_ BK102.out), (bl_ HB.out)⟩)
             ·skip
              rintro v105 w16 ⟨h0_, h1_, h2_, h3_⟩; have n0_ := Aside0.mk h0_; have n1_ := Aside0.mk h1_; have n2_ := Aside0.mk h2_; have n3_ := Aside0.mk h3_; clear BK101 BK102 HB; clear h0_ h1_ h2_ h3_; have HO106 := n0_; have BK101 := n1_; have BK102 := n2_; have HB := n3_; clear n0_ n1_ n2_ n3_; have hHeld := trivial; refine norm_ (a' := ?_) ?_ ?_; rotate_left
              ·simp only [putAll, Act.put, xset_a, xset_z, xset_s]
               rfl
              refine one_ (i := 8) (N := some 13) (bA 17 8703) rfl rfl (one_of HT_.out (by kernel_rfl)) (by decide) (fun K hK => ?_); refine goes_ Try.func10 (by kernel_rfl) rfl #[.int .i64 (wrap64 (Int.tdiv a1 4)), .int .i64 4] (by rfl) rfl rfl (by (try simp only [List.map_toArray, List.map_cons, List.map_nil]); first | done | rfl | (simp only [List.length_drop, List.length_take]; rfl)) ?_
              with_reducible refine (donjonlaw18_within.calls (wrap64 (Int.tdiv a1 4)) 4 t107 _ A4.out).mono ?_
              rintro e w' ⟨rfl, ⟨nd, rfl⟩⟩; refine ⟨_, rfl, ?_⟩; refine hK.out _ _ trivial (fun hHeld => ?_); clear hK K; refine norm_ (a' := ?_) ?_ ?_; rotate_left
              ·show Act.put _ (some 13) _ = _
               simp only [Act.put, xset_a, xset_z, xset_s, i64_w, i32_w]
               rfl
              refine pure_ (i := 9) (N := some 14) (v := ?_) (a' := ?_) (bA 17 9215) rfl rfl (any_of HT_.out (by kernel_rfl)) (fun _ _ _ h => h) (Or.inl ⟨by rfl, ?_⟩) ?_ ?_; rotate_left; (·intro w'; go_simp; with_reducible rfl); rotate_left; (·simp only [Act.put, xset_a, xset_z, xset_s, i64_w, i32_w]; rfl); refine pure_ (i := 10) (N := some 15) (v := ?_) (a' := ?_) (bA 17 10239) rfl rfl (any_of HT_.out (by kernel_rfl)) (fun _ _ _ h => h) (Or.inl ⟨by rfl, ?_⟩) ?_ ?_; rotate_left; (·intro w'; go_simp; with_reducible rfl); rotate_left; (·simp only [Act.put, xset_a, xset_z, xset_s, i64_w, i32_w]; rfl)
              exact norm_ (by simp only [putAll, Act.put, xset_a, xset_z, xset_s] <;> rfl) (hJ4_5_8 (v105) _ ⟨(kr_ HO106.out), (bk_ BK101.out), (bk_ BK102.out), (bl_ HB.out)⟩)
            ·skip
             rintro v109 w16 ⟨h0_, h1_, h2_, h3_⟩; have n0_ := Aside0.mk h0_; have n1_ := Aside0.mk h1_; have n2_ := Aside0.mk h2_; have n3_ := Aside0.mk h3_; clear BK101 BK102 HB; clear h0_ h1_ h2_ h3_; have HO110 := n0_; have BK101 := n1_; have BK102 := n2_; have HB := n3_; clear n0_ n1_ n2_ n3_; have hHeld := trivial; refine norm_ (a' := ?_) ?_ ?_; rotate_left
             ·simp only [putAll, Act.put, xset_a, xset_z, xset_s]
              rfl
             refine one_ (i := 4) (N := some 9) (bA 17 8159) rfl rfl (one_of HT_.out (by kernel_rfl)) (by decide) (fun K hK => ?_); refine Kd.R_lit_step (Kd.int .u8) _ 5 ?hg (N := 9) ?hd (xs := ([(wrap64 (97 + t103)) % 256] : List Int)) (inner := [.int .u8 ((wrap64 (97 + t103)) % 256)]) (ok := fun _ => True) (okp := fun _ => True) ?hr ?hp (fun _ hk => hk) trivial (Below.refl _ _) (Nat.le_refl _) (by simp) ?_; (case hd => rfl); (case hg => rfl); (case hr => first | (go_simp; done) | (go_simp; rfl)); (case hp => exact (Reps.one (show Kd.M (Kd.int .u8) _ _ _ ((wrap64 (97 + t103)) % 256) [.int .u8 ((wrap64 (97 + t103)) % 256)] from rfl) (Reps.none _ _))); intro v105 w17 ho18 hb hg_ hnew_; clear hg_ hnew_
             (first | rw [← Ny104.out] at ho18 | (simp only [Int.reduceToNat] at ho18; rw [← Ny104.out] at ho18))
             have n0_ := Aside0.mk (Kd.R_elder' (kr_ HO110.out) (Kd.R_base ho18) hb); have n1_ := Aside0.mk (Kd.R_lower (Kd.R_new' ho18 (Kd.R_lt (kr_ HO110.out))) (below_size (bl_ HB.out))); have n2_ := bb_ BK101 hb; have n3_ := bb_ BK102 hb; have n4_ := Aside0.mk (below_step (bl_ HB.out) hb); clear HO110 BK101 BK102 HB; have HO110 := n0_; have HO106 := n1_; have BK101 := n2_; have BK102 := n3_; have HB := n4_; clear n0_ n1_ n2_ n3_ n4_; clear hb ho18; refine hK.out _ _ trivial (fun hHeld => ?_); clear hK K; refine norm_ (a' := ?_) ?_ ?_; rotate_left
             ·show Act.put _ (some 9) _ = _
              simp only [Act.put, xset_a, xset_z, xset_s, i64_w, i32_w]
              rfl
             exact norm_ (by simp only [putAll, Act.put, xset_a, xset_z, xset_s] <;> rfl) (hJ4_8_11_12 (v105, v109) _ ⟨(by (with_reducible repeat (first | apply Kd.R_alloc | apply Kd.R_drewN | apply Kd.R_drew)); exact Kd.R_mono HO106.out (fun _ hk => hk.2)), (by (with_reducible repeat (first | apply Kd.R_alloc | apply Kd.R_drewN | apply Kd.R_drew)); exact Kd.R_mono HO110.out (fun _ hk => hk.2)), (bk_ BK101.out), (bk_ BK102.out), (bl_ HB.out)⟩)
           ·skip
            rintro ⟨v105, v109⟩ w17 ⟨h0_, h1_, h2_, h3_, h4_⟩; have n0_ := Aside0.mk h0_; have n1_ := Aside0.mk h1_; have n2_ := Aside0.mk h2_; have n3_ := Aside0.mk h3_; have n4_ := Aside0.mk h4_; clear BK101 BK102 HB; clear h0_ h1_ h2_ h3_ h4_; have HO106 := n0_; have HO110 := n1_; have BK101 := n2_; have BK102 := n3_; have HB := n4_; clear n0_ n1_ n2_ n3_ n4_; have hHeld := trivial; refine norm_ (a' := ?_) ?_ ?_; rotate_left
            ·simp only [putAll, Act.put, xset_a, xset_z, xset_s]
             rfl
            refine two_ (i := 5) (j := 12) (Ni := some 10) (Nj := some 17) (bA 17 4095) (bA 17 8159) rfl rfl rfl rfl (two_of HT_.out (by kernel_rfl)) (by decide) (by decide) (fun K hK => ?_) (fun K hK => ?_)
            ·skip
             have hcv18 := own_string (P := Try.prog) Try.underlying24 Try.underlying5 Try.underlying9 (Kd.own_of_R HO106.out); refine value_ (w1 := ?_) (v := ?_) (by rfl) rfl ?_ ?_; rotate_left 2
             ·go_simp
              constructor
              ·rfl
              ·rfl
             clear hcv18; refine hK.out _ _ trivial (fun hHeld => ?_); clear hK K; refine norm_ (a' := ?_) ?_ ?_; rotate_left
             ·show Act.put _ (some 10) _ = _
              simp only [Act.put, xset_a, xset_z, xset_s, i64_w, i32_w]
              rfl
             refine pure_ (i := 13) (N := some 18) (v := ?_) (a' := ?_) (bA 17 12287) rfl rfl (any_of HT_.out (by kernel_rfl)) (fun _ _ _ h => h) (Or.inl ⟨by rfl, ?_⟩) ?_ ?_; rotate_left; (·intro w'; go_simp; with_reducible rfl); rotate_left; (·simp only [Act.put, xset_a, xset_z, xset_s, i64_w, i32_w]; rfl)
             exact norm_ (by simp only [putAll, Act.put, xset_a, xset_z, xset_s] <;> rfl) (hJ4_5_8_11 (v105, v109) _ ⟨(kr_ HO106.out), (kr_ HO110.out), (bk_ BK101.out), (bk_ BK102.out), (bl_ HB.out)⟩)
            ·skip
             have hcv18 := own_string (P := Try.prog) Try.underlying24 Try.underlying5 Try.underlying9 (Kd.own_of_R HO110.out); refine value_ (w1 := ?_) (v := ?_) (by rfl) rfl ?_ ?_; rotate_left 2
             ·go_simp
              constructor
              ·rfl
              ·rfl
             clear hcv18; refine hK.out _ _ trivial (fun hHeld => ?_); clear hK K; refine norm_ (a' := ?_) ?_ ?_; rotate_left
             ·show Act.put _ (some 17) _ = _
              simp only [Act.put, xset_a, xset_z, xset_s, i64_w, i32_w]
              rfl
             exact norm_ (by simp only [putAll, Act.put, xset_a, xset_z, xset_s] <;> rfl) (hJ4_8_11_12 (v105, v109) _ ⟨(kr_ HO106.out), (kr_ HO110.out), (bk_ BK101.out), (bk_ BK102.out), (bl_ HB.out)⟩)
          ·skip
           rintro v105 w16 ⟨h0_, h1_, h2_, h3_⟩; have n0_ := Aside0.mk h0_; have n1_ := Aside0.mk h1_; have n2_ := Aside0.mk h2_; have n3_ := Aside0.mk h3_; clear BK101 BK102 HB; clear h0_ h1_ h2_ h3_; have HO106 := n0_; have BK101 := n1_; have BK102 := n2_; have HB := n3_; clear n0_ n1_ n2_ n3_; have hHeld := trivial; refine norm_ (a' := ?_) ?_ ?_; rotate_left
           ·simp only [putAll, Act.put, xset_a, xset_z, xset_s]
            rfl
           refine two_ (i := 11) (j := 14) (Ni := some 16) (Nj := none) (bA 17 12287) (bA 17 26623) rfl rfl rfl rfl (two_of HT_.out (by kernel_rfl)) (by decide) (by decide) (fun K hK => ?_) (fun K hK => ?_)
           ·skip
            refine Kd.R_lit_step (Kd.int .u8) _ 5 ?hg (N := 16) ?hd (xs := ([(wrap64 (97 + t107)) % 256] : List Int)) (inner := [.int .u8 ((wrap64 (97 + t107)) % 256)]) (ok := fun _ => True) (okp := fun _ => True) ?hr ?hp (fun _ hk => hk) trivial (Below.refl _ _) (Nat.le_refl _) (by simp) ?_; (case hd => rfl); (case hg => rfl); (case hr => first | (go_simp; done) | (go_simp; rfl)); (case hp => exact (Reps.one (show Kd.M (Kd.int .u8) _ _ _ ((wrap64 (97 + t107)) % 256) [.int .u8 ((wrap64 (97 + t107)) % 256)] from rfl) (Reps.none _ _))); intro v109 w17 ho18 hb hg_ hnew_; clear hg_ hnew_
            (first | rw [← Ny108.out] at ho18 | (simp only [Int.reduceToNat] at ho18; rw [← Ny108.out] at ho18))
            have n0_ := Aside0.mk (Kd.R_elder' (kr_ HO106.out) (Kd.R_base ho18) hb); have n1_ := Aside0.mk (Kd.R_lower (Kd.R_new' ho18 (Kd.R_lt (kr_ HO106.out))) (below_size (bl_ HB.out))); have n2_ := bb_ BK101 hb; have n3_ := bb_ BK102 hb; have n4_ := Aside0.mk (below_step (bl_ HB.out) hb); clear HO106 BK101 BK102 HB; have HO106 := n0_; have HO110 := n1_; have BK101 := n2_; have BK102 := n3_; have HB := n4_; clear n0_ n1_ n2_ n3_ n4_; clear hb ho18; refine hK.out _ _ trivial (fun hHeld => ?_); clear hK K; refine norm_ (a' := ?_) ?_ ?_; rotate_left
            ·show Act.put _ (some 16) _ = _
             simp only [Act.put, xset_a, xset_z, xset_s, i64_w, i32_w]
             rfl
            exact norm_ (by simp only [putAll, Act.put, xset_a, xset_z, xset_s] <;> rfl) (hJ4_5_8_11 (v105, v109) _ ⟨(by (with_reducible repeat (first | apply Kd.R_alloc | apply Kd.R_drewN | apply Kd.R_drew)); exact Kd.R_mono HO106.out (fun _ hk => hk.2)), (by (with_reducible repeat (first | apply Kd.R_alloc | apply Kd.R_drewN | apply Kd.R_drew)); exact Kd.R_mono HO110.out (fun _ hk => hk.2)), (bk_ BK101.out), (bk_ BK102.out), (bl_ HB.out)⟩)
           ·skip
            have hs17 : w16.cell? ⟨gb101, 0, none⟩ = some (.string a0_0) := (blk_cell BK101.out 0).trans rfl; have hfs17 := blk_frozen BK101.out 0; have hns17_1 := NB102_101.out; have hms17_1 := NB101_102.out
            with_reducible refine skip_ (w1 := ?_) ?_ rfl ?_ ?_
            rotate_left
            ·rfl
            ·go_simp
             rfl
            refine hK.out _ _ trivial (fun hHeld => ?_); clear hK K
            exact norm_ (by simp only [putAll, Act.put, xset_a, xset_z, xset_s] <;> rfl) (hJ4_5_8_14 (v105) _ ⟨(by (with_reducible repeat (first | apply Kd.R_alloc | apply Kd.R_drewN | apply Kd.R_drew)); exact Kd.R_mono (Kd.R_far (p := ⟨gb101, 0, none⟩) (Kd.R_types HO106.out BK101.out (by decide)) (fun _ hk => hk.2) (.string (strOfNums y104))) (fun _ hk => trivial)), (by (with_reducible repeat (first | refine blk_drewN ?_ _ | refine blk_drew ?_ | refine blk_alloc ?_ _)); refine blk_put (cs := #[.string a0_0, .int .i64 a0_1, .int .i64 a0_2, .int .i64 a0_3, .int .i64 a0_4, .string a0_5, .int .i64 a0_6, .int .i64 a0_7, .int .i64 a0_8, .int .i64 a0_9, .string a0_10]) ?_ 0 _ rfl; (with_reducible repeat (first | refine blk_drewN ?_ _ | refine blk_drew ?_ | refine blk_alloc ?_ _)); exact BK101.out), (by (with_reducible repeat (first | refine blk_drewN ?_ _ | refine blk_drew ?_ | refine blk_alloc ?_ _)); refine blk_far ?_ NB102_101.out _; (with_reducible repeat (first | refine blk_drewN ?_ _ | refine blk_drew ?_ | refine blk_alloc ?_ _)); exact BK102.out), (bl_ HB.out)⟩)
         ·skip
          rintro ⟨v105, v109⟩ w18 ⟨h0_, h1_, h2_, h3_, h4_⟩; have n0_ := Aside0.mk h0_; have n1_ := Aside0.mk h1_; have n2_ := Aside0.mk h2_; have n3_ := Aside0.mk h3_; have n4_ := Aside0.mk h4_; clear BK101 BK102 HB; clear h0_ h1_ h2_ h3_ h4_; have HO106 := n0_; have HO110 := n1_; have BK101 := n2_; have BK102 := n3_; have HB := n4_; clear n0_ n1_ n2_ n3_ n4_; have hHeld := trivial; refine norm_ (a' := ?_) ?_ ?_; rotate_left
          ·simp only [putAll, Act.put, xset_a, xset_z, xset_s]
           rfl
          refine one_ (i := 5) (N := some 10) (bA 17 8191) rfl rfl (one_of HT_.out (by kernel_rfl)) (by decide) (fun K hK => ?_); have hcv19 := own_string (P := Try.prog) Try.underlying24 Try.underlying5 Try.underlying9 (Kd.own_of_R HO106.out); refine value_ (w1 := ?_) (v := ?_) (by rfl) rfl ?_ ?_; rotate_left 2
          ·go_simp
           constructor
           ·rfl
           ·rfl
          clear hcv19; refine hK.out _ _ trivial (fun hHeld => ?_); clear hK K; refine norm_ (a' := ?_) ?_ ?_; rotate_left
          ·show Act.put _ (some 10) _ = _
           simp only [Act.put, xset_a, xset_z, xset_s, i64_w, i32_w]
           rfl
          refine pure_ (i := 13) (N := some 18) (v := ?_) (a' := ?_) (bA 17 16383) rfl rfl (any_of HT_.out (by kernel_rfl)) (fun _ _ _ h => h) (Or.inl ⟨by rfl, ?_⟩) ?_ ?_; rotate_left; (·intro w'; go_simp; with_reducible rfl); rotate_left; (·simp only [Act.put, xset_a, xset_z, xset_s, i64_w, i32_w]; rfl)
          exact norm_ (by simp only [putAll, Act.put, xset_a, xset_z, xset_s] <;> rfl) (hJ4_5_8_11_12 (v105, v109) _ ⟨(kr_ HO106.out), (kr_ HO110.out), (bk_ BK101.out), (bk_ BK102.out), (bl_ HB.out)⟩)
        ·skip
         rintro v105 w17 ⟨h0_, h1_, h2_, h3_⟩; have n0_ := Aside0.mk h0_; have n1_ := Aside0.mk h1_; have n2_ := Aside0.mk h2_; have n3_ := Aside0.mk h3_; clear BK101 BK102 HB; clear h0_ h1_ h2_ h3_; have HO106 := n0_; have BK101 := n1_; have BK102 := n2_; have HB := n3_; clear n0_ n1_ n2_ n3_; have hHeld := trivial; refine norm_ (a' := ?_) ?_ ?_; rotate_left
         ·simp only [putAll, Act.put, xset_a, xset_z, xset_s]
          rfl
         refine one_ (i := 11) (N := some 16) (bA 17 28671) rfl rfl (one_of HT_.out (by kernel_rfl)) (by decide) (fun K hK => ?_); refine Kd.R_lit_step (Kd.int .u8) _ 5 ?hg (N := 16) ?hd (xs := ([(wrap64 (97 + t107)) % 256] : List Int)) (inner := [.int .u8 ((wrap64 (97 + t107)) % 256)]) (ok := fun _ => True) (okp := fun _ => True) ?hr ?hp (fun _ hk => hk) trivial (Below.refl _ _) (Nat.le_refl _) (by simp) ?_; (case hd => rfl); (case hg => rfl); (case hr => first | (go_simp; done) | (go_simp; rfl)); (case hp => exact (Reps.one (show Kd.M (Kd.int .u8) _ _ _ ((wrap64 (97 + t107)) % 256) [.int .u8 ((wrap64 (97 + t107)) % 256)] from rfl) (Reps.none _ _))); intro v109 w18 ho19 hb hg_ hnew_; clear hg_ hnew_
         (first | rw [← Ny108.out] at ho19 | (simp only [Int.reduceToNat] at ho19; rw [← Ny108.out] at ho19))
         have n0_ := Aside0.mk (Kd.R_elder' (kr_ HO106.out) (Kd.R_base ho19) hb); have n1_ := Aside0.mk (Kd.R_lower (Kd.R_new' ho19 (Kd.R_lt (kr_ HO106.out))) (below_size (bl_ HB.out))); have n2_ := bb_ BK101 hb; have n3_ := bb_ BK102 hb; have n4_ := Aside0.mk (below_step (bl_ HB.out) hb); clear HO106 BK101 BK102 HB; have HO106 := n0_; have HO110 := n1_; have BK101 := n2_; have BK102 := n3_; have HB := n4_; clear n0_ n1_ n2_ n3_ n4_; clear hb ho19; refine hK.out _ _ trivial (fun hHeld => ?_); clear hK K; refine norm_ (a' := ?_) ?_ ?_; rotate_left
         ·show Act.put _ (some 16) _ = _
          simp only [Act.put, xset_a, xset_z, xset_s, i64_w, i32_w]
          rfl
         exact norm_ (by simp only [putAll, Act.put, xset_a, xset_z, xset_s] <;> rfl) (hJ4_5_8_11_14 (v105, v109) _ ⟨(by (with_reducible repeat (first | apply Kd.R_alloc | apply Kd.R_drewN | apply Kd.R_drew)); exact Kd.R_mono HO106.out (fun _ hk => hk.2)), (by (with_reducible repeat (first | apply Kd.R_alloc | apply Kd.R_drewN | apply Kd.R_drew)); exact Kd.R_mono HO110.out (fun _ hk => hk.2)), (bk_ BK101.out), (bk_ BK102.out), (bl_ HB.out)⟩)
       ·skip
        rintro ⟨v105, v109⟩ w18 ⟨h0_, h1_, h2_, h3_, h4_⟩; have n0_ := Aside0.mk h0_; have n1_ := Aside0.mk h1_; have n2_ := Aside0.mk h2_; have n3_ := Aside0.mk h3_; have n4_ := Aside0.mk h4_; clear BK101 BK102 HB; clear h0_ h1_ h2_ h3_ h4_; have HO106 := n0_; have HO110 := n1_; have BK101 := n2_; have BK102 := n3_; have HB := n4_; clear n0_ n1_ n2_ n3_ n4_; have hHeld := trivial; refine norm_ (a' := ?_) ?_ ?_; rotate_left
        ·simp only [putAll, Act.put, xset_a, xset_z, xset_s]
         rfl
        refine two_ (i := 12) (j := 14) (Ni := some 17) (Nj := none) (bA 17 16383) (bA 17 28671) rfl rfl rfl rfl (two_of HT_.out (by kernel_rfl)) (by decide) (by decide) (fun K hK => ?_) (fun K hK => ?_)
        ·skip
         have hcv19 := own_string (P := Try.prog) Try.underlying24 Try.underlying5 Try.underlying9 (Kd.own_of_R HO110.out); refine value_ (w1 := ?_) (v := ?_) (by rfl) rfl ?_ ?_; rotate_left 2
         ·go_simp
          constructor
          ·rfl
          ·rfl
         clear hcv19; refine hK.out _ _ trivial (fun hHeld => ?_); clear hK K; refine norm_ (a' := ?_) ?_ ?_; rotate_left
         ·show Act.put _ (some 17) _ = _
          simp only [Act.put, xset_a, xset_z, xset_s, i64_w, i32_w]
          rfl
         exact norm_ (by simp only [putAll, Act.put, xset_a, xset_z, xset_s] <;> rfl) (hJ4_5_8_11_12 (v105, v109) _ ⟨(kr_ HO106.out), (kr_ HO110.out), (bk_ BK101.out), (bk_ BK102.out), (bl_ HB.out)⟩)
        ·skip
         have hs19 : w18.cell? ⟨gb101, 0, none⟩ = some (.string a0_0) := (blk_cell BK101.out 0).trans rfl; have hfs19 := blk_frozen BK101.out 0; have hns19_1 := NB102_101.out; have hms19_1 := NB101_102.out
         with_reducible refine skip_ (w1 := ?_) ?_ rfl ?_ ?_
         rotate_left
         ·rfl
         ·go_simp
          rfl
         refine hK.out _ _ trivial (fun hHeld => ?_); clear hK K
         exact norm_ (by simp only [putAll, Act.put, xset_a, xset_z, xset_s] <;> rfl) (hJ4_5_8_11_14 (v105, v109) _ ⟨(by (with_reducible repeat (first | apply Kd.R_alloc | apply Kd.R_drewN | apply Kd.R_drew)); exact Kd.R_mono (Kd.R_far (p := ⟨gb101, 0, none⟩) (Kd.R_types HO106.out BK101.out (by decide)) (fun _ hk => hk.2) (.string (strOfNums y104))) (fun _ hk => hk.1)), (by (with_reducible repeat (first | apply Kd.R_alloc | apply Kd.R_drewN | apply Kd.R_drew)); exact Kd.R_mono (Kd.R_far (p := ⟨gb101, 0, none⟩) (Kd.R_types HO110.out BK101.out (by decide)) (fun _ hk => hk.2) (.string (strOfNums y104))) (fun _ hk => hk.1)), (by (with_reducible repeat (first | refine blk_drewN ?_ _ | refine blk_drew ?_ | refine blk_alloc ?_ _)); refine blk_put (cs := #[.string a0_0, .int .i64 a0_1, .int .i64 a0_2, .int .i64 a0_3, .int .i64 a0_4, .string a0_5, .int .i64 a0_6, .int .i64 a0_7, .int .i64 a0_8, .int .i64 a0_9, .string a0_10]) ?_ 0 _ rfl; (with_reducible repeat (first | refine blk_drewN ?_ _ | refine blk_drew ?_ | refine blk_alloc ?_ _)); exact BK101.out), (by (with_reducible repeat (first | refine blk_drewN ?_ _ | refine blk_drew ?_ | refine blk_alloc ?_ _)); refine blk_far ?_ NB102_101.out _; (with_reducible repeat (first | refine blk_drewN ?_ _ | refine blk_drew ?_ | refine blk_alloc ?_ _)); exact BK102.out), (bl_ HB.out)⟩)
      ·skip
       rintro ⟨v105, v109⟩ w19 ⟨h0_, h1_, h2_, h3_, h4_⟩; have n0_ := Aside0.mk h0_; have n1_ := Aside0.mk h1_; have n2_ := Aside0.mk h2_; have n3_ := Aside0.mk h3_; have n4_ := Aside0.mk h4_; clear BK101 BK102 HB; clear h0_ h1_ h2_ h3_ h4_; have HO106 := n0_; have HO110 := n1_; have BK101 := n2_; have BK102 := n3_; have HB := n4_; clear n0_ n1_ n2_ n3_ n4_; have hHeld := trivial; refine norm_ (a' := ?_) ?_ ?_; rotate_left
       ·simp only [putAll, Act.put, xset_a, xset_z, xset_s]
        rfl
       refine one_ (i := 12) (N := some 17) (bA 17 32767) rfl rfl (one_of HT_.out (by kernel_rfl)) (by decide) (fun K hK => ?_); have hcv20 := own_string (P := Try.prog) Try.underlying24 Try.underlying5 Try.underlying9 (Kd.own_of_R HO110.out); refine value_ (w1 := ?_) (v := ?_) (by rfl) rfl ?_ ?_; rotate_left 2
       ·go_simp
        constructor
        ·rfl
        ·rfl
       clear hcv20; refine hK.out _ _ trivial (fun hHeld => ?_); clear hK K; refine norm_ (a' := ?_) ?_ ?_; rotate_left
       ·show Act.put _ (some 17) _ = _
        simp only [Act.put, xset_a, xset_z, xset_s, i64_w, i32_w]
        rfl
       exact norm_ (by simp only [putAll, Act.put, xset_a, xset_z, xset_s] <;> rfl) (hJ4_5_8_11_12_14 (v105, v109) _ ⟨(kr_ HO106.out), (kr_ HO110.out), (bk_ BK101.out), (bk_ BK102.out), (bl_ HB.out)⟩)
     ·skip
      rintro ⟨v105, v109⟩ w19 ⟨h0_, h1_, h2_, h3_, h4_⟩; have n0_ := Aside0.mk h0_; have n1_ := Aside0.mk h1_; have n2_ := Aside0.mk h2_; have n3_ := Aside0.mk h3_; have n4_ := Aside0.mk h4_; clear BK101 BK102 HB; clear h0_ h1_ h2_ h3_ h4_; have HO106 := n0_; have HO110 := n1_; have BK101 := n2_; have BK102 := n3_; have HB := n4_; clear n0_ n1_ n2_ n3_ n4_; have hHeld := trivial; refine norm_ (a' := ?_) ?_ ?_; rotate_left
      ·simp only [putAll, Act.put, xset_a, xset_z, xset_s]
       rfl
      refine one_ (i := 14) (N := none) (bA 17 32767) rfl rfl (one_of HT_.out (by kernel_rfl)) (by decide) (fun K hK => ?_); have hs20 : w19.cell? ⟨gb101, 0, none⟩ = some (.string a0_0) := (blk_cell BK101.out 0).trans rfl; have hfs20 := blk_frozen BK101.out 0; have hns20_1 := NB102_101.out; have hms20_1 := NB101_102.out
      with_reducible refine skip_ (w1 := ?_) ?_ rfl ?_ ?_
      rotate_left
      ·rfl
      ·go_simp
       rfl
      refine hK.out _ _ trivial (fun hHeld => ?_); clear hK K
      exact norm_ (by simp only [putAll, Act.put, xset_a, xset_z, xset_s] <;> rfl) (hJ4_5_8_11_12_14 (v105, v109) _ ⟨(by (with_reducible repeat (first | apply Kd.R_alloc | apply Kd.R_drewN | apply Kd.R_drew)); exact Kd.R_mono (Kd.R_far (p := ⟨gb101, 0, none⟩) (Kd.R_types HO106.out BK101.out (by decide)) (fun _ hk => hk.2) (.string (strOfNums y104))) (fun _ hk => hk.1)), (by (with_reducible repeat (first | apply Kd.R_alloc | apply Kd.R_drewN | apply Kd.R_drew)); exact Kd.R_mono (Kd.R_far (p := ⟨gb101, 0, none⟩) (Kd.R_types HO110.out BK101.out (by decide)) (fun _ hk => hk.2) (.string (strOfNums y104))) (fun _ hk => hk.1)), (by (with_reducible repeat (first | refine blk_drewN ?_ _ | refine blk_drew ?_ | refine blk_alloc ?_ _)); refine blk_put (cs := #[.string a0_0, .int .i64 a0_1, .int .i64 a0_2, .int .i64 a0_3, .int .i64 a0_4, .string a0_5, .int .i64 a0_6, .int .i64 a0_7, .int .i64 a0_8, .int .i64 a0_9, .string a0_10]) ?_ 0 _ rfl; (with_reducible repeat (first | refine blk_drewN ?_ _ | refine blk_drew ?_ | refine blk_alloc ?_ _)); exact BK101.out), (by (with_reducible repeat (first | refine blk_drewN ?_ _ | refine blk_drew ?_ | refine blk_alloc ?_ _)); refine blk_far ?_ NB102_101.out _; (with_reducible repeat (first | refine blk_drewN ?_ _ | refine blk_drew ?_ | refine blk_alloc ?_ _)); exact BK102.out), (bl_ HB.out)⟩)
    rintro ⟨v105, v109⟩ w20 ⟨h0_, h1_, h2_, h3_, h4_⟩; have n0_ := Aside0.mk h0_; have n1_ := Aside0.mk h1_; have n2_ := Aside0.mk h2_; have n3_ := Aside0.mk h3_; have n4_ := Aside0.mk h4_; clear BK101 BK102 HB; clear h0_ h1_ h2_ h3_ h4_; have HO106 := n0_; have HO110 := n1_; have BK101 := n2_; have BK102 := n3_; have HB := n4_; clear n0_ n1_ n2_ n3_ n4_; have hHeld := trivial; refine norm_ (a' := ?_) ?_ ?_; rotate_left
    ·simp only [putAll, Act.put, xset_a, xset_z, xset_s]
     rfl
    refine pure_ (i := 15) (N := some 19) (v := ?_) (a' := ?_) (bA 17 65535) rfl rfl (any_of HT_.out (by kernel_rfl)) (fun _ _ _ h => h) (Or.inl ⟨by rfl, ?_⟩) ?_ ?_; rotate_left; (·intro w'; go_simp; with_reducible rfl); rotate_left; (·simp only [Act.put, xset_a, xset_z, xset_s, i64_w, i32_w]; rfl); refine one_ (i := 16) (N := none) (bA 17 131071) rfl rfl (one_of HT_.out (by kernel_rfl)) (by decide) (fun K hK => ?_); have hs21 : w20.cell? ⟨gb101, 5, none⟩ = some (.string a0_5) := (blk_cell BK101.out 5).trans rfl; have hfs21 := blk_frozen BK101.out 5; have hns21_1 := NB102_101.out; have hms21_1 := NB101_102.out
    with_reducible refine skip_ (w1 := ?_) ?_ rfl ?_ ?_
    rotate_left
    ·rfl
    ·go_simp
     rfl
    refine hK.out _ _ trivial (fun hHeld => ?_); clear hK K; refine done_ (done_of HT_.out (by kernel_rfl)) ?_; (try go_wp2); have n0_ : Aside0 (Kd.R (Kd.int .u8) 5 (w20.setCell ⟨gb101, 5, none⟩ (.string (strOfNums y108))) w.heap.size (fun k_ => some k_ ≠ (v109 : Value).ownBlock) v105 y104) := ⟨by (with_reducible repeat (first | apply Kd.R_alloc | apply Kd.R_drewN | apply Kd.R_drew)); exact Kd.R_mono (Kd.R_far (p := ⟨gb101, 5, none⟩) (Kd.R_types HO106.out BK101.out (by decide)) (fun _ hk => hk.2) (.string (strOfNums y108))) (fun _ hk => hk.1)⟩; have n1_ : Aside0 (Kd.R (Kd.int .u8) 5 (w20.setCell ⟨gb101, 5, none⟩ (.string (strOfNums y108))) w.heap.size (fun k_ => some k_ ≠ (v105 : Value).ownBlock) v109 y108) := ⟨by (with_reducible repeat (first | apply Kd.R_alloc | apply Kd.R_drewN | apply Kd.R_drew)); exact Kd.R_mono (Kd.R_far (p := ⟨gb101, 5, none⟩) (Kd.R_types HO110.out BK101.out (by decide)) (fun _ hk => hk.2) (.string (strOfNums y108))) (fun _ hk => hk.1)⟩; have n2_ : Aside0 ((w20.setCell ⟨gb101, 5, none⟩ (.string (strOfNums y108))).heap[gb101]? = some (.cells #[.string (strOfNums y104), .int .i64 a0_1, .int .i64 a0_2, .int .i64 a0_3, .int .i64 a0_4, .string (strOfNums y108), .int .i64 a0_6, .int .i64 a0_7, .int .i64 a0_8, .int .i64 a0_9, .string a0_10] 28 (0, 0))) := ⟨by (with_reducible repeat (first | refine blk_drewN ?_ _ | refine blk_drew ?_ | refine blk_alloc ?_ _)); refine blk_put (cs := #[.string (strOfNums y104), .int .i64 a0_1, .int .i64 a0_2, .int .i64 a0_3, .int .i64 a0_4, .string a0_5, .int .i64 a0_6, .int .i64 a0_7, .int .i64 a0_8, .int .i64 a0_9, .string a0_10]) ?_ 5 _ rfl; (with_reducible repeat (first | refine blk_drewN ?_ _ | refine blk_drew ?_ | refine blk_alloc ?_ _)); exact BK101.out⟩; have n3_ : Aside0 ((w20.setCell ⟨gb101, 5, none⟩ (.string (strOfNums y108))).heap[gb102]? = some (.cells #[.string ⟨#[]⟩, .int .i64 0, .int .i64 0, .int .i64 0, .int .i64 0, .string ⟨#[]⟩, .int .i64 0, .int .i64 0, .int .i64 0, .int .i64 0, .string ⟨#[]⟩] 28 (0, 0))) := ⟨by (with_reducible repeat (first | refine blk_drewN ?_ _ | refine blk_drew ?_ | refine blk_alloc ?_ _)); refine blk_far ?_ NB102_101.out _; (with_reducible repeat (first | refine blk_drewN ?_ _ | refine blk_drew ?_ | refine blk_alloc ?_ _)); exact BK102.out⟩; have n4_ : Aside0 (Below w.heap.size w (w20.setCell ⟨gb101, 5, none⟩ (.string (strOfNums y108)))) := ⟨bl_ HB.out⟩
    (try clear HO106)
    (try clear HO110)
    (try clear BK101)
    (try clear BK102)
    (try clear HB)
    generalize (w20.setCell ⟨gb101, 5, none⟩ (.string (strOfNums y108))) = w22 at n0_ n1_ n2_ n3_ n4_ ⊢
    have HO106 := n0_; have HO110 := n1_; have BK101 := n2_; have BK102 := n3_; have HB := n4_; clear n0_ n1_ n2_ n3_ n4_; have n0_ := Aside0.mk (Kd.R_drew HO106.out); have n1_ := Aside0.mk (Kd.R_drew HO110.out); have n2_ := Aside0.mk (blk_drew BK101.out); have n3_ := Aside0.mk (blk_drew BK102.out); have n4_ := Aside0.mk (below_drew1 HB.out); clear HO106 HO110 BK101 BK102 HB; have HO106 := n0_; have HO110 := n1_; have BK101 := n2_; have BK102 := n3_; have HB := n4_; clear n0_ n1_ n2_ n3_ n4_; refine start_ (n := 10) (S := fun w' => cb11e w' gb101 (.string (strOfNums y104)) (.int .i64 a0_1) (.int .i64 a0_2) (.int .i64 a0_3) (.int .i64 a0_4) (.string (strOfNums y108)) (.int .i64 a0_6) (.int .i64 a0_7) (.int .i64 a0_8) (.int .i64 a0_9) (.string a0_10)) (ds := [7, 9]) (bA 10 0) (by kernel_rfl) rfl rfl ⟨(blk_cell BK101.out 0).trans rfl, (blk_cell BK101.out 1).trans rfl, (blk_cell BK101.out 2).trans rfl, (blk_cell BK101.out 3).trans rfl, (blk_cell BK101.out 4).trans rfl, (blk_cell BK101.out 5).trans rfl, (blk_cell BK101.out 6).trans rfl, (blk_cell BK101.out 7).trans rfl, (blk_cell BK101.out 8).trans rfl, (blk_cell BK101.out 9).trans rfl, (blk_cell BK101.out 10).trans rfl⟩ (fun hHeld => ?_); refine with_tabW donjonlaw18_good.tab2 donjonlaw18_good.bits2 (fun HT_ HW_ => ?_)
    generalize w22.drew = w23 at HO106 HO110 BK101 BK102 HB hHeld ⊢
    refine pure_ (i := 0) (N := some 20) (v := ?_) (a' := ?_) (bA 10 1) rfl rfl (any_of HT_.out (by kernel_rfl)) (fun _ _ _ h => h) (Or.inl ⟨by rfl, ?_⟩) ?_ ?_; rotate_left; (·intro w'; go_simp; with_reducible rfl); rotate_left; (·simp only [Act.put, xset_a, xset_z, xset_s, i64_w, i32_w]; rfl); refine pure_ (i := 3) (N := some 23) (v := ?_) (a' := ?_) (bA 10 9) rfl rfl (any_of HT_.out (by kernel_rfl)) (fun _ _ _ h => h) (Or.inl ⟨by rfl, ?_⟩) ?_ ?_; rotate_left; (·intro w'; go_simp; with_reducible rfl); rotate_left; (·simp only [Act.put, xset_a, xset_z, xset_s, i64_w, i32_w]; rfl); refine take_ (i := 1) (N := some 21) (v := ?_) (a' := ?_) (bA 10 11) rfl rfl (take_ofW HT_.out HW_.out (by kernel_rfl)) (fun _ _ _ h => h) (Or.inl ⟨by rfl, ?_⟩) hHeld ?_ ?_; rotate_left; (·rintro w' ⟨s0, s1, s2, s3, s4, s5, s6, s7, s8, s9, s10⟩; go_simp; with_reducible rfl); rotate_left; (·simp only [Act.put, xset_a, xset_z, xset_s, i64_w, i32_w]; rfl); refine take_ (i := 4) (N := some 24) (v := ?_) (a' := ?_) (bA 10 27) rfl rfl (take_ofW HT_.out HW_.out (by kernel_rfl)) (fun _ _ _ h => h) (Or.inl ⟨by rfl, ?_⟩) hHeld ?_ ?_; rotate_left; (·rintro w' ⟨s0, s1, s2, s3, s4, s5, s6, s7, s8, s9, s10⟩; go_simp; with_reducible rfl); rotate_left; (·simp only [Act.put, xset_a, xset_z, xset_s, i64_w, i32_w]; rfl); refine one_ (i := 2) (N := some 22) (bA 10 31) rfl rfl (one_of HT_.out (by kernel_rfl)) (by decide) (fun K hK => ?_); refine goes_ Try.func25 (by kernel_rfl) rfl #[.agg #[.int .i64 a0_1, .int .i64 a0_2, .int .i64 a0_3, .int .i64 a0_4]] (by rfl) rfl rfl (by (try simp only [List.map_toArray, List.map_cons, List.map_nil]); first | done | rfl | (simp only [List.length_drop, List.length_take]; rfl)) ?_
    with_reducible refine (donjonlaw4_Good.calls a0_1 a0_2 a0_3 a0_4 t111 t112 t113 t114 _ A5.out).mono ?_
    rintro e w24 ⟨rfl, hb⟩; refine ⟨_, rfl, ?_⟩; have n0_ := Aside0.mk (Kd.R_below (kr_ HO106.out) hb); have n1_ := Aside0.mk (Kd.R_below (kr_ HO110.out) hb); have n2_ := bb_ BK101 hb; have n3_ := bb_ BK102 hb; have n4_ := Aside0.mk (below_step (bl_ HB.out) hb); clear HO106 HO110 BK101 BK102 HB; have HO106 := n0_; have HO110 := n1_; have BK101 := n2_; have BK102 := n3_; have HB := n4_; clear n0_ n1_ n2_ n3_ n4_
    (try clear hb)
    (try clear hb2)
    (try clear hk)
    (try clear hi)
    refine hK.out _ _ ⟨(blk_cell BK101.out 0).trans rfl, (blk_cell BK101.out 1).trans rfl, (blk_cell BK101.out 2).trans rfl, (blk_cell BK101.out 3).trans rfl, (blk_cell BK101.out 4).trans rfl, (blk_cell BK101.out 5).trans rfl, (blk_cell BK101.out 6).trans rfl, (blk_cell BK101.out 7).trans rfl, (blk_cell BK101.out 8).trans rfl, (blk_cell BK101.out 9).trans rfl, (blk_cell BK101.out 10).trans rfl⟩ (fun hHeld => ?_); clear hK K; refine norm_ (a' := ?_) ?_ ?_; rotate_left
    ·show Act.put _ (some 22) _ = _
     simp only [Act.put, xset_a, xset_z, xset_s, i64_w, i32_w]
     rfl
    refine pure_ (i := 6) (N := some 26) (v := ?_) (a' := ?_) (bA 10 95) rfl rfl (any_of HT_.out (by kernel_rfl)) (fun _ _ _ h => h) (Or.inl ⟨by rfl, ?_⟩) ?_ ?_; rotate_left; (·intro w'; go_simp; with_reducible rfl); rotate_left; (·simp only [Act.put, xset_a, xset_z, xset_s, i64_w, i32_w]; rfl); refine one_ (i := 5) (N := some 25) (bA 10 127) rfl rfl (one_of HT_.out (by kernel_rfl)) (by decide) (fun K hK => ?_); refine goes_ Try.func25 (by kernel_rfl) rfl #[.agg #[.int .i64 a0_6, .int .i64 a0_7, .int .i64 a0_8, .int .i64 a0_9]] (by rfl) rfl rfl (by (try simp only [List.map_toArray, List.map_cons, List.map_nil]); first | done | rfl | (simp only [List.length_drop, List.length_take]; rfl)) ?_
    with_reducible refine (donjonlaw4_Good.calls a0_6 a0_7 a0_8 a0_9 t115 t116 t117 t118 _ A6.out).mono ?_
    rintro e w25 ⟨rfl, hb⟩; refine ⟨_, rfl, ?_⟩; have n0_ := Aside0.mk (Kd.R_below (kr_ HO106.out) hb); have n1_ := Aside0.mk (Kd.R_below (kr_ HO110.out) hb); have n2_ := bb_ BK101 hb; have n3_ := bb_ BK102 hb; have n4_ := Aside0.mk (below_step (bl_ HB.out) hb); clear HO106 HO110 BK101 BK102 HB; have HO106 := n0_; have HO110 := n1_; have BK101 := n2_; have BK102 := n3_; have HB := n4_; clear n0_ n1_ n2_ n3_ n4_
    (try clear hb)
    (try clear hb2)
    (try clear hk)
    (try clear hi)
    refine hK.out _ _ ⟨(blk_cell BK101.out 0).trans rfl, (blk_cell BK101.out 1).trans rfl, (blk_cell BK101.out 2).trans rfl, (blk_cell BK101.out 3).trans rfl, (blk_cell BK101.out 4).trans rfl, (blk_cell BK101.out 5).trans rfl, (blk_cell BK101.out 6).trans rfl, (blk_cell BK101.out 7).trans rfl, (blk_cell BK101.out 8).trans rfl, (blk_cell BK101.out 9).trans rfl, (blk_cell BK101.out 10).trans rfl⟩ (fun hHeld => ?_); clear hK K; refine norm_ (a' := ?_) ?_ ?_; rotate_left
    ·show Act.put _ (some 25) _ = _
     simp only [Act.put, xset_a, xset_z, xset_s, i64_w, i32_w]
     rfl
    refine last_ (i := 7) (N := none) (bA 10 255) rfl rfl (one_of HT_.out (by kernel_rfl)) (by decide) (fun K hK => ?_); have hs26 : w25.cell? ⟨gb101, 1, none⟩ = some (.int .i64 a0_1) := (blk_cell BK101.out 1).trans rfl; have hfs26 := blk_frozen BK101.out 1; have hns26_1 := NB102_101.out; have hms26_1 := NB101_102.out; have hs27 : w25.cell? ⟨gb101, 2, none⟩ = some (.int .i64 a0_2) := (blk_cell BK101.out 2).trans rfl; have hfs27 := blk_frozen BK101.out 2; have hns27_1 := NB102_101.out; have hms27_1 := NB101_102.out; have hs28 : w25.cell? ⟨gb101, 3, none⟩ = some (.int .i64 a0_3) := (blk_cell BK101.out 3).trans rfl; have hfs28 := blk_frozen BK101.out 3; have hns28_1 := NB102_101.out; have hms28_1 := NB101_102.out; have hs29 : w25.cell? ⟨gb101, 4, none⟩ = some (.int .i64 a0_4) := (blk_cell BK101.out 4).trans rfl; have hfs29 := blk_frozen BK101.out 4; have hns29_1 := NB102_101.out; have hms29_1 := NB101_102.out
    with_reducible refine skip_ (w1 := ?_) ?_ rfl ?_ ?_
    rotate_left
    ·rfl
    ·go_simp
     rfl
    refine hK.out _ _ ?_; clear hK K; refine pure_ (i := 8) (N := some 27) (v := ?_) (a' := ?_) (bA 10 511) rfl rfl (any_of HT_.out (by kernel_rfl)) (fun _ _ _ h => h) (Or.inl ⟨by rfl, ?_⟩) ?_ ?_; rotate_left; (·intro w'; go_simp; with_reducible rfl); rotate_left; (·simp only [Act.put, xset_a, xset_z, xset_s, i64_w, i32_w]; rfl); refine last_ (i := 9) (N := none) (bA 10 1023) rfl rfl (one_of HT_.out (by kernel_rfl)) (by decide) (fun K hK => ?_); have hs30 : w25.cell? ⟨gb101, 6, none⟩ = some (.int .i64 a0_6) := (blk_cell BK101.out 6).trans rfl; have hfs30 := blk_frozen BK101.out 6; have hns30_1 := NB102_101.out; have hms30_1 := NB101_102.out; have hs31 : w25.cell? ⟨gb101, 7, none⟩ = some (.int .i64 a0_7) := (blk_cell BK101.out 7).trans rfl; have hfs31 := blk_frozen BK101.out 7; have hns31_1 := NB102_101.out; have hms31_1 := NB101_102.out; have hs32 : w25.cell? ⟨gb101, 8, none⟩ = some (.int .i64 a0_8) := (blk_cell BK101.out 8).trans rfl; have hfs32 := blk_frozen BK101.out 8; have hns32_1 := NB102_101.out; have hms32_1 := NB101_102.out; have hs33 : w25.cell? ⟨gb101, 9, none⟩ = some (.int .i64 a0_9) := (blk_cell BK101.out 9).trans rfl; have hfs33 := blk_frozen BK101.out 9; have hns33_1 := NB102_101.out; have hms33_1 := NB101_102.out
    with_reducible refine skip_ (w1 := ?_) ?_ rfl ?_ ?_
    rotate_left
    ·rfl
    ·go_simp
     rfl
    refine hK.out _ _ ?_; clear hK K; refine done_ (done_of HT_.out (by kernel_rfl)) ?_; have hnb34 := NB101_102.out; have hnc34 := NB102_101.out; obtain ⟨hcz35_0, hcz35_1, hcz35_2, hcz35_3, hcz35_4, hcz35_5, hcz35_6, hcz35_7, hcz35_8, hcz35_9, hcz35_10⟩ := bcs11 BK101.out; obtain ⟨hfz35_0, hfz35_1, hfz35_2, hfz35_3, hfz35_4, hfz35_5, hfz35_6, hfz35_7, hfz35_8, hfz35_9, hfz35_10⟩ := bfs11 BK101.out; obtain ⟨hcz36_0, hcz36_1, hcz36_2, hcz36_3, hcz36_4, hcz36_5, hcz36_6, hcz36_7, hcz36_8, hcz36_9, hcz36_10⟩ := bcs11 BK102.out; obtain ⟨hfz36_0, hfz36_1, hfz36_2, hfz36_3, hfz36_4, hfz36_5, hfz36_6, hfz36_7, hfz36_8, hfz36_9, hfz36_10⟩ := bfs11 BK102.out; (try go_wp2); refine bodyPost_ret (results_cell_row rfl _ _ gb102 28 #[.string (strOfNums y104), .int .i64 t111, .int .i64 t112, .int .i64 t113, .int .i64 t114, .string (strOfNums y108), .int .i64 t115, .int .i64 t116, .int .i64 t117, .int .i64 t118, .string (a0_10.extract 0 40)] (0, 0) _ rfl (by (with_reducible repeat (first | refine blk_drewN ?_ _ | refine blk_drew ?_ | refine blk_alloc ?_ _)); refine puts11 (cs := #[.string ⟨#[]⟩, .int .i64 0, .int .i64 0, .int .i64 0, .int .i64 0, .string ⟨#[]⟩, .int .i64 0, .int .i64 0, .int .i64 0, .int .i64 0, .string ⟨#[]⟩]) ?_ rfl; (iterate 9 ((with_reducible repeat (first | refine blk_drewN ?_ _ | refine blk_drew ?_ | refine blk_alloc ?_ _)); refine blk_far ?_ NB102_101.out _)); (with_reducible repeat (first | refine blk_drewN ?_ _ | refine blk_drew ?_ | refine blk_alloc ?_ _)); exact BK102.out) Try.underlying28 rfl (by kernel_rfl)) rfl ?_
    exact ⟨by first | rfl | (simp [errW_none, errW_some] <;> rfl) | (simp [*, errW_none, errW_some] <;> rfl), by repeat (first | (with_reducible first | exact HB.out | apply below_alloc | apply pw_below_drewN | apply below_drew1 | refine below_set ?_ GE101.out | refine below_set ?_ GE102.out) | exact HB.out)⟩
   ·rw [if_neg c9] at H
    exact absurd H (by simp)
  ·rw [if_neg c8] at H
   exact absurd H (by simp)
 ·rw [if_neg c7] at H
  have c7b0 : decide (40 < (a0_10.size : Int)) = false := decide_eq_false c7; have c7b1 : decide (40 < a0_10.size) = false := decide_eq_false (by omega); clear c7; simp only [Option.some.injEq, Prod.mk.injEq] at H; obtain ⟨rfl, rfl, rfl, rfl, rfl, rfl, rfl, rfl, rfl, rfl, rfl⟩ := H
  go_enter Try.func12, Try.ntmps12
  try go_wp2_with (first | ((with_reducible refine gate_dst (N := 2) rfl ?_); refine box_event ?hg (N := 2) ?hd (cs := #[.string a0_0, .int .i64 a0_1, .int .i64 a0_2, .int .i64 a0_3, .int .i64 a0_4, .string a0_5, .int .i64 a0_6, .int .i64 a0_7, .int .i64 a0_8, .int .i64 a0_9, .string a0_10]) (t := 28) ?hr ?_; (case hd => rfl); (case hg => rfl); (case hr => first | (go_simp; done) | (go_simp; rfl)); intro gb101 hg w37 hbox hb; have n0_ := Aside0.mk (below_step (bl_ HB.out) hb); have n1_ := Aside0.mk (hbox); have n2_ := Aside0.mk ((by rw [hg]; exact (below_size (bl_ HB.out)) : w.heap.size ≤ gb101)); have n3_ := Aside0.mk ((by rw [hg]; exact (below_size (bl_ HB.out)) : w.heap.size ≤ gb101)); clear HB; have HB := n0_; have BK101 := n1_; have GW101 := n2_; have GE101 := n3_; clear n0_ n1_ n2_ n3_; clear hb hbox hg) | ((with_reducible refine gate_dst (N := 4) rfl ?_); refine box_event ?hg (N := 4) ?hd (cs := #[.string ⟨#[]⟩, .int .i64 0, .int .i64 0, .int .i64 0, .int .i64 0, .string ⟨#[]⟩, .int .i64 0, .int .i64 0, .int .i64 0, .int .i64 0, .string ⟨#[]⟩]) (t := 28) ?hr ?_; (case hd => rfl); (case hg => rfl); (case hr => first | (go_simp; done) | (go_simp; rfl)); intro gb102 hg w38 hbox hb; have n0_ := bb_ BK101 hb; have n1_ := Aside0.mk (below_step (bl_ HB.out) hb); have n2_ := Aside0.mk (hbox); have n3_ := Aside0.mk ((by rw [hg]; exact (below_size (bl_ HB.out)) : w.heap.size ≤ gb102)); have n4_ := Aside0.mk ((by rw [hg]; exact (below_size (bl_ HB.out)) : w.heap.size ≤ gb102)); have n5_ := Aside0.mk ((by rw [hg]; exact Nat.ne_of_lt (blk_lt (g := gb101) (o := .cells #[.string a0_0, .int .i64 a0_1, .int .i64 a0_2, .int .i64 a0_3, .int .i64 a0_4, .string a0_5, .int .i64 a0_6, .int .i64 a0_7, .int .i64 a0_8, .int .i64 a0_9, .string a0_10] 28 (0, 0)) (bk_ BK101.out)) : gb101 ≠ gb102)); have n6_ := Aside0.mk ((by rw [hg]; exact Nat.ne_of_gt (blk_lt (g := gb101) (o := .cells #[.string a0_0, .int .i64 a0_1, .int .i64 a0_2, .int .i64 a0_3, .int .i64 a0_4, .string a0_5, .int .i64 a0_6, .int .i64 a0_7, .int .i64 a0_8, .int .i64 a0_9, .string a0_10] 28 (0, 0)) (bk_ BK101.out)) : gb102 ≠ gb101)); clear BK101 HB; have BK101 := n0_; have HB := n1_; have BK102 := n2_; have GW102 := n3_; have GE102 := n4_; have NB101_102 := n5_; have NB102_101 := n6_; clear n0_ n1_ n2_ n3_ n4_ n5_ n6_; clear hb hbox hg))
  have n0_ := Aside0.mk (blk_drew BK101.out); have n1_ := Aside0.mk (blk_drew BK102.out); have n2_ := Aside0.mk (below_drew1 HB.out); clear BK101 BK102 HB; have BK101 := n0_; have BK102 := n1_; have HB := n2_; clear n0_ n1_ n2_; refine start_ (n := 17) (S := fun w' => True) (ds := []) (bA 17 0) (by kernel_rfl) rfl rfl trivial (fun hHeld => ?_); refine with_tabW donjonlaw18_good.tab1 donjonlaw18_good.bits1 (fun HT_ HW_ => ?_)
  generalize w38.drew = w39 at BK101 BK102 HB hHeld ⊢
  refine pure_ (i := 0) (N := some 5) (v := ?_) (a' := ?_) (bA 17 1) rfl rfl (any_of HT_.out (by kernel_rfl)) (fun _ _ _ h => h) (Or.inl ⟨by rfl, ?_⟩) ?_ ?_; rotate_left; (·intro w'; go_simp; with_reducible rfl); rotate_left; (·simp only [Act.put, xset_a, xset_z, xset_s, i64_w, i32_w]; rfl); refine pure_ (i := 6) (N := some 11) (v := ?_) (a' := ?_) (bA 17 65) rfl rfl (any_of HT_.out (by kernel_rfl)) (fun _ _ _ h => h) (Or.inl ⟨by rfl, ?_⟩) ?_ ?_; rotate_left; (·intro w'; go_simp; with_reducible rfl); rotate_left; (·simp only [Act.put, xset_a, xset_z, xset_s, i64_w, i32_w]; rfl); refine pure_ (i := 7) (N := some 12) (v := ?_) (a' := ?_) (bA 17 193) rfl rfl (any_of HT_.out (by kernel_rfl)) (fun _ _ _ h => h) (Or.inl ⟨by rfl, ?_⟩) ?_ ?_; rotate_left; (·intro w'; go_simp; with_reducible rfl); rotate_left; (·simp only [Act.put, xset_a, xset_z, xset_s, i64_w, i32_w]; rfl); refine one_ (i := 1) (N := some 6) (bA 17 195) rfl rfl (one_of HT_.out (by kernel_rfl)) (by decide) (fun K hK => ?_); refine goes_ Try.func10 (by kernel_rfl) rfl #[.int .i64 a1, .int .i64 4] (by rfl) rfl rfl (by (try simp only [List.map_toArray, List.map_cons, List.map_nil]); first | done | rfl | (simp only [List.length_drop, List.length_take]; rfl)) ?_
  with_reducible refine (donjonlaw18_within.calls a1 4 t103 _ A3.out).mono ?_
  rintro e w' ⟨rfl, ⟨nd, rfl⟩⟩; refine ⟨_, rfl, ?_⟩; refine hK.out _ _ trivial (fun hHeld => ?_); clear hK K; refine norm_ (a' := ?_) ?_ ?_; rotate_left
  ·show Act.put _ (some 6) _ = _
   simp only [Act.put, xset_a, xset_z, xset_s, i64_w, i32_w]
   rfl
  refine pure_ (i := 2) (N := some 7) (v := ?_) (a' := ?_) (bA 17 199) rfl rfl (any_of HT_.out (by kernel_rfl)) (fun _ _ _ h => h) (Or.inl ⟨by rfl, ?_⟩) ?_ ?_; rotate_left; (·intro w'; go_simp; with_reducible rfl); rotate_left; (·simp only [Act.put, xset_a, xset_z, xset_s, i64_w, i32_w]; rfl); refine pure_ (i := 3) (N := some 8) (v := ?_) (a' := ?_) (bA 17 207) rfl rfl (any_of HT_.out (by kernel_rfl)) (fun _ _ _ h => h) (Or.inl ⟨by rfl, ?_⟩) ?_ ?_; rotate_left; (·intro w'; go_simp; with_reducible rfl); rotate_left; (·simp only [Act.put, xset_a, xset_z, xset_s, i64_w, i32_w]; rfl); refine join_ (σ := Value × Value) 2 (bA 17 32767) (fun s_ => [(9, s_.1), (10, .string (strOfNums y104)), (13, .int .i64 t107), (16, s_.2), (17, .string (strOfNums y108)), (14, .int .i64 (wrap64 (97 + t107))), (15, .int .u8 ((wrap64 (97 + t107)) % 256)), (18, .pointer (some ⟨gb101, 0, none⟩))]) (fun s_ w' => (Kd.R (Kd.int .u8) 5 w' w.heap.size (fun k_ => some k_ ≠ (s_.2 : Value).ownBlock) s_.1 y104) ∧ (Kd.R (Kd.int .u8) 5 w' w.heap.size (fun k_ => some k_ ≠ (s_.1 : Value).ownBlock) s_.2 y108) ∧ (w'.heap[gb101]? = some (.cells #[.string (strOfNums y104), .int .i64 a0_1, .int .i64 a0_2, .int .i64 a0_3, .int .i64 a0_4, .string a0_5, .int .i64 a0_6, .int .i64 a0_7, .int .i64 a0_8, .int .i64 a0_9, .string a0_10] 28 (0, 0))) ∧ (w'.heap[gb102]? = some (.cells #[.string ⟨#[]⟩, .int .i64 0, .int .i64 0, .int .i64 0, .int .i64 0, .string ⟨#[]⟩, .int .i64 0, .int .i64 0, .int .i64 0, .int .i64 0, .string ⟨#[]⟩] 28 (0, 0))) ∧ (Below w.heap.size w w')) ?_ ?_; rotate_left
  ·intro hJ4_5_8_11_12_14
   refine join_ (σ := Value × Value) 3 (bA 17 16383) (fun s_ => [(9, s_.1), (10, .string (strOfNums y104)), (13, .int .i64 t107), (16, s_.2), (17, .string (strOfNums y108)), (14, .int .i64 (wrap64 (97 + t107))), (15, .int .u8 ((wrap64 (97 + t107)) % 256)), (18, .pointer (some ⟨gb101, 0, none⟩))]) (fun s_ w' => (Kd.R (Kd.int .u8) 5 w' w.heap.size (fun k_ => some k_ ≠ (s_.2 : Value).ownBlock) s_.1 y104) ∧ (Kd.R (Kd.int .u8) 5 w' w.heap.size (fun k_ => some k_ ≠ (s_.1 : Value).ownBlock) s_.2 y108) ∧ (w'.heap[gb101]? = some (.cells #[.string a0_0, .int .i64 a0_1, .int .i64 a0_2, .int .i64 a0_3, .int .i64 a0_4, .string a0_5, .int .i64 a0_6, .int .i64 a0_7, .int .i64 a0_8, .int .i64 a0_9, .string a0_10] 28 (0, 0))) ∧ (w'.heap[gb102]? = some (.cells #[.string ⟨#[]⟩, .int .i64 0, .int .i64 0, .int .i64 0, .int .i64 0, .string ⟨#[]⟩, .int .i64 0, .int .i64 0, .int .i64 0, .int .i64 0, .string ⟨#[]⟩] 28 (0, 0))) ∧ (Below w.heap.size w w')) ?_ ?_; rotate_left
   ·intro hJ4_5_8_11_12
    refine join_ (σ := Value × Value) 3 (bA 17 28671) (fun s_ => [(9, s_.1), (10, .string (strOfNums y104)), (13, .int .i64 t107), (16, s_.2), (14, .int .i64 (wrap64 (97 + t107))), (15, .int .u8 ((wrap64 (97 + t107)) % 256)), (18, .pointer (some ⟨gb101, 0, none⟩))]) (fun s_ w' => (Kd.R (Kd.int .u8) 5 w' w.heap.size (fun k_ => some k_ ≠ (s_.2 : Value).ownBlock) s_.1 y104) ∧ (Kd.R (Kd.int .u8) 5 w' w.heap.size (fun k_ => some k_ ≠ (s_.1 : Value).ownBlock) s_.2 y108) ∧ (w'.heap[gb101]? = some (.cells #[.string (strOfNums y104), .int .i64 a0_1, .int .i64 a0_2, .int .i64 a0_3, .int .i64 a0_4, .string a0_5, .int .i64 a0_6, .int .i64 a0_7, .int .i64 a0_8, .int .i64 a0_9, .string a0_10] 28 (0, 0))) ∧ (w'.heap[gb102]? = some (.cells #[.string ⟨#[]⟩, .int .i64 0, .int .i64 0, .int .i64 0, .int .i64 0, .string ⟨#[]⟩, .int .i64 0, .int .i64 0, .int .i64 0, .int .i64 0, .string ⟨#[]⟩] 28 (0, 0))) ∧ (Below w.heap.size w w')) ?_ ?_; rotate_left
    ·intro hJ4_5_8_11_14
     refine join_ (σ := Value × Value) 4 (bA 17 12287) (fun s_ => [(9, s_.1), (10, .string (strOfNums y104)), (13, .int .i64 t107), (16, s_.2), (14, .int .i64 (wrap64 (97 + t107))), (15, .int .u8 ((wrap64 (97 + t107)) % 256)), (18, .pointer (some ⟨gb101, 0, none⟩))]) (fun s_ w' => (Kd.R (Kd.int .u8) 5 w' w.heap.size (fun k_ => some k_ ≠ (s_.2 : Value).ownBlock) s_.1 y104) ∧ (Kd.R (Kd.int .u8) 5 w' w.heap.size (fun k_ => some k_ ≠ (s_.1 : Value).ownBlock) s_.2 y108) ∧ (w'.heap[gb101]? = some (.cells #[.string a0_0, .int .i64 a0_1, .int .i64 a0_2, .int .i64 a0_3, .int .i64 a0_4, .string a0_5, .int .i64 a0_6, .int .i64 a0_7, .int .i64 a0_8, .int .i64 a0_9, .string a0_10] 28 (0, 0))) ∧ (w'.heap[gb102]? = some (.cells #[.string ⟨#[]⟩, .int .i64 0, .int .i64 0, .int .i64 0, .int .i64 0, .string ⟨#[]⟩, .int .i64 0, .int .i64 0, .int .i64 0, .int .i64 0, .string ⟨#[]⟩] 28 (0, 0))) ∧ (Below w.heap.size w w')) ?_ ?_; rotate_left
     ·intro hJ4_5_8_11
      refine join_ (σ := Value) 4 (bA 17 26623) (fun s_ => [(9, s_), (10, .string (strOfNums y104)), (13, .int .i64 t107), (14, .int .i64 (wrap64 (97 + t107))), (15, .int .u8 ((wrap64 (97 + t107)) % 256)), (18, .pointer (some ⟨gb101, 0, none⟩))]) (fun s_ w' => (Kd.R (Kd.int .u8) 5 w' w.heap.size (fun _ => True) s_ y104) ∧ (w'.heap[gb101]? = some (.cells #[.string (strOfNums y104), .int .i64 a0_1, .int .i64 a0_2, .int .i64 a0_3, .int .i64 a0_4, .string a0_5, .int .i64 a0_6, .int .i64 a0_7, .int .i64 a0_8, .int .i64 a0_9, .string a0_10] 28 (0, 0))) ∧ (w'.heap[gb102]? = some (.cells #[.string ⟨#[]⟩, .int .i64 0, .int .i64 0, .int .i64 0, .int .i64 0, .string ⟨#[]⟩, .int .i64 0, .int .i64 0, .int .i64 0, .int .i64 0, .string ⟨#[]⟩] 28 (0, 0))) ∧ (Below w.heap.size w w')) ?_ ?_; rotate_left
      ·intro hJ4_5_8_14
       refine join_ (σ := Value × Value) 5 (bA 17 8159) (fun s_ => [(9, s_.1), (13, .int .i64 t107), (16, s_.2), (17, .string (strOfNums y108)), (14, .int .i64 (wrap64 (97 + t107))), (15, .int .u8 ((wrap64 (97 + t107)) % 256))]) (fun s_ w' => (Kd.R (Kd.int .u8) 5 w' w.heap.size (fun k_ => some k_ ≠ (s_.2 : Value).ownBlock) s_.1 y104) ∧ (Kd.R (Kd.int .u8) 5 w' w.heap.size (fun k_ => some k_ ≠ (s_.1 : Value).ownBlock) s_.2 y108) ∧ (w'.heap[gb101]? = some (.cells #[.string a0_0, .int .i64 a0_1, .int .i64 a0_2, .int .i64 a0_3, .int .i64 a0_4, .string a0_5, .int .i64 a0_6, .int .i64 a0_7, .int .i64 a0_8, .int .i64 a0_9, .string a0_10] 28 (0, 0))) ∧ (w'.heap[gb102]? = some (.cells #[.string ⟨#[]⟩, .int .i64 0, .int .i64 0, .int .i64 0, .int .i64 0, .string ⟨#[]⟩, .int .i64 0, .int .i64 0, .int .i64 0, .int .i64 0, .string ⟨#[]⟩] 28 (0, 0))) ∧ (Below w.heap.size w w')) ?_ ?_; rotate_left
       ·intro hJ4_8_11_12
        refine join_ (σ := Value) 5 (bA 17 10239) (fun s_ => [(9, s_), (10, .string (strOfNums y104)), (13, .int .i64 t107), (14, .int .i64 (wrap64 (97 + t107))), (15, .int .u8 ((wrap64 (97 + t107)) % 256)), (18, .pointer (some ⟨gb101, 0, none⟩))]) (fun s_ w' => (Kd.R (Kd.int .u8) 5 w' w.heap.size (fun _ => True) s_ y104) ∧ (w'.heap[gb101]? = some (.cells #[.string a0_0, .int .i64 a0_1, .int .i64 a0_2, .int .i64 a0_3, .int .i64 a0_4, .string a0_5, .int .i64 a0_6, .int .i64 a0_7, .int .i64 a0_8, .int .i64 a0_9, .string a0_10] 28 (0, 0))) ∧ (w'.heap[gb102]? = some (.cells #[.string ⟨#[]⟩, .int .i64 0, .int .i64 0, .int .i64 0, .int .i64 0, .string ⟨#[]⟩, .int .i64 0, .int .i64 0, .int .i64 0, .int .i64 0, .string ⟨#[]⟩] 28 (0, 0))) ∧ (Below w.heap.size w w')) ?_ ?_; rotate_left
        ·intro hJ4_5_8
         refine join_ (σ := Value × Value) 6 (bA 17 4063) (fun s_ => [(9, s_.1), (13, .int .i64 t107), (16, s_.2), (14, .int .i64 (wrap64 (97 + t107))), (15, .int .u8 ((wrap64 (97 + t107)) % 256))]) (fun s_ w' => (Kd.R (Kd.int .u8) 5 w' w.heap.size (fun k_ => some k_ ≠ (s_.2 : Value).ownBlock) s_.1 y104) ∧ (Kd.R (Kd.int .u8) 5 w' w.heap.size (fun k_ => some k_ ≠ (s_.1 : Value).ownBlock) s_.2 y108) ∧ (w'.heap[gb101]? = some (.cells #[.string a0_0, .int .i64 a0_1, .int .i64 a0_2, .int .i64 a0_3, .int .i64 a0_4, .string a0_5, .int .i64 a0_6, .int .i64 a0_7, .int .i64 a0_8, .int .i64 a0_9, .string a0_10] 28 (0, 0))) ∧ (w'.heap[gb102]? = some (.cells #[.string ⟨#[]⟩, .int .i64 0, .int .i64 0, .int .i64 0, .int .i64 0, .string ⟨#[]⟩, .int .i64 0, .int .i64 0, .int .i64 0, .int .i64 0, .string ⟨#[]⟩] 28 (0, 0))) ∧ (Below w.heap.size w w')) ?_ ?_; rotate_left
         ·intro hJ4_8_11
          refine join_ (σ := Value) 6 (bA 17 8143) (fun s_ => [(13, .int .i64 t107), (16, s_), (17, .string (strOfNums y108)), (14, .int .i64 (wrap64 (97 + t107))), (15, .int .u8 ((wrap64 (97 + t107)) % 256))]) (fun s_ w' => (Kd.R (Kd.int .u8) 5 w' w.heap.size (fun _ => True) s_ y108) ∧ (w'.heap[gb101]? = some (.cells #[.string a0_0, .int .i64 a0_1, .int .i64 a0_2, .int .i64 a0_3, .int .i64 a0_4, .string a0_5, .int .i64 a0_6, .int .i64 a0_7, .int .i64 a0_8, .int .i64 a0_9, .string a0_10] 28 (0, 0))) ∧ (w'.heap[gb102]? = some (.cells #[.string ⟨#[]⟩, .int .i64 0, .int .i64 0, .int .i64 0, .int .i64 0, .string ⟨#[]⟩, .int .i64 0, .int .i64 0, .int .i64 0, .int .i64 0, .string ⟨#[]⟩] 28 (0, 0))) ∧ (Below w.heap.size w w')) ?_ ?_; rotate_left
          ·intro hJ8_11_12
           refine join_ (σ := Value) 8 (bA 17 8447) (fun s_ => [(9, s_), (10, .string (strOfNums y104)), (18, .pointer (some ⟨gb101, 0, none⟩))]) (fun s_ w' => (Kd.R (Kd.int .u8) 5 w' w.heap.size (fun _ => True) s_ y104) ∧ (w'.heap[gb101]? = some (.cells #[.string a0_0, .int .i64 a0_1, .int .i64 a0_2, .int .i64 a0_3, .int .i64 a0_4, .string a0_5, .int .i64 a0_6, .int .i64 a0_7, .int .i64 a0_8, .int .i64 a0_9, .string a0_10] 28 (0, 0))) ∧ (w'.heap[gb102]? = some (.cells #[.string ⟨#[]⟩, .int .i64 0, .int .i64 0, .int .i64 0, .int .i64 0, .string ⟨#[]⟩, .int .i64 0, .int .i64 0, .int .i64 0, .int .i64 0, .string ⟨#[]⟩] 28 (0, 0))) ∧ (Below w.heap.size w w')) ?_ ?_; rotate_left
           ·intro hJ4_5
            refine join_ (σ := Value) 7 (bA 17 2015) (fun s_ => [(9, s_), (13, .int .i64 t107), (14, .int .i64 (wrap64 (97 + t107))), (15, .int .u8 ((wrap64 (97 + t107)) % 256))]) (fun s_ w' => (Kd.R (Kd.int .u8) 5 w' w.heap.size (fun _ => True) s_ y104) ∧ (w'.heap[gb101]? = some (.cells #[.string a0_0, .int .i64 a0_1, .int .i64 a0_2, .int .i64 a0_3, .int .i64 a0_4, .string a0_5, .int .i64 a0_6, .int .i64 a0_7, .int .i64 a0_8, .int .i64 a0_9, .string a0_10] 28 (0, 0))) ∧ (w'.heap[gb102]? = some (.cells #[.string ⟨#[]⟩, .int .i64 0, .int .i64 0, .int .i64 0, .int .i64 0, .string ⟨#[]⟩, .int .i64 0, .int .i64 0, .int .i64 0, .int .i64 0, .string ⟨#[]⟩] 28 (0, 0))) ∧ (Below w.heap.size w w')) ?_ ?_; rotate_left
            ·intro hJ4_8
             refine join_ (σ := Value) 7 (bA 17 4047) (fun s_ => [(13, .int .i64 t107), (16, s_), (14, .int .i64 (wrap64 (97 + t107))), (15, .int .u8 ((wrap64 (97 + t107)) % 256))]) (fun s_ w' => (Kd.R (Kd.int .u8) 5 w' w.heap.size (fun _ => True) s_ y108) ∧ (w'.heap[gb101]? = some (.cells #[.string a0_0, .int .i64 a0_1, .int .i64 a0_2, .int .i64 a0_3, .int .i64 a0_4, .string a0_5, .int .i64 a0_6, .int .i64 a0_7, .int .i64 a0_8, .int .i64 a0_9, .string a0_10] 28 (0, 0))) ∧ (w'.heap[gb102]? = some (.cells #[.string ⟨#[]⟩, .int .i64 0, .int .i64 0, .int .i64 0, .int .i64 0, .string ⟨#[]⟩, .int .i64 0, .int .i64 0, .int .i64 0, .int .i64 0, .string ⟨#[]⟩] 28 (0, 0))) ∧ (Below w.heap.size w w')) ?_ ?_; rotate_left
             ·intro hJ8_11
              refine join_ (σ := Value) 10 (bA 17 223) (fun s_ => [(9, s_)]) (fun s_ w' => (Kd.R (Kd.int .u8) 5 w' w.heap.size (fun _ => True) s_ y104) ∧ (w'.heap[gb101]? = some (.cells #[.string a0_0, .int .i64 a0_1, .int .i64 a0_2, .int .i64 a0_3, .int .i64 a0_4, .string a0_5, .int .i64 a0_6, .int .i64 a0_7, .int .i64 a0_8, .int .i64 a0_9, .string a0_10] 28 (0, 0))) ∧ (w'.heap[gb102]? = some (.cells #[.string ⟨#[]⟩, .int .i64 0, .int .i64 0, .int .i64 0, .int .i64 0, .string ⟨#[]⟩, .int .i64 0, .int .i64 0, .int .i64 0, .int .i64 0, .string ⟨#[]⟩] 28 (0, 0))) ∧ (Below w.heap.size w w')) ?_ ?_; rotate_left
              ·intro hJ4
               refine join_ (σ := Unit) 8 (bA 17 1999) (fun s_ => [(13, .int .i64 t107), (14, .int .i64 (wrap64 (97 + t107))), (15, .int .u8 ((wrap64 (97 + t107)) % 256))]) (fun s_ w' => (w'.heap[gb101]? = some (.cells #[.string a0_0, .int .i64 a0_1, .int .i64 a0_2, .int .i64 a0_3, .int .i64 a0_4, .string a0_5, .int .i64 a0_6, .int .i64 a0_7, .int .i64 a0_8, .int .i64 a0_9, .string a0_10] 28 (0, 0))) ∧ (w'.heap[gb102]? = some (.cells #[.string ⟨#[]⟩, .int .i64 0, .int .i64 0, .int .i64 0, .int .i64 0, .string ⟨#[]⟩, .int .i64 0, .int .i64 0, .int .i64 0, .int .i64 0, .string ⟨#[]⟩] 28 (0, 0))) ∧ (Below w.heap.size w w')) ?_ ?_; rotate_left
               ·intro hJ8
                refine two_ (i := 4) (j := 8) (Ni := some 9) (Nj := some 13) (bA 17 223) (bA 17 463) rfl rfl rfl rfl (two_of HT_.out (by kernel_rfl)) (by decide) (by decide) (fun K hK => ?_) (fun K hK => ?_)
                ·skip
                 refine Kd.R_lit_step (Kd.int .u8) _ 5 ?hg (N := 9) ?hd (xs := ([(wrap64 (97 + t103)) % 256] : List Int)) (inner := [.int .u8 ((wrap64 (97 + t103)) % 256)]) (ok := fun _ => True) (okp := fun _ => True) ?hr ?hp (fun _ hk => hk) trivial (Below.refl _ _) (Nat.le_refl _) (by simp) ?_; (case hd => rfl); (case hg => rfl); (case hr => first | (go_simp; done) | (go_simp; rfl)); (case hp => exact (Reps.one (show Kd.M (Kd.int .u8) _ _ _ ((wrap64 (97 + t103)) % 256) [.int .u8 ((wrap64 (97 + t103)) % 256)] from rfl) (Reps.none _ _))); intro v105 w40 ho41 hb hg_ hnew_; clear hg_ hnew_
                 (first | rw [← Ny104.out] at ho41 | (simp only [Int.reduceToNat] at ho41; rw [← Ny104.out] at ho41))
                 have n0_ := Aside0.mk (Kd.R_lower ho41 (below_size (bl_ HB.out))); have n1_ := bb_ BK101 hb; have n2_ := bb_ BK102 hb; have n3_ := Aside0.mk (below_step (bl_ HB.out) hb); clear BK101 BK102 HB; have HO106 := n0_; have BK101 := n1_; have BK102 := n2_; have HB := n3_; clear n0_ n1_ n2_ n3_; clear hb ho41; refine hK.out _ _ trivial (fun hHeld => ?_); clear hK K; refine norm_ (a' := ?_) ?_ ?_; rotate_left
                 ·show Act.put _ (some 9) _ = _
                  simp only [Act.put, xset_a, xset_z, xset_s, i64_w, i32_w]
                  rfl
                 exact norm_ (by simp only [putAll, Act.put, xset_a, xset_z, xset_s] <;> rfl) (hJ4 (v105) _ ⟨(kr_ HO106.out), (bk_ BK101.out), (bk_ BK102.out), (bl_ HB.out)⟩)
                ·skip
                 refine goes_ Try.func10 (by kernel_rfl) rfl #[.int .i64 (wrap64 (Int.tdiv a1 4)), .int .i64 4] (by rfl) rfl rfl (by (try simp only [List.map_toArray, List.map_cons, List.map_nil]); first | done | rfl | (simp only [List.length_drop, List.length_take]; rfl)) ?_
                 with_reducible refine (donjonlaw18_within.calls (wrap64 (Int.tdiv a1 4)) 4 t107 _ A4.out).mono ?_
                 rintro e w' ⟨rfl, ⟨nd, rfl⟩⟩; refine ⟨_, rfl, ?_⟩; refine hK.out _ _ trivial (fun hHeld => ?_); clear hK K; refine norm_ (a' := ?_) ?_ ?_; rotate_left
                 ·show Act.put _ (some 13) _ = _
                  simp only [Act.put, xset_a, xset_z, xset_s, i64_w, i32_w]
                  rfl
                 refine pure_ (i := 9) (N := some 14) (v := ?_) (a' := ?_) (bA 17 975) rfl rfl (any_of HT_.out (by kernel_rfl)) (fun _ _ _ h => h) (Or.inl ⟨by rfl, ?_⟩) ?_ ?_; rotate_left; (·intro w'; go_simp; with_reducible rfl); rotate_left; (·simp only [Act.put, xset_a, xset_z, xset_s, i64_w, i32_w]; rfl); refine pure_ (i := 10) (N := some 15) (v := ?_) (a' := ?_) (bA 17 1999) rfl rfl (any_of HT_.out (by kernel_rfl)) (fun _ _ _ h => h) (Or.inl ⟨by rfl, ?_⟩) ?_ ?_; rotate_left; (·intro w'; go_simp; with_reducible rfl); rotate_left; (·simp only [Act.put, xset_a, xset_z, xset_s, i64_w, i32_w]; rfl)
                 exact norm_ (by simp only [putAll, Act.put, xset_a, xset_z, xset_s] <;> rfl) (hJ8 () _ ⟨(bk_ BK101.out), (bk_ BK102.out), (bl_ HB.out)⟩)
               ·skip
                rintro _ w40 ⟨h0_, h1_, h2_⟩; have n0_ := Aside0.mk h0_; have n1_ := Aside0.mk h1_; have n2_ := Aside0.mk h2_; clear BK101 BK102 HB; clear h0_ h1_ h2_; have BK101 := n0_; have BK102 := n1_; have HB := n2_; clear n0_ n1_ n2_; have hHeld := trivial; refine norm_ (a' := ?_) ?_ ?_; rotate_left
                ·simp only [putAll, Act.put, xset_a, xset_z, xset_s]
                 rfl
                refine two_ (i := 4) (j := 11) (Ni := some 9) (Nj := some 16) (bA 17 2015) (bA 17 4047) rfl rfl rfl rfl (two_of HT_.out (by kernel_rfl)) (by decide) (by decide) (fun K hK => ?_) (fun K hK => ?_)
                ·skip
                 refine Kd.R_lit_step (Kd.int .u8) _ 5 ?hg (N := 9) ?hd (xs := ([(wrap64 (97 + t103)) % 256] : List Int)) (inner := [.int .u8 ((wrap64 (97 + t103)) % 256)]) (ok := fun _ => True) (okp := fun _ => True) ?hr ?hp (fun _ hk => hk) trivial (Below.refl _ _) (Nat.le_refl _) (by simp) ?_; (case hd => rfl); (case hg => rfl); (case hr => first | (go_simp; done) | (go_simp; rfl)); (case hp => exact (Reps.one (show Kd.M (Kd.int .u8) _ _ _ ((wrap64 (97 + t103)) % 256) [.int .u8 ((wrap64 (97 + t103)) % 256)] from rfl) (Reps.none _ _))); intro v105 w41 ho42 hb hg_ hnew_; clear hg_ hnew_
                 (first | rw [← Ny104.out] at ho42 | (simp only [Int.reduceToNat] at ho42; rw [← Ny104.out] at ho42))
                 have n0_ := Aside0.mk (Kd.R_lower ho42 (below_size (bl_ HB.out))); have n1_ := bb_ BK101 hb; have n2_ := bb_ BK102 hb; have n3_ := Aside0.mk (below_step (bl_ HB.out) hb); clear BK101 BK102 HB; have HO106 := n0_; have BK101 := n1_; have BK102 := n2_; have HB := n3_; clear n0_ n1_ n2_ n3_; clear hb ho42; refine hK.out _ _ trivial (fun hHeld => ?_); clear hK K; refine norm_ (a' := ?_) ?_ ?_; rotate_left
                 ·show Act.put _ (some 9) _ = _
                  simp only [Act.put, xset_a, xset_z, xset_s, i64_w, i32_w]
                  rfl
                 exact norm_ (by simp only [putAll, Act.put, xset_a, xset_z, xset_s] <;> rfl) (hJ4_8 (v105) _ ⟨(kr_ HO106.out), (bk_ BK101.out), (bk_ BK102.out), (bl_ HB.out)⟩)
                ·skip
                 refine Kd.R_lit_step (Kd.int .u8) _ 5 ?hg (N := 16) ?hd (xs := ([(wrap64 (97 + t107)) % 256] : List Int)) (inner := [.int .u8 ((wrap64 (97 + t107)) % 256)]) (ok := fun _ => True) (okp := fun _ => True) ?hr ?hp (fun _ hk => hk) trivial (Below.refl _ _) (Nat.le_refl _) (by simp) ?_; (case hd => rfl); (case hg => rfl); (case hr => first | (go_simp; done) | (go_simp; rfl)); (case hp => exact (Reps.one (show Kd.M (Kd.int .u8) _ _ _ ((wrap64 (97 + t107)) % 256) [.int .u8 ((wrap64 (97 + t107)) % 256)] from rfl) (Reps.none _ _))); intro v109 w41 ho42 hb hg_ hnew_; clear hg_ hnew_
                 (first | rw [← Ny108.out] at ho42 | (simp only [Int.reduceToNat] at ho42; rw [← Ny108.out] at ho42))
                 have n0_ := Aside0.mk (Kd.R_lower ho42 (below_size (bl_ HB.out))); have n1_ := bb_ BK101 hb; have n2_ := bb_ BK102 hb; have n3_ := Aside0.mk (below_step (bl_ HB.out) hb); clear BK101 BK102 HB; have HO110 := n0_; have BK101 := n1_; have BK102 := n2_; have HB := n3_; clear n0_ n1_ n2_ n3_; clear hb ho42; refine hK.out _ _ trivial (fun hHeld => ?_); clear hK K; refine norm_ (a' := ?_) ?_ ?_; rotate_left
                 ·show Act.put _ (some 16) _ = _
                  simp only [Act.put, xset_a, xset_z, xset_s, i64_w, i32_w]
                  rfl
                 exact norm_ (by simp only [putAll, Act.put, xset_a, xset_z, xset_s] <;> rfl) (hJ8_11 (v109) _ ⟨(kr_ HO110.out), (bk_ BK101.out), (bk_ BK102.out), (bl_ HB.out)⟩)
              ·skip
               rintro v105 w42 ⟨h0_, h1_, h2_, h3_⟩; have n0_ := Aside0.mk h0_; have n1_ := Aside0.mk h1_; have n2_ := Aside0.mk h2_; have n3_ := Aside0.mk h3_; clear BK101 BK102 HB; clear h0_ h1_ h2_ h3_; have HO106 := n0_; have BK101 := n1_; have BK102 := n2_; have HB := n3_; clear n0_ n1_ n2_ n3_; have hHeld := trivial; refine norm_ (a' := ?_) ?_ ?_; rotate_left
               ·simp only [putAll, Act.put, xset_a, xset_z, xset_s]
                rfl
               refine two_ (i := 5) (j := 8) (Ni := some 10) (Nj := some 13) (bA 17 255) (bA 17 479) rfl rfl rfl rfl (two_of HT_.out (by kernel_rfl)) (by decide) (by decide) (fun K hK => ?_) (fun K hK => ?_)
               ·skip
                have hcv43 := own_string (P := Try.prog) Try.underlying24 Try.underlying5 Try.underlying9 (Kd.own_of_R HO106.out); refine value_ (w1 := ?_) (v := ?_) (by rfl) rfl ?_ ?_; rotate_left 2
                ·go_simp
                 constructor
                 ·rfl
                 ·rfl
                clear hcv43; refine hK.out _ _ trivial (fun hHeld => ?_); clear hK K; refine norm_ (a' := ?_) ?_ ?_; rotate_left
                ·show Act.put _ (some 10) _ = _
                 simp only [Act.put, xset_a, xset_z, xset_s, i64_w, i32_w]
                 rfl
                refine pure_ (i := 13) (N := some 18) (v := ?_) (a' := ?_) (bA 17 8447) rfl rfl (any_of HT_.out (by kernel_rfl)) (fun _ _ _ h => h) (Or.inl ⟨by rfl, ?_⟩) ?_ ?_; rotate_left; (·intro w'; go_simp; with_reducible rfl); rotate_left; (·simp only [Act.put, xset_a, xset_z, xset_s, i64_w, i32_w]; rfl)
                exact norm_ (by simp only [putAll, Act.put, xset_a, xset_z, xset_s] <;> rfl) (hJ4_5 (v105) _ ⟨(kr_ HO106.out), (bk_ BK101.out), (bk_ BK102.out), (bl_ HB.out)⟩)
               ·skip
                refine goes_ Try.func10 (by kernel_rfl) rfl #[.int .i64 (wrap64 (Int.tdiv a1 4)), .int .i64 4] (by rfl) rfl rfl (by (try simp only [List.map_toArray, List.map_cons, List.map_nil]); first | done | rfl | (simp only [List.length_drop, List.length_take]; rfl)) ?_
                with_reducible refine (donjonlaw18_within.calls (wrap64 (Int.tdiv a1 4)) 4 t107 _ A4.out).mono ?_
                rintro e w' ⟨rfl, ⟨nd, rfl⟩⟩; refine ⟨_, rfl, ?_⟩; refine hK.out _ _ trivial (fun hHeld => ?_); clear hK K; refine norm_ (a' := ?_) ?_ ?_; rotate_left
                ·show Act.put _ (some 13) _ = _
                 simp only [Act.put, xset_a, xset_z, xset_s, i64_w, i32_w]
                 rfl
                refine pure_ (i := 9) (N := some 14) (v := ?_) (a' := ?_) (bA 17 991) rfl rfl (any_of HT_.out (by kernel_rfl)) (fun _ _ _ h => h) (Or.inl ⟨by rfl, ?_⟩) ?_ ?_; rotate_left; (·intro w'; go_simp; with_reducible rfl); rotate_left; (·simp only [Act.put, xset_a, xset_z, xset_s, i64_w, i32_w]; rfl); refine pure_ (i := 10) (N := some 15) (v := ?_) (a' := ?_) (bA 17 2015) rfl rfl (any_of HT_.out (by kernel_rfl)) (fun _ _ _ h => h) (Or.inl ⟨by rfl, ?_⟩) ?_ ?_; rotate_left; (·intro w'; go_simp; with_reducible rfl); rotate_left; (·simp only [Act.put, xset_a, xset_z, xset_s, i64_w, i32_w]; rfl)
                exact norm_ (by simp only [putAll, Act.put, xset_a, xset_z, xset_s] <;> rfl) (hJ4_8 (v105) _ ⟨(kr_ HO106.out), (bk_ BK101.out), (bk_ BK102.out), (bl_ HB.out)⟩)
             ·skip
              rintro v109 w42 ⟨h0_, h1_, h2_, h3_⟩; have n0_ := Aside0.mk h0_; have n1_ := Aside0.mk h1_; have n2_ := Aside0.mk h2_; have n3_ := Aside0.mk h3_; clear BK101 BK102 HB; clear h0_ h1_ h2_ h3_; have HO110 := n0_; have BK101 := n1_; have BK102 := n2_; have HB := n3_; clear n0_ n1_ n2_ n3_; have hHeld := trivial; refine norm_ (a' := ?_) ?_ ?_; rotate_left
              ·simp only [putAll, Act.put, xset_a, xset_z, xset_s]
               rfl
              refine two_ (i := 4) (j := 12) (Ni := some 9) (Nj := some 17) (bA 17 4063) (bA 17 8143) rfl rfl rfl rfl (two_of HT_.out (by kernel_rfl)) (by decide) (by decide) (fun K hK => ?_) (fun K hK => ?_)
              ·skip
               refine Kd.R_lit_step (Kd.int .u8) _ 5 ?hg (N := 9) ?hd (xs := ([(wrap64 (97 + t103)) % 256] : List Int)) (inner := [.int .u8 ((wrap64 (97 + t103)) % 256)]) (ok := fun _ => True) (okp := fun _ => True) ?hr ?hp (fun _ hk => hk) trivial (Below.refl _ _) (Nat.le_refl _) (by simp) ?_; (case hd => rfl); (case hg => rfl); (case hr => first | (go_simp; done) | (go_simp; rfl)); (case hp => exact (Reps.one (show Kd.M (Kd.int .u8) _ _ _ ((wrap64 (97 + t103)) % 256) [.int .u8 ((wrap64 (97 + t103)) % 256)] from rfl) (Reps.none _ _))); intro v105 w43 ho44 hb hg_ hnew_; clear hg_ hnew_
               (first | rw [← Ny104.out] at ho44 | (simp only [Int.reduceToNat] at ho44; rw [← Ny104.out] at ho44))
               have n0_ := Aside0.mk (Kd.R_elder' (kr_ HO110.out) (Kd.R_base ho44) hb); have n1_ := Aside0.mk (Kd.R_lower (Kd.R_new' ho44 (Kd.R_lt (kr_ HO110.out))) (below_size (bl_ HB.out))); have n2_ := bb_ BK101 hb; have n3_ := bb_ BK102 hb; have n4_ := Aside0.mk (below_step (bl_ HB.out) hb); clear HO110 BK101 BK102 HB; have HO110 := n0_; have HO106 := n1_; have BK101 := n2_; have BK102 := n3_; have HB := n4_; clear n0_ n1_ n2_ n3_ n4_; clear hb ho44; refine hK.out _ _ trivial (fun hHeld => ?_); clear hK K; refine norm_ (a' := ?_) ?_ ?_; rotate_left
               ·show Act.put _ (some 9) _ = _
                simp only [Act.put, xset_a, xset_z, xset_s, i64_w, i32_w]
                rfl
               exact norm_ (by simp only [putAll, Act.put, xset_a, xset_z, xset_s] <;> rfl) (hJ4_8_11 (v105, v109) _ ⟨(by (with_reducible repeat (first | apply Kd.R_alloc | apply Kd.R_drewN | apply Kd.R_drew)); exact Kd.R_mono HO106.out (fun _ hk => hk.2)), (by (with_reducible repeat (first | apply Kd.R_alloc | apply Kd.R_drewN | apply Kd.R_drew)); exact Kd.R_mono HO110.out (fun _ hk => hk.2)), (bk_ BK101.out), (bk_ BK102.out), (bl_ HB.out)⟩)
              ·skip
               have hcv43 := own_string (P := Try.prog) Try.underlying24 Try.underlying5 Try.underlying9 (Kd.own_of_R HO110.out); refine value_ (w1 := ?_) (v := ?_) (by rfl) rfl ?_ ?_; rotate_left 2
               ·go_simp
                constructor
                ·rfl
                ·rfl
               clear hcv43; refine hK.out _ _ trivial (fun hHeld => ?_); clear hK K; refine norm_ (a' := ?_) ?_ ?_; rotate_left
               ·show Act.put _ (some 17) _ = _
                simp only [Act.put, xset_a, xset_z, xset_s, i64_w, i32_w]
                rfl
               exact norm_ (by simp only [putAll, Act.put, xset_a, xset_z, xset_s] <;> rfl) (hJ8_11_12 (v109) _ ⟨(kr_ HO110.out), (bk_ BK101.out), (bk_ BK102.out), (bl_ HB.out)⟩)
            ·skip
             rintro v105 w42 ⟨h0_, h1_, h2_, h3_⟩; have n0_ := Aside0.mk h0_; have n1_ := Aside0.mk h1_; have n2_ := Aside0.mk h2_; have n3_ := Aside0.mk h3_; clear BK101 BK102 HB; clear h0_ h1_ h2_ h3_; have HO106 := n0_; have BK101 := n1_; have BK102 := n2_; have HB := n3_; clear n0_ n1_ n2_ n3_; have hHeld := trivial; refine norm_ (a' := ?_) ?_ ?_; rotate_left
             ·simp only [putAll, Act.put, xset_a, xset_z, xset_s]
              rfl
             refine two_ (i := 5) (j := 11) (Ni := some 10) (Nj := some 16) (bA 17 2047) (bA 17 4063) rfl rfl rfl rfl (two_of HT_.out (by kernel_rfl)) (by decide) (by decide) (fun K hK => ?_) (fun K hK => ?_)
             ·skip
              have hcv43 := own_string (P := Try.prog) Try.underlying24 Try.underlying5 Try.underlying9 (Kd.own_of_R HO106.out); refine value_ (w1 := ?_) (v := ?_) (by rfl) rfl ?_ ?_; rotate_left 2
              ·go_simp
               constructor
               ·rfl
               ·rfl
              clear hcv43; refine hK.out _ _ trivial (fun hHeld => ?_); clear hK K; refine norm_ (a' := ?_) ?_ ?_; rotate_left
              ·show Act.put _ (some 10) _ = _
               simp only [Act.put, xset_a, xset_z, xset_s, i64_w, i32_w]
               rfl
              refine pure_ (i := 13) (N := some 18) (v := ?_) (a' := ?_) (bA 17 10239) rfl rfl (any_of HT_.out (by kernel_rfl)) (fun _ _ _ h => h) (Or.inl ⟨by rfl, ?_⟩) ?_ ?_; rotate_left; (·intro w'; go_simp; with_reducible rfl); rotate_left; (·simp only [Act.put, xset_a, xset_z, xset_s, i64_w, i32_w]; rfl)
              exact norm_ (by simp only [putAll, Act.put, xset_a, xset_z, xset_s] <;> rfl) (hJ4_5_8 (v105) _ ⟨(kr_ HO106.out), (bk_ BK101.out), (bk_ BK102.out), (bl_ HB.out)⟩)
             ·skip
              refine Kd.R_lit_step (Kd.int .u8) _ 5 ?hg (N := 16) ?hd (xs := ([(wrap64 (97 + t107)) % 256] : List Int)) (inner := [.int .u8 ((wrap64 (97 + t107)) % 256)]) (ok := fun _ => True) (okp := fun _ => True) ?hr ?hp (fun _ hk => hk) trivial (Below.refl _ _) (Nat.le_refl _) (by simp) ?_; (case hd => rfl); (case hg => rfl); (case hr => first | (go_simp; done) | (go_simp; rfl)); (case hp => exact (Reps.one (show Kd.M (Kd.int .u8) _ _ _ ((wrap64 (97 + t107)) % 256) [.int .u8 ((wrap64 (97 + t107)) % 256)] from rfl) (Reps.none _ _))); intro v109 w43 ho44 hb hg_ hnew_; clear hg_ hnew_
              (first | rw [← Ny108.out] at ho44 | (simp only [Int.reduceToNat] at ho44; rw [← Ny108.out] at ho44))
              have n0_ := Aside0.mk (Kd.R_elder' (kr_ HO106.out) (Kd.R_base ho44) hb); have n1_ := Aside0.mk (Kd.R_lower (Kd.R_new' ho44 (Kd.R_lt (kr_ HO106.out))) (below_size (bl_ HB.out))); have n2_ := bb_ BK101 hb; have n3_ := bb_ BK102 hb; have n4_ := Aside0.mk (below_step (bl_ HB.out) hb); clear HO106 BK101 BK102 HB; have HO106 := n0_; have HO110 := n1_; have BK101 := n2_; have BK102 := n3_; have HB := n4_; clear n0_ n1_ n2_ n3_ n4_; clear hb ho44; refine hK.out _ _ trivial (fun hHeld => ?_); clear hK K; refine norm_ (a' := ?_) ?_ ?_; rotate_left
              ·show Act.put _ (some 16) _ = _
               simp only [Act.put, xset_a, xset_z, xset_s, i64_w, i32_w]
               rfl
              exact norm_ (by simp only [putAll, Act.put, xset_a, xset_z, xset_s] <;> rfl) (hJ4_8_11 (v105, v109) _ ⟨(by (with_reducible repeat (first | apply Kd.R_alloc | apply Kd.R_drewN | apply Kd.R_drew)); exact Kd.R_mono HO106.out (fun _ hk => hk.2)), (by (with_reducible repeat (first | apply Kd.R_alloc | apply Kd.R_drewN | apply Kd.R_drew)); exact Kd.R_mono HO110.out (fun _ hk => hk.2)), (bk_ BK101.out), (bk_ BK102.out), (bl_ HB.out)⟩)
           ·skip
            rintro v105 w43 ⟨h0_, h1_, h2_, h3_⟩; have n0_ := Aside0.mk h0_; have n1_ := Aside0.mk h1_; have n2_ := Aside0.mk h2_; have n3_ := Aside0.mk h3_; clear BK101 BK102 HB; clear h0_ h1_ h2_ h3_; have HO106 := n0_; have BK101 := n1_; have BK102 := n2_; have HB := n3_; clear n0_ n1_ n2_ n3_; have hHeld := trivial; refine norm_ (a' := ?_) ?_ ?_; rotate_left
            ·simp only [putAll, Act.put, xset_a, xset_z, xset_s]
             rfl
            refine one_ (i := 8) (N := some 13) (bA 17 8703) rfl rfl (one_of HT_.out (by kernel_rfl)) (by decide) (fun K hK => ?_); refine goes_ Try.func10 (by kernel_rfl) rfl #[.int .i64 (wrap64 (Int.tdiv a1 4)), .int .i64 4] (by rfl) rfl rfl (by (try simp only [List.map_toArray, List.map_cons, List.map_nil]); first | done | rfl | (simp only [List.length_drop, List.length_take]; rfl)) ?_
            with_reducible refine (donjonlaw18_within.calls (wrap64 (Int.tdiv a1 4)) 4 t107 _ A4.out).mono ?_
            rintro e w' ⟨rfl, ⟨nd, rfl⟩⟩; refine ⟨_, rfl, ?_⟩; refine hK.out _ _ trivial (fun hHeld => ?_); clear hK K; refine norm_ (a' := ?_) ?_ ?_; rotate_left
            ·show Act.put _ (some 13) _ = _
             simp only [Act.put, xset_a, xset_z, xset_s, i64_w, i32_w]
             rfl
            refine pure_ (i := 9) (N := some 14) (v := ?_) (a' := ?_) (bA 17 9215) rfl rfl (any_of HT_.out (by kernel_rfl)) (fun _ _ _ h => h) (Or.inl ⟨by rfl, ?_⟩) ?_ ?_; rotate_left; (·intro w'; go_simp; with_reducible rfl); rotate_left; (·simp only [Act.put, xset_a, xset_z, xset_s, i64_w, i32_w]; rfl); refine pure_ (i := 10) (N := some 15) (v := ?_) (a' := ?_) (bA 17 10239) rfl rfl (any_of HT_.out (by kernel_rfl)) (fun _ _ _ h => h) (Or.inl ⟨by rfl, ?_⟩) ?_ ?_; rotate_left; (·intro w'; go_simp; with_reducible rfl); rotate_left; (·simp only [Act.put, xset_a, xset_z, xset_s, i64_w, i32_w]; rfl)
            exact norm_ (by simp only [putAll, Act.put, xset_a, xset_z, xset_s] <;> rfl) (hJ4_5_8 (v105) _ ⟨(kr_ HO106.out), (bk_ BK101.out), (bk_ BK102.out), (bl_ HB.out)⟩)
          ·skip
           rintro v109 w43 ⟨h0_, h1_, h2_, h3_⟩; have n0_ := Aside0.mk h0_; have n1_ := Aside0.mk h1_; have n2_ := Aside0.mk h2_; have n3_ := Aside0.mk h3_; clear BK101 BK102 HB; clear h0_ h1_ h2_ h3_; have HO110 := n0_; have BK101 := n1_; have BK102 := n2_; have HB := n3_; clear n0_ n1_ n2_ n3_; have hHeld := trivial; refine norm_ (a' := ?_) ?_ ?_; rotate_left
           ·simp only [putAll, Act.put, xset_a, xset_z, xset_s]
            rfl
           refine one_ (i := 4) (N := some 9) (bA 17 8159) rfl rfl (one_of HT_.out (by kernel_rfl)) (by decide) (fun K hK => ?_); refine Kd.R_lit_step (Kd.int .u8) _ 5 ?hg (N := 9) ?hd (xs := ([(wrap64 (97 + t103)) % 256] : List Int)) (inner := [.int .u8 ((wrap64 (97 + t103)) % 256)]) (ok := fun _ => True) (okp := fun _ => True) ?hr ?hp (fun _ hk => hk) trivial (Below.refl _ _) (Nat.le_refl _) (by simp) ?_; (case hd => rfl); (case hg => rfl); (case hr => first | (go_simp; done) | (go_simp; rfl)); (case hp => exact (Reps.one (show Kd.M (Kd.int .u8) _ _ _ ((wrap64 (97 + t103)) % 256) [.int .u8 ((wrap64 (97 + t103)) % 256)] from rfl) (Reps.none _ _))); intro v105 w44 ho45 hb hg_ hnew_; clear hg_ hnew_
           (first | rw [← Ny104.out] at ho45 | (simp only [Int.reduceToNat] at ho45; rw [← Ny104.out] at ho45))
           have n0_ := Aside0.mk (Kd.R_elder' (kr_ HO110.out) (Kd.R_base ho45) hb); have n1_ := Aside0.mk (Kd.R_lower (Kd.R_new' ho45 (Kd.R_lt (kr_ HO110.out))) (below_size (bl_ HB.out))); have n2_ := bb_ BK101 hb; have n3_ := bb_ BK102 hb; have n4_ := Aside0.mk (below_step (bl_ HB.out) hb); clear HO110 BK101 BK102 HB; have HO110 := n0_; have HO106 := n1_; have BK101 := n2_; have BK102 := n3_; have HB := n4_; clear n0_ n1_ n2_ n3_ n4_; clear hb ho45; refine hK.out _ _ trivial (fun hHeld => ?_); clear hK K; refine norm_ (a' := ?_) ?_ ?_; rotate_left
           ·show Act.put _ (some 9) _ = _
            simp only [Act.put, xset_a, xset_z, xset_s, i64_w, i32_w]
            rfl
           exact norm_ (by simp only [putAll, Act.put, xset_a, xset_z, xset_s] <;> rfl) (hJ4_8_11_12 (v105, v109) _ ⟨(by (with_reducible repeat (first | apply Kd.R_alloc | apply Kd.R_drewN | apply Kd.R_drew)); exact Kd.R_mono HO106.out (fun _ hk => hk.2)), (by (with_reducible repeat (first | apply Kd.R_alloc | apply Kd.R_drewN | apply Kd.R_drew)); exact Kd.R_mono HO110.out (fun _ hk => hk.2)), (bk_ BK101.out), (bk_ BK102.out), (bl_ HB.out)⟩)
         ·skip
          rintro ⟨v105, v109⟩ w44 ⟨h0_, h1_, h2_, h3_, h4_⟩; have n0_ := Aside0.mk h0_; have n1_ := Aside0.mk h1_; have n2_ := Aside0.mk h2_; have n3_ := Aside0.mk h3_; have n4_ := Aside0.mk h4_; clear BK101 BK102 HB; clear h0_ h1_ h2_ h3_ h4_; have HO106 := n0_; have HO110 := n1_; have BK101 := n2_; have BK102 := n3_; have HB := n4_; clear n0_ n1_ n2_ n3_ n4_; have hHeld := trivial; refine norm_ (a' := ?_) ?_ ?_; rotate_left
          ·simp only [putAll, Act.put, xset_a, xset_z, xset_s]
           rfl
          refine two_ (i := 5) (j := 12) (Ni := some 10) (Nj := some 17) (bA 17 4095) (bA 17 8159) rfl rfl rfl rfl (two_of HT_.out (by kernel_rfl)) (by decide) (by decide) (fun K hK => ?_) (fun K hK => ?_)
          ·skip
           have hcv45 := own_string (P := Try.prog) Try.underlying24 Try.underlying5 Try.underlying9 (Kd.own_of_R HO106.out); refine value_ (w1 := ?_) (v := ?_) (by rfl) rfl ?_ ?_; rotate_left 2
           ·go_simp
            constructor
            ·rfl
            ·rfl
           clear hcv45; refine hK.out _ _ trivial (fun hHeld => ?_); clear hK K; refine norm_ (a' := ?_) ?_ ?_; rotate_left
           ·show Act.put _ (some 10) _ = _
            simp only [Act.put, xset_a, xset_z, xset_s, i64_w, i32_w]
            rfl
           refine pure_ (i := 13) (N := some 18) (v := ?_) (a' := ?_) (bA 17 12287) rfl rfl (any_of HT_.out (by kernel_rfl)) (fun _ _ _ h => h) (Or.inl ⟨by rfl, ?_⟩) ?_ ?_; rotate_left; (·intro w'; go_simp; with_reducible rfl); rotate_left; (·simp only [Act.put, xset_a, xset_z, xset_s, i64_w, i32_w]; rfl)
           exact norm_ (by simp only [putAll, Act.put, xset_a, xset_z, xset_s] <;> rfl) (hJ4_5_8_11 (v105, v109) _ ⟨(kr_ HO106.out), (kr_ HO110.out), (bk_ BK101.out), (bk_ BK102.out), (bl_ HB.out)⟩)
          ·skip
           have hcv45 := own_string (P := Try.prog) Try.underlying24 Try.underlying5 Try.underlying9 (Kd.own_of_R HO110.out); refine value_ (w1 := ?_) (v := ?_) (by rfl) rfl ?_ ?_; rotate_left 2
           ·go_simp
            constructor
            ·rfl
            ·rfl
           clear hcv45; refine hK.out _ _ trivial (fun hHeld => ?_); clear hK K; refine norm_ (a' := ?_) ?_ ?_; rotate_left
           ·show Act.put _ (some 17) _ = _
            simp only [Act.put, xset_a, xset_z, xset_s, i64_w, i32_w]
            rfl
           exact norm_ (by simp only [putAll, Act.put, xset_a, xset_z, xset_s] <;> rfl) (hJ4_8_11_12 (v105, v109) _ ⟨(kr_ HO106.out), (kr_ HO110.out), (bk_ BK101.out), (bk_ BK102.out), (bl_ HB.out)⟩)
        ·skip
         rintro v105 w43 ⟨h0_, h1_, h2_, h3_⟩; have n0_ := Aside0.mk h0_; have n1_ := Aside0.mk h1_; have n2_ := Aside0.mk h2_; have n3_ := Aside0.mk h3_; clear BK101 BK102 HB; clear h0_ h1_ h2_ h3_; have HO106 := n0_; have BK101 := n1_; have BK102 := n2_; have HB := n3_; clear n0_ n1_ n2_ n3_; have hHeld := trivial; refine norm_ (a' := ?_) ?_ ?_; rotate_left
         ·simp only [putAll, Act.put, xset_a, xset_z, xset_s]
          rfl
         refine two_ (i := 11) (j := 14) (Ni := some 16) (Nj := none) (bA 17 12287) (bA 17 26623) rfl rfl rfl rfl (two_of HT_.out (by kernel_rfl)) (by decide) (by decide) (fun K hK => ?_) (fun K hK => ?_)
         ·skip
          refine Kd.R_lit_step (Kd.int .u8) _ 5 ?hg (N := 16) ?hd (xs := ([(wrap64 (97 + t107)) % 256] : List Int)) (inner := [.int .u8 ((wrap64 (97 + t107)) % 256)]) (ok := fun _ => True) (okp := fun _ => True) ?hr ?hp (fun _ hk => hk) trivial (Below.refl _ _) (Nat.le_refl _) (by simp) ?_; (case hd => rfl); (case hg => rfl); (case hr => first | (go_simp; done) | (go_simp; rfl)); (case hp => exact (Reps.one (show Kd.M (Kd.int .u8) _ _ _ ((wrap64 (97 + t107)) % 256) [.int .u8 ((wrap64 (97 + t107)) % 256)] from rfl) (Reps.none _ _))); intro v109 w44 ho45 hb hg_ hnew_; clear hg_ hnew_
          (first | rw [← Ny108.out] at ho45 | (simp only [Int.reduceToNat] at ho45; rw [← Ny108.out] at ho45))
          have n0_ := Aside0.mk (Kd.R_elder' (kr_ HO106.out) (Kd.R_base ho45) hb); have n1_ := Aside0.mk (Kd.R_lower (Kd.R_new' ho45 (Kd.R_lt (kr_ HO106.out))) (below_size (bl_ HB.out))); have n2_ := bb_ BK101 hb; have n3_ := bb_ BK102 hb; have n4_ := Aside0.mk (below_step (bl_ HB.out) hb); clear HO106 BK101 BK102 HB; have HO106 := n0_; have HO110 := n1_; have BK101 := n2_; have BK102 := n3_; have HB := n4_; clear n0_ n1_ n2_ n3_ n4_; clear hb ho45; refine hK.out _ _ trivial (fun hHeld => ?_); clear hK K; refine norm_ (a' := ?_) ?_ ?_; rotate_left
          ·show Act.put _ (some 16) _ = _
           simp only [Act.put, xset_a, xset_z, xset_s, i64_w, i32_w]
           rfl
          exact norm_ (by simp only [putAll, Act.put, xset_a, xset_z, xset_s] <;> rfl) (hJ4_5_8_11 (v105, v109) _ ⟨(by (with_reducible repeat (first | apply Kd.R_alloc | apply Kd.R_drewN | apply Kd.R_drew)); exact Kd.R_mono HO106.out (fun _ hk => hk.2)), (by (with_reducible repeat (first | apply Kd.R_alloc | apply Kd.R_drewN | apply Kd.R_drew)); exact Kd.R_mono HO110.out (fun _ hk => hk.2)), (bk_ BK101.out), (bk_ BK102.out), (bl_ HB.out)⟩)
         ·skip
          have hs44 : w43.cell? ⟨gb101, 0, none⟩ = some (.string a0_0) := (blk_cell BK101.out 0).trans rfl; have hfs44 := blk_frozen BK101.out 0; have hns44_1 := NB102_101.out; have hms44_1 := NB101_102.out
          with_reducible refine skip_ (w1 := ?_) ?_ rfl ?_ ?_
          rotate_left
          ·rfl
          ·go_simp
           rfl
          refine hK.out _ _ trivial (fun hHeld => ?_); clear hK K
          exact norm_ (by simp only [putAll, Act.put, xset_a, xset_z, xset_s] <;> rfl) (hJ4_5_8_14 (v105) _ ⟨(by (with_reducible repeat (first | apply Kd.R_alloc | apply Kd.R_drewN | apply Kd.R_drew)); exact Kd.R_mono (Kd.R_far (p := ⟨gb101, 0, none⟩) (Kd.R_types HO106.out BK101.out (by decide)) (fun _ hk => hk.2) (.string (strOfNums y104))) (fun _ hk => trivial)), (by (with_reducible repeat (first | refine blk_drewN ?_ _ | refine blk_drew ?_ | refine blk_alloc ?_ _)); refine blk_put (cs := #[.string a0_0, .int .i64 a0_1, .int .i64 a0_2, .int .i64 a0_3, .int .i64 a0_4, .string a0_5, .int .i64 a0_6, .int .i64 a0_7, .int .i64 a0_8, .int .i64 a0_9, .string a0_10]) ?_ 0 _ rfl; (with_reducible repeat (first | refine blk_drewN ?_ _ | refine blk_drew ?_ | refine blk_alloc ?_ _)); exact BK101.out), (by (with_reducible repeat (first | refine blk_drewN ?_ _ | refine blk_drew ?_ | refine blk_alloc ?_ _)); refine blk_far ?_ NB102_101.out _; (with_reducible repeat (first | refine blk_drewN ?_ _ | refine blk_drew ?_ | refine blk_alloc ?_ _)); exact BK102.out), (bl_ HB.out)⟩)
       ·skip
        rintro ⟨v105, v109⟩ w45 ⟨h0_, h1_, h2_, h3_, h4_⟩; have n0_ := Aside0.mk h0_; have n1_ := Aside0.mk h1_; have n2_ := Aside0.mk h2_; have n3_ := Aside0.mk h3_; have n4_ := Aside0.mk h4_; clear BK101 BK102 HB; clear h0_ h1_ h2_ h3_ h4_; have HO106 := n0_; have HO110 := n1_; have BK101 := n2_; have BK102 := n3_; have HB := n4_; clear n0_ n1_ n2_ n3_ n4_; have hHeld := trivial; refine norm_ (a' := ?_) ?_ ?_; rotate_left
        ·simp only [putAll, Act.put, xset_a, xset_z, xset_s]
         rfl
        refine one_ (i := 5) (N := some 10) (bA 17 8191) rfl rfl (one_of HT_.out (by kernel_rfl)) (by decide) (fun K hK => ?_); have hcv46 := own_string (P := Try.prog) Try.underlying24 Try.underlying5 Try.underlying9 (Kd.own_of_R HO106.out); refine value_ (w1 := ?_) (v := ?_) (by rfl) rfl ?_ ?_; rotate_left 2
        ·go_simp
         constructor
         ·rfl
         ·rfl
        clear hcv46; refine hK.out _ _ trivial (fun hHeld => ?_); clear hK K; refine norm_ (a' := ?_) ?_ ?_; rotate_left
        ·show Act.put _ (some 10) _ = _
         simp only [Act.put, xset_a, xset_z, xset_s, i64_w, i32_w]
         rfl
        refine pure_ (i := 13) (N := some 18) (v := ?_) (a' := ?_) (bA 17 16383) rfl rfl (any_of HT_.out (by kernel_rfl)) (fun _ _ _ h => h) (Or.inl ⟨by rfl, ?_⟩) ?_ ?_; rotate_left; (·intro w'; go_simp; with_reducible rfl); rotate_left; (·simp only [Act.put, xset_a, xset_z, xset_s, i64_w, i32_w]; rfl)
        exact norm_ (by simp only [putAll, Act.put, xset_a, xset_z, xset_s] <;> rfl) (hJ4_5_8_11_12 (v105, v109) _ ⟨(kr_ HO106.out), (kr_ HO110.out), (bk_ BK101.out), (bk_ BK102.out), (bl_ HB.out)⟩)
      ·skip
       rintro v105 w44 ⟨h0_, h1_, h2_, h3_⟩; have n0_ := Aside0.mk h0_; have n1_ := Aside0.mk h1_; have n2_ := Aside0.mk h2_; have n3_ := Aside0.mk h3_; clear BK101 BK102 HB; clear h0_ h1_ h2_ h3_; have HO106 := n0_; have BK101 := n1_; have BK102 := n2_; have HB := n3_; clear n0_ n1_ n2_ n3_; have hHeld := trivial; refine norm_ (a' := ?_) ?_ ?_; rotate_left
       ·simp only [putAll, Act.put, xset_a, xset_z, xset_s]
        rfl
       refine one_ (i := 11) (N := some 16) (bA 17 28671) rfl rfl (one_of HT_.out (by kernel_rfl)) (by decide) (fun K hK => ?_); refine Kd.R_lit_step (Kd.int .u8) _ 5 ?hg (N := 16) ?hd (xs := ([(wrap64 (97 + t107)) % 256] : List Int)) (inner := [.int .u8 ((wrap64 (97 + t107)) % 256)]) (ok := fun _ => True) (okp := fun _ => True) ?hr ?hp (fun _ hk => hk) trivial (Below.refl _ _) (Nat.le_refl _) (by simp) ?_; (case hd => rfl); (case hg => rfl); (case hr => first | (go_simp; done) | (go_simp; rfl)); (case hp => exact (Reps.one (show Kd.M (Kd.int .u8) _ _ _ ((wrap64 (97 + t107)) % 256) [.int .u8 ((wrap64 (97 + t107)) % 256)] from rfl) (Reps.none _ _))); intro v109 w45 ho46 hb hg_ hnew_; clear hg_ hnew_
       (first | rw [← Ny108.out] at ho46 | (simp only [Int.reduceToNat] at ho46; rw [← Ny108.out] at ho46))
       have n0_ := Aside0.mk (Kd.R_elder' (kr_ HO106.out) (Kd.R_base ho46) hb); have n1_ := Aside0.mk (Kd.R_lower (Kd.R_new' ho46 (Kd.R_lt (kr_ HO106.out))) (below_size (bl_ HB.out))); have n2_ := bb_ BK101 hb; have n3_ := bb_ BK102 hb; have n4_ := Aside0.mk (below_step (bl_ HB.out) hb); clear HO106 BK101 BK102 HB; have HO106 := n0_; have HO110 := n1_; have BK101 := n2_; have BK102 := n3_; have HB := n4_; clear n0_ n1_ n2_ n3_ n4_; clear hb ho46; refine hK.out _ _ trivial (fun hHeld => ?_); clear hK K; refine norm_ (a' := ?_) ?_ ?_; rotate_left
       ·show Act.put _ (some 16) _ = _
        simp only [Act.put, xset_a, xset_z, xset_s, i64_w, i32_w]
        rfl
       exact norm_ (by simp only [putAll, Act.put, xset_a, xset_z, xset_s] <;> rfl) (hJ4_5_8_11_14 (v105, v109) _ ⟨(by (with_reducible repeat (first | apply Kd.R_alloc | apply Kd.R_drewN | apply Kd.R_drew)); exact Kd.R_mono HO106.out (fun _ hk => hk.2)), (by (with_reducible repeat (first | apply Kd.R_alloc | apply Kd.R_drewN | apply Kd.R_drew)); exact Kd.R_mono HO110.out (fun _ hk => hk.2)), (bk_ BK101.out), (bk_ BK102.out), (bl_ HB.out)⟩)
     ·skip
      rintro ⟨v105, v109⟩ w45 ⟨h0_, h1_, h2_, h3_, h4_⟩; have n0_ := Aside0.mk h0_; have n1_ := Aside0.mk h1_; have n2_ := Aside0.mk h2_; have n3_ := Aside0.mk h3_; have n4_ := Aside0.mk h4_; clear BK101 BK102 HB; clear h0_ h1_ h2_ h3_ h4_; have HO106 := n0_; have HO110 := n1_; have BK101 := n2_; have BK102 := n3_; have HB := n4_; clear n0_ n1_ n2_ n3_ n4_; have hHeld := trivial; refine norm_ (a' := ?_) ?_ ?_; rotate_left
      ·simp only [putAll, Act.put, xset_a, xset_z, xset_s]
       rfl
      refine two_ (i := 12) (j := 14) (Ni := some 17) (Nj := none) (bA 17 16383) (bA 17 28671) rfl rfl rfl rfl (two_of HT_.out (by kernel_rfl)) (by decide) (by decide) (fun K hK => ?_) (fun K hK => ?_)
      ·skip
       have hcv46 := own_string (P := Try.prog) Try.underlying24 Try.underlying5 Try.underlying9 (Kd.own_of_R HO110.out); refine value_ (w1 := ?_) (v := ?_) (by rfl) rfl ?_ ?_; rotate_left 2
       ·go_simp
        constructor
        ·rfl
        ·rfl
       clear hcv46; refine hK.out _ _ trivial (fun hHeld => ?_); clear hK K; refine norm_ (a' := ?_) ?_ ?_; rotate_left
       ·show Act.put _ (some 17) _ = _
        simp only [Act.put, xset_a, xset_z, xset_s, i64_w, i32_w]
        rfl
       exact norm_ (by simp only [putAll, Act.put, xset_a, xset_z, xset_s] <;> rfl) (hJ4_5_8_11_12 (v105, v109) _ ⟨(kr_ HO106.out), (kr_ HO110.out), (bk_ BK101.out), (bk_ BK102.out), (bl_ HB.out)⟩)
      ·skip
       have hs46 : w45.cell? ⟨gb101, 0, none⟩ = some (.string a0_0) := (blk_cell BK101.out 0).trans rfl; have hfs46 := blk_frozen BK101.out 0; have hns46_1 := NB102_101.out; have hms46_1 := NB101_102.out
       with_reducible refine skip_ (w1 := ?_) ?_ rfl ?_ ?_
       rotate_left
       ·rfl
       ·go_simp
        rfl
       refine hK.out _ _ trivial (fun hHeld => ?_); clear hK K
       exact norm_ (by simp only [putAll, Act.put, xset_a, xset_z, xset_s] <;> rfl) (hJ4_5_8_11_14 (v105, v109) _ ⟨(by (with_reducible repeat (first | apply Kd.R_alloc | apply Kd.R_drewN | apply Kd.R_drew)); exact Kd.R_mono (Kd.R_far (p := ⟨gb101, 0, none⟩) (Kd.R_types HO106.out BK101.out (by decide)) (fun _ hk => hk.2) (.string (strOfNums y104))) (fun _ hk => hk.1)), (by (with_reducible repeat (first | apply Kd.R_alloc | apply Kd.R_drewN | apply Kd.R_drew)); exact Kd.R_mono (Kd.R_far (p := ⟨gb101, 0, none⟩) (Kd.R_types HO110.out BK101.out (by decide)) (fun _ hk => hk.2) (.string (strOfNums y104))) (fun _ hk => hk.1)), (by (with_reducible repeat (first | refine blk_drewN ?_ _ | refine blk_drew ?_ | refine blk_alloc ?_ _)); refine blk_put (cs := #[.string a0_0, .int .i64 a0_1, .int .i64 a0_2, .int .i64 a0_3, .int .i64 a0_4, .string a0_5, .int .i64 a0_6, .int .i64 a0_7, .int .i64 a0_8, .int .i64 a0_9, .string a0_10]) ?_ 0 _ rfl; (with_reducible repeat (first | refine blk_drewN ?_ _ | refine blk_drew ?_ | refine blk_alloc ?_ _)); exact BK101.out), (by (with_reducible repeat (first | refine blk_drewN ?_ _ | refine blk_drew ?_ | refine blk_alloc ?_ _)); refine blk_far ?_ NB102_101.out _; (with_reducible repeat (first | refine blk_drewN ?_ _ | refine blk_drew ?_ | refine blk_alloc ?_ _)); exact BK102.out), (bl_ HB.out)⟩)
    ·skip
     rintro ⟨v105, v109⟩ w46 ⟨h0_, h1_, h2_, h3_, h4_⟩; have n0_ := Aside0.mk h0_; have n1_ := Aside0.mk h1_; have n2_ := Aside0.mk h2_; have n3_ := Aside0.mk h3_; have n4_ := Aside0.mk h4_; clear BK101 BK102 HB; clear h0_ h1_ h2_ h3_ h4_; have HO106 := n0_; have HO110 := n1_; have BK101 := n2_; have BK102 := n3_; have HB := n4_; clear n0_ n1_ n2_ n3_ n4_; have hHeld := trivial; refine norm_ (a' := ?_) ?_ ?_; rotate_left
     ·simp only [putAll, Act.put, xset_a, xset_z, xset_s]
      rfl
     refine one_ (i := 12) (N := some 17) (bA 17 32767) rfl rfl (one_of HT_.out (by kernel_rfl)) (by decide) (fun K hK => ?_); have hcv47 := own_string (P := Try.prog) Try.underlying24 Try.underlying5 Try.underlying9 (Kd.own_of_R HO110.out); refine value_ (w1 := ?_) (v := ?_) (by rfl) rfl ?_ ?_; rotate_left 2
     ·go_simp
      constructor
      ·rfl
      ·rfl
     clear hcv47; refine hK.out _ _ trivial (fun hHeld => ?_); clear hK K; refine norm_ (a' := ?_) ?_ ?_; rotate_left
     ·show Act.put _ (some 17) _ = _
      simp only [Act.put, xset_a, xset_z, xset_s, i64_w, i32_w]
      rfl
     exact norm_ (by simp only [putAll, Act.put, xset_a, xset_z, xset_s] <;> rfl) (hJ4_5_8_11_12_14 (v105, v109) _ ⟨(kr_ HO106.out), (kr_ HO110.out), (bk_ BK101.out), (bk_ BK102.out), (bl_ HB.out)⟩)
   ·skip
    rintro ⟨v105, v109⟩ w46 ⟨h0_, h1_, h2_, h3_, h4_⟩; have n0_ := Aside0.mk h0_; have n1_ := Aside0.mk h1_; have n2_ := Aside0.mk h2_; have n3_ := Aside0.mk h3_; have n4_ := Aside0.mk h4_; clear BK101 BK102 HB; clear h0_ h1_ h2_ h3_ h4_; have HO106 := n0_; have HO110 := n1_; have BK101 := n2_; have BK102 := n3_; have HB := n4_; clear n0_ n1_ n2_ n3_ n4_; have hHeld := trivial; refine norm_ (a' := ?_) ?_ ?_; rotate_left
    ·simp only [putAll, Act.put, xset_a, xset_z, xset_s]
     rfl
    refine one_ (i := 14) (N := none) (bA 17 32767) rfl rfl (one_of HT_.out (by kernel_rfl)) (by decide) (fun K hK => ?_); have hs47 : w46.cell? ⟨gb101, 0, none⟩ = some (.string a0_0) := (blk_cell BK101.out 0).trans rfl; have hfs47 := blk_frozen BK101.out 0; have hns47_1 := NB102_101.out; have hms47_1 := NB101_102.out
    with_reducible refine skip_ (w1 := ?_) ?_ rfl ?_ ?_
    rotate_left
    ·rfl
    ·go_simp
     rfl
    refine hK.out _ _ trivial (fun hHeld => ?_); clear hK K
    exact norm_ (by simp only [putAll, Act.put, xset_a, xset_z, xset_s] <;> rfl) (hJ4_5_8_11_12_14 (v105, v109) _ ⟨(by (with_reducible repeat (first | apply Kd.R_alloc | apply Kd.R_drewN | apply Kd.R_drew)); exact Kd.R_mono (Kd.R_far (p := ⟨gb101, 0, none⟩) (Kd.R_types HO106.out BK101.out (by decide)) (fun _ hk => hk.2) (.string (strOfNums y104))) (fun _ hk => hk.1)), (by (with_reducible repeat (first | apply Kd.R_alloc | apply Kd.R_drewN | apply Kd.R_drew)); exact Kd.R_mono (Kd.R_far (p := ⟨gb101, 0, none⟩) (Kd.R_types HO110.out BK101.out (by decide)) (fun _ hk => hk.2) (.string (strOfNums y104))) (fun _ hk => hk.1)), (by (with_reducible repeat (first | refine blk_drewN ?_ _ | refine blk_drew ?_ | refine blk_alloc ?_ _)); refine blk_put (cs := #[.string a0_0, .int .i64 a0_1, .int .i64 a0_2, .int .i64 a0_3, .int .i64 a0_4, .string a0_5, .int .i64 a0_6, .int .i64 a0_7, .int .i64 a0_8, .int .i64 a0_9, .string a0_10]) ?_ 0 _ rfl; (with_reducible repeat (first | refine blk_drewN ?_ _ | refine blk_drew ?_ | refine blk_alloc ?_ _)); exact BK101.out), (by (with_reducible repeat (first | refine blk_drewN ?_ _ | refine blk_drew ?_ | refine blk_alloc ?_ _)); refine blk_far ?_ NB102_101.out _; (with_reducible repeat (first | refine blk_drewN ?_ _ | refine blk_drew ?_ | refine blk_alloc ?_ _)); exact BK102.out), (bl_ HB.out)⟩)
  rintro ⟨v105, v109⟩ w47 ⟨h0_, h1_, h2_, h3_, h4_⟩; have n0_ := Aside0.mk h0_; have n1_ := Aside0.mk h1_; have n2_ := Aside0.mk h2_; have n3_ := Aside0.mk h3_; have n4_ := Aside0.mk h4_; clear BK101 BK102 HB; clear h0_ h1_ h2_ h3_ h4_; have HO106 := n0_; have HO110 := n1_; have BK101 := n2_; have BK102 := n3_; have HB := n4_; clear n0_ n1_ n2_ n3_ n4_; have hHeld := trivial; refine norm_ (a' := ?_) ?_ ?_; rotate_left
  ·simp only [putAll, Act.put, xset_a, xset_z, xset_s]
   rfl
  refine pure_ (i := 15) (N := some 19) (v := ?_) (a' := ?_) (bA 17 65535) rfl rfl (any_of HT_.out (by kernel_rfl)) (fun _ _ _ h => h) (Or.inl ⟨by rfl, ?_⟩) ?_ ?_; rotate_left; (·intro w'; go_simp; with_reducible rfl); rotate_left; (·simp only [Act.put, xset_a, xset_z, xset_s, i64_w, i32_w]; rfl); refine one_ (i := 16) (N := none) (bA 17 131071) rfl rfl (one_of HT_.out (by kernel_rfl)) (by decide) (fun K hK => ?_); have hs48 : w47.cell? ⟨gb101, 5, none⟩ = some (.string a0_5) := (blk_cell BK101.out 5).trans rfl; have hfs48 := blk_frozen BK101.out 5; have hns48_1 := NB102_101.out; have hms48_1 := NB101_102.out
  with_reducible refine skip_ (w1 := ?_) ?_ rfl ?_ ?_
  rotate_left
  ·rfl
  ·go_simp
   rfl
  refine hK.out _ _ trivial (fun hHeld => ?_); clear hK K; refine done_ (done_of HT_.out (by kernel_rfl)) ?_; (try go_wp2); have n0_ : Aside0 (Kd.R (Kd.int .u8) 5 (w47.setCell ⟨gb101, 5, none⟩ (.string (strOfNums y108))) w.heap.size (fun k_ => some k_ ≠ (v109 : Value).ownBlock) v105 y104) := ⟨by (with_reducible repeat (first | apply Kd.R_alloc | apply Kd.R_drewN | apply Kd.R_drew)); exact Kd.R_mono (Kd.R_far (p := ⟨gb101, 5, none⟩) (Kd.R_types HO106.out BK101.out (by decide)) (fun _ hk => hk.2) (.string (strOfNums y108))) (fun _ hk => hk.1)⟩; have n1_ : Aside0 (Kd.R (Kd.int .u8) 5 (w47.setCell ⟨gb101, 5, none⟩ (.string (strOfNums y108))) w.heap.size (fun k_ => some k_ ≠ (v105 : Value).ownBlock) v109 y108) := ⟨by (with_reducible repeat (first | apply Kd.R_alloc | apply Kd.R_drewN | apply Kd.R_drew)); exact Kd.R_mono (Kd.R_far (p := ⟨gb101, 5, none⟩) (Kd.R_types HO110.out BK101.out (by decide)) (fun _ hk => hk.2) (.string (strOfNums y108))) (fun _ hk => hk.1)⟩; have n2_ : Aside0 ((w47.setCell ⟨gb101, 5, none⟩ (.string (strOfNums y108))).heap[gb101]? = some (.cells #[.string (strOfNums y104), .int .i64 a0_1, .int .i64 a0_2, .int .i64 a0_3, .int .i64 a0_4, .string (strOfNums y108), .int .i64 a0_6, .int .i64 a0_7, .int .i64 a0_8, .int .i64 a0_9, .string a0_10] 28 (0, 0))) := ⟨by (with_reducible repeat (first | refine blk_drewN ?_ _ | refine blk_drew ?_ | refine blk_alloc ?_ _)); refine blk_put (cs := #[.string (strOfNums y104), .int .i64 a0_1, .int .i64 a0_2, .int .i64 a0_3, .int .i64 a0_4, .string a0_5, .int .i64 a0_6, .int .i64 a0_7, .int .i64 a0_8, .int .i64 a0_9, .string a0_10]) ?_ 5 _ rfl; (with_reducible repeat (first | refine blk_drewN ?_ _ | refine blk_drew ?_ | refine blk_alloc ?_ _)); exact BK101.out⟩; have n3_ : Aside0 ((w47.setCell ⟨gb101, 5, none⟩ (.string (strOfNums y108))).heap[gb102]? = some (.cells #[.string ⟨#[]⟩, .int .i64 0, .int .i64 0, .int .i64 0, .int .i64 0, .string ⟨#[]⟩, .int .i64 0, .int .i64 0, .int .i64 0, .int .i64 0, .string ⟨#[]⟩] 28 (0, 0))) := ⟨by (with_reducible repeat (first | refine blk_drewN ?_ _ | refine blk_drew ?_ | refine blk_alloc ?_ _)); refine blk_far ?_ NB102_101.out _; (with_reducible repeat (first | refine blk_drewN ?_ _ | refine blk_drew ?_ | refine blk_alloc ?_ _)); exact BK102.out⟩; have n4_ : Aside0 (Below w.heap.size w (w47.setCell ⟨gb101, 5, none⟩ (.string (strOfNums y108)))) := ⟨bl_ HB.out⟩
  (try clear HO106)
  (try clear HO110)
  (try clear BK101)
  (try clear BK102)
  (try clear HB)
  generalize (w47.setCell ⟨gb101, 5, none⟩ (.string (strOfNums y108))) = w49 at n0_ n1_ n2_ n3_ n4_ ⊢
  have HO106 := n0_; have HO110 := n1_; have BK101 := n2_; have BK102 := n3_; have HB := n4_; clear n0_ n1_ n2_ n3_ n4_; have n0_ := Aside0.mk (Kd.R_drew HO106.out); have n1_ := Aside0.mk (Kd.R_drew HO110.out); have n2_ := Aside0.mk (blk_drew BK101.out); have n3_ := Aside0.mk (blk_drew BK102.out); have n4_ := Aside0.mk (below_drew1 HB.out); clear HO106 HO110 BK101 BK102 HB; have HO106 := n0_; have HO110 := n1_; have BK101 := n2_; have BK102 := n3_; have HB := n4_; clear n0_ n1_ n2_ n3_ n4_; refine start_ (n := 10) (S := fun w' => cb11e w' gb101 (.string (strOfNums y104)) (.int .i64 a0_1) (.int .i64 a0_2) (.int .i64 a0_3) (.int .i64 a0_4) (.string (strOfNums y108)) (.int .i64 a0_6) (.int .i64 a0_7) (.int .i64 a0_8) (.int .i64 a0_9) (.string a0_10)) (ds := [7, 9]) (bA 10 0) (by kernel_rfl) rfl rfl ⟨(blk_cell BK101.out 0).trans rfl, (blk_cell BK101.out 1).trans rfl, (blk_cell BK101.out 2).trans rfl, (blk_cell BK101.out 3).trans rfl, (blk_cell BK101.out 4).trans rfl, (blk_cell BK101.out 5).trans rfl, (blk_cell BK101.out 6).trans rfl, (blk_cell BK101.out 7).trans rfl, (blk_cell BK101.out 8).trans rfl, (blk_cell BK101.out 9).trans rfl, (blk_cell BK101.out 10).trans rfl⟩ (fun hHeld => ?_); refine with_tabW donjonlaw18_good.tab2 donjonlaw18_good.bits2 (fun HT_ HW_ => ?_)
  generalize w49.drew = w50 at HO106 HO110 BK101 BK102 HB hHeld ⊢
  refine pure_ (i := 0) (N := some 20) (v := ?_) (a' := ?_) (bA 10 1) rfl rfl (any_of HT_.out (by kernel_rfl)) (fun _ _ _ h => h) (Or.inl ⟨by rfl, ?_⟩) ?_ ?_; rotate_left; (·intro w'; go_simp; with_reducible rfl); rotate_left; (·simp only [Act.put, xset_a, xset_z, xset_s, i64_w, i32_w]; rfl); refine pure_ (i := 3) (N := some 23) (v := ?_) (a' := ?_) (bA 10 9) rfl rfl (any_of HT_.out (by kernel_rfl)) (fun _ _ _ h => h) (Or.inl ⟨by rfl, ?_⟩) ?_ ?_; rotate_left; (·intro w'; go_simp; with_reducible rfl); rotate_left; (·simp only [Act.put, xset_a, xset_z, xset_s, i64_w, i32_w]; rfl); refine take_ (i := 1) (N := some 21) (v := ?_) (a' := ?_) (bA 10 11) rfl rfl (take_ofW HT_.out HW_.out (by kernel_rfl)) (fun _ _ _ h => h) (Or.inl ⟨by rfl, ?_⟩) hHeld ?_ ?_; rotate_left; (·rintro w' ⟨s0, s1, s2, s3, s4, s5, s6, s7, s8, s9, s10⟩; go_simp; with_reducible rfl); rotate_left; (·simp only [Act.put, xset_a, xset_z, xset_s, i64_w, i32_w]; rfl); refine take_ (i := 4) (N := some 24) (v := ?_) (a' := ?_) (bA 10 27) rfl rfl (take_ofW HT_.out HW_.out (by kernel_rfl)) (fun _ _ _ h => h) (Or.inl ⟨by rfl, ?_⟩) hHeld ?_ ?_; rotate_left; (·rintro w' ⟨s0, s1, s2, s3, s4, s5, s6, s7, s8, s9, s10⟩; go_simp; with_reducible rfl); rotate_left; (·simp only [Act.put, xset_a, xset_z, xset_s, i64_w, i32_w]; rfl); refine one_ (i := 2) (N := some 22) (bA 10 31) rfl rfl (one_of HT_.out (by kernel_rfl)) (by decide) (fun K hK => ?_); refine goes_ Try.func25 (by kernel_rfl) rfl #[.agg #[.int .i64 a0_1, .int .i64 a0_2, .int .i64 a0_3, .int .i64 a0_4]] (by rfl) rfl rfl (by (try simp only [List.map_toArray, List.map_cons, List.map_nil]); first | done | rfl | (simp only [List.length_drop, List.length_take]; rfl)) ?_
  with_reducible refine (donjonlaw4_Good.calls a0_1 a0_2 a0_3 a0_4 t111 t112 t113 t114 _ A5.out).mono ?_
  rintro e w51 ⟨rfl, hb⟩; refine ⟨_, rfl, ?_⟩; have n0_ := Aside0.mk (Kd.R_below (kr_ HO106.out) hb); have n1_ := Aside0.mk (Kd.R_below (kr_ HO110.out) hb); have n2_ := bb_ BK101 hb; have n3_ := bb_ BK102 hb; have n4_ := Aside0.mk (below_step (bl_ HB.out) hb); clear HO106 HO110 BK101 BK102 HB; have HO106 := n0_; have HO110 := n1_; have BK101 := n2_; have BK102 := n3_; have HB := n4_; clear n0_ n1_ n2_ n3_ n4_
  (try clear hb)
  (try clear hb2)
  (try clear hk)
  (try clear hi)
  refine hK.out _ _ ⟨(blk_cell BK101.out 0).trans rfl, (blk_cell BK101.out 1).trans rfl, (blk_cell BK101.out 2).trans rfl, (blk_cell BK101.out 3).trans rfl, (blk_cell BK101.out 4).trans rfl, (blk_cell BK101.out 5).trans rfl, (blk_cell BK101.out 6).trans rfl, (blk_cell BK101.out 7).trans rfl, (blk_cell BK101.out 8).trans rfl, (blk_cell BK101.out 9).trans rfl, (blk_cell BK101.out 10).trans rfl⟩ (fun hHeld => ?_); clear hK K; refine norm_ (a' := ?_) ?_ ?_; rotate_left
  ·show Act.put _ (some 22) _ = _
   simp only [Act.put, xset_a, xset_z, xset_s, i64_w, i32_w]
   rfl
  refine pure_ (i := 6) (N := some 26) (v := ?_) (a' := ?_) (bA 10 95) rfl rfl (any_of HT_.out (by kernel_rfl)) (fun _ _ _ h => h) (Or.inl ⟨by rfl, ?_⟩) ?_ ?_; rotate_left; (·intro w'; go_simp; with_reducible rfl); rotate_left; (·simp only [Act.put, xset_a, xset_z, xset_s, i64_w, i32_w]; rfl); refine one_ (i := 5) (N := some 25) (bA 10 127) rfl rfl (one_of HT_.out (by kernel_rfl)) (by decide) (fun K hK => ?_); refine goes_ Try.func25 (by kernel_rfl) rfl #[.agg #[.int .i64 a0_6, .int .i64 a0_7, .int .i64 a0_8, .int .i64 a0_9]] (by rfl) rfl rfl (by (try simp only [List.map_toArray, List.map_cons, List.map_nil]); first | done | rfl | (simp only [List.length_drop, List.length_take]; rfl)) ?_
  with_reducible refine (donjonlaw4_Good.calls a0_6 a0_7 a0_8 a0_9 t115 t116 t117 t118 _ A6.out).mono ?_
  rintro e w52 ⟨rfl, hb⟩; refine ⟨_, rfl, ?_⟩; have n0_ := Aside0.mk (Kd.R_below (kr_ HO106.out) hb); have n1_ := Aside0.mk (Kd.R_below (kr_ HO110.out) hb); have n2_ := bb_ BK101 hb; have n3_ := bb_ BK102 hb; have n4_ := Aside0.mk (below_step (bl_ HB.out) hb); clear HO106 HO110 BK101 BK102 HB; have HO106 := n0_; have HO110 := n1_; have BK101 := n2_; have BK102 := n3_; have HB := n4_; clear n0_ n1_ n2_ n3_ n4_
  (try clear hb)
  (try clear hb2)
  (try clear hk)
  (try clear hi)
  refine hK.out _ _ ⟨(blk_cell BK101.out 0).trans rfl, (blk_cell BK101.out 1).trans rfl, (blk_cell BK101.out 2).trans rfl, (blk_cell BK101.out 3).trans rfl, (blk_cell BK101.out 4).trans rfl, (blk_cell BK101.out 5).trans rfl, (blk_cell BK101.out 6).trans rfl, (blk_cell BK101.out 7).trans rfl, (blk_cell BK101.out 8).trans rfl, (blk_cell BK101.out 9).trans rfl, (blk_cell BK101.out 10).trans rfl⟩ (fun hHeld => ?_); clear hK K; refine norm_ (a' := ?_) ?_ ?_; rotate_left
  ·show Act.put _ (some 25) _ = _
   simp only [Act.put, xset_a, xset_z, xset_s, i64_w, i32_w]
   rfl
  refine last_ (i := 7) (N := none) (bA 10 255) rfl rfl (one_of HT_.out (by kernel_rfl)) (by decide) (fun K hK => ?_); have hs53 : w52.cell? ⟨gb101, 1, none⟩ = some (.int .i64 a0_1) := (blk_cell BK101.out 1).trans rfl; have hfs53 := blk_frozen BK101.out 1; have hns53_1 := NB102_101.out; have hms53_1 := NB101_102.out; have hs54 : w52.cell? ⟨gb101, 2, none⟩ = some (.int .i64 a0_2) := (blk_cell BK101.out 2).trans rfl; have hfs54 := blk_frozen BK101.out 2; have hns54_1 := NB102_101.out; have hms54_1 := NB101_102.out; have hs55 : w52.cell? ⟨gb101, 3, none⟩ = some (.int .i64 a0_3) := (blk_cell BK101.out 3).trans rfl; have hfs55 := blk_frozen BK101.out 3; have hns55_1 := NB102_101.out; have hms55_1 := NB101_102.out; have hs56 : w52.cell? ⟨gb101, 4, none⟩ = some (.int .i64 a0_4) := (blk_cell BK101.out 4).trans rfl; have hfs56 := blk_frozen BK101.out 4; have hns56_1 := NB102_101.out; have hms56_1 := NB101_102.out
  with_reducible refine skip_ (w1 := ?_) ?_ rfl ?_ ?_
  rotate_left
  ·rfl
  ·go_simp
   rfl
  refine hK.out _ _ ?_; clear hK K; refine pure_ (i := 8) (N := some 27) (v := ?_) (a' := ?_) (bA 10 511) rfl rfl (any_of HT_.out (by kernel_rfl)) (fun _ _ _ h => h) (Or.inl ⟨by rfl, ?_⟩) ?_ ?_; rotate_left; (·intro w'; go_simp; with_reducible rfl); rotate_left; (·simp only [Act.put, xset_a, xset_z, xset_s, i64_w, i32_w]; rfl); refine last_ (i := 9) (N := none) (bA 10 1023) rfl rfl (one_of HT_.out (by kernel_rfl)) (by decide) (fun K hK => ?_); have hs57 : w52.cell? ⟨gb101, 6, none⟩ = some (.int .i64 a0_6) := (blk_cell BK101.out 6).trans rfl; have hfs57 := blk_frozen BK101.out 6; have hns57_1 := NB102_101.out; have hms57_1 := NB101_102.out; have hs58 : w52.cell? ⟨gb101, 7, none⟩ = some (.int .i64 a0_7) := (blk_cell BK101.out 7).trans rfl; have hfs58 := blk_frozen BK101.out 7; have hns58_1 := NB102_101.out; have hms58_1 := NB101_102.out; have hs59 : w52.cell? ⟨gb101, 8, none⟩ = some (.int .i64 a0_8) := (blk_cell BK101.out 8).trans rfl; have hfs59 := blk_frozen BK101.out 8; have hns59_1 := NB102_101.out; have hms59_1 := NB101_102.out; have hs60 : w52.cell? ⟨gb101, 9, none⟩ = some (.int .i64 a0_9) := (blk_cell BK101.out 9).trans rfl; have hfs60 := blk_frozen BK101.out 9; have hns60_1 := NB102_101.out; have hms60_1 := NB101_102.out
  with_reducible refine skip_ (w1 := ?_) ?_ rfl ?_ ?_
  rotate_left
  ·rfl
  ·go_simp
   rfl
  refine hK.out _ _ ?_; clear hK K; refine done_ (done_of HT_.out (by kernel_rfl)) ?_; have hnb61 := NB101_102.out; have hnc61 := NB102_101.out; obtain ⟨hcz62_0, hcz62_1, hcz62_2, hcz62_3, hcz62_4, hcz62_5, hcz62_6, hcz62_7, hcz62_8, hcz62_9, hcz62_10⟩ := bcs11 BK101.out; obtain ⟨hfz62_0, hfz62_1, hfz62_2, hfz62_3, hfz62_4, hfz62_5, hfz62_6, hfz62_7, hfz62_8, hfz62_9, hfz62_10⟩ := bfs11 BK101.out; obtain ⟨hcz63_0, hcz63_1, hcz63_2, hcz63_3, hcz63_4, hcz63_5, hcz63_6, hcz63_7, hcz63_8, hcz63_9, hcz63_10⟩ := bcs11 BK102.out; obtain ⟨hfz63_0, hfz63_1, hfz63_2, hfz63_3, hfz63_4, hfz63_5, hfz63_6, hfz63_7, hfz63_8, hfz63_9, hfz63_10⟩ := bfs11 BK102.out; (try go_wp2); refine bodyPost_ret (results_cell_row rfl _ _ gb102 28 #[.string (strOfNums y104), .int .i64 t111, .int .i64 t112, .int .i64 t113, .int .i64 t114, .string (strOfNums y108), .int .i64 t115, .int .i64 t116, .int .i64 t117, .int .i64 t118, .string a0_10] (0, 0) _ rfl (by (with_reducible repeat (first | refine blk_drewN ?_ _ | refine blk_drew ?_ | refine blk_alloc ?_ _)); refine puts11 (cs := #[.string ⟨#[]⟩, .int .i64 0, .int .i64 0, .int .i64 0, .int .i64 0, .string ⟨#[]⟩, .int .i64 0, .int .i64 0, .int .i64 0, .int .i64 0, .string ⟨#[]⟩]) ?_ rfl; (iterate 8 ((with_reducible repeat (first | refine blk_drewN ?_ _ | refine blk_drew ?_ | refine blk_alloc ?_ _)); refine blk_far ?_ NB102_101.out _)); (with_reducible repeat (first | refine blk_drewN ?_ _ | refine blk_drew ?_ | refine blk_alloc ?_ _)); exact BK102.out) Try.underlying28 rfl (by kernel_rfl)) rfl ?_
  exact ⟨by first | rfl | (simp [errW_none, errW_some] <;> rfl) | (simp [*, errW_none, errW_some] <;> rfl), by repeat (first | (with_reducible first | exact HB.out | apply below_alloc | apply pw_below_drewN | apply below_drew1 | refine below_set ?_ GE101.out | refine below_set ?_ GE102.out) | exact HB.out)⟩

end Go.Proofs.Ytdbnjjkapelekaa.X
