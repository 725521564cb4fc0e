/- Written by a program of this session over the kit's print: YtnepinkookbanaaDoorF25. -/
import Derived.Test.YtnepinkookbanaaDoorH
import Derived.Test.YtnepinkookbanaaDoorF24
import Derived.Test.YtnepinkookbanaaDoorF26
import Derived.Test.YtnepinkookbanaaDoorF30
import Derived.Test.YtnepinkookbanaaDoorF26
import Derived.Test.YtnepinkookbanaaDoorF30
import Derived.Test.YtnepinkookbanaaDoorF24
import Derived.WalkKit
import Derived.BigCall
namespace Go.Proofs.YtnepinkookbanaaDoor.X
open Go.RowKit Go.Proofs.YtnepinkookbanaaDoorW.PrintWords Go.Proofs.YtnepinkookbanaaDoorW.PrintLast Go.Proofs.YtnepinkookbanaaDoorW.PrintMore Go.Proofs.YtnepinkookbanaaDoor.More
attribute [local go_sem] max2_int min2_int max_two min_two max_three min_three max_four min_four binOp_string_leq binOp_string_gtr   -- for this text's walks alone
set_option linter.unusedVariables false
set_option linter.unusedSimpArgs false

/-! ### donjonref4_Parse: function 25 -/
theorem next_less {s i : Nat} (h : i < s) (e : wrap64 ((i : Int) + 1) = ((i + 1 : Nat) : Int)) : s - (intOf (.int .i64 (wrap64 ((i : Int) + 1)))).toNat < s - (intOf (.int .i64 (i : Int))).toNat := by
  have g : ∀ n : Int, intOf (.int .i64 n) = n := fun _ => rfl
  rw [g, g, e, Int.toNat_natCast, Int.toNat_natCast]
  clear e
  omega
def addD (v c : Int) : Int := 10 * v + (c - 48)
/-- The numbers that the bytes from here on leave, if they may stand there. -/
def goL : List Int → Nat → Nat → Int → Int → Int → Int → Option (Int × Int × Int × Int)
  | [], _, _, v0, v1, v2, v3 => some (v0, v1, v2, v3)
  | c :: cs, q, d, v0, v1, v2, v3 =>
    if c = 46 ∧ q < 3 then goL cs (q + 1) 0 v0 v1 v2 v3
    else if (48 ≤ c ∧ c ≤ 57) ∧ d < 3 then goL cs q (d + 1) (if q = 0 then addD v0 c else v0) (if q = 1 then addD v1 c else v1) (if q = 2 then addD v2 c else v2) (if q = 3 then addD v3 c else v3)
    else none
def limD (d : Nat) (v : Int) : Prop := (d = 0 → v = 0) ∧ (d = 1 → v ≤ 9) ∧ (d = 2 → v ≤ 99)
def boundsD (q d : Nat) (v0 v1 v2 v3 : Int) : Prop := q ≤ 3 ∧ d ≤ 3 ∧ (0 ≤ v0 ∧ v0 ≤ 999) ∧ (0 ≤ v1 ∧ v1 ≤ 999) ∧ (0 ≤ v2 ∧ v2 ≤ 999) ∧ (0 ≤ v3 ∧ v3 ≤ 999) ∧ (q = 0 → limD d v0 ∧ v1 = 0 ∧ v2 = 0 ∧ v3 = 0) ∧ (q = 1 → limD d v1 ∧ v2 = 0 ∧ v3 = 0) ∧ (q = 2 → limD d v2 ∧ v3 = 0) ∧ (q = 3 → limD d v3)
theorem bounds_dot {q d : Nat} {v0 v1 v2 v3 : Int} (h : boundsD q d v0 v1 v2 v3) (hq : q < 3) : boundsD (q + 1) 0 v0 v1 v2 v3 := by
  unfold boundsD limD at *
  omega
theorem lim_dig {d : Nat} {v c : Int} (h : limD d v) (h0 : 0 ≤ v) (hd : d < 3) (c0 : 48 ≤ c) (c1 : c ≤ 57) : limD (d + 1) (addD v c) ∧ 0 ≤ addD v c ∧ addD v c ≤ 999 := by
  unfold limD addD at *
  omega
theorem bounds_dig {q d : Nat} {v0 v1 v2 v3 c : Int} (h : boundsD q d v0 v1 v2 v3) (hd : d < 3) (c0 : 48 ≤ c) (c1 : c ≤ 57) : boundsD q (d + 1) (if q = 0 then addD v0 c else v0) (if q = 1 then addD v1 c else v1) (if q = 2 then addD v2 c else v2) (if q = 3 then addD v3 c else v3) := by
  obtain ⟨hq, _, h0, h1, h2, h3, k0, k1, k2, k3⟩ := h
  have : q = 0 ∨ q = 1 ∨ q = 2 ∨ q = 3 := by omega
  rcases this with rfl | rfl | rfl | rfl
  · obtain ⟨e1, e2, e3, e4⟩ := k0 rfl
    have := lim_dig e1 h0.1 hd c0 c1
    exact ⟨by omega, by omega, this.2, h1, h2, h3, fun _ => ⟨this.1, e2, e3, e4⟩, by omega, by omega, by omega⟩
  · obtain ⟨e1, e2, e3⟩ := k1 rfl
    have := lim_dig e1 h1.1 hd c0 c1
    exact ⟨by omega, by omega, h0, this.2, h2, h3, by omega, fun _ => ⟨this.1, e2, e3⟩, by omega, by omega⟩
  · obtain ⟨e1, e2⟩ := k2 rfl
    have := lim_dig e1 h2.1 hd c0 c1
    exact ⟨by omega, by omega, h0, h1, this.2, h3, by omega, by omega, fun _ => ⟨this.1, e2⟩, by omega⟩
  · have := lim_dig (k3 rfl) h3.1 hd c0 c1
    exact ⟨by omega, by omega, h0, h1, h2, this.2, by omega, by omega, by omega, fun _ => this.1⟩
theorem dig_wraps {v c : Int} (h0 : 0 ≤ v) (h1 : v ≤ 999) (c0 : 48 ≤ c) (c1 : c ≤ 57) : wrap64 (wrap64 (10 * v) + wrap64 ((c - 48) % 256)) = addD v c := by
  unfold wrap64 addD
  omega
theorem bytes_drop (s : ByteArray) (i : Nat) (h : i < s.size) : (bytesOf s).drop i = bt s (i : Int) :: (bytesOf s).drop (i + 1) := by
  rw [List.drop_eq_getElem_cons (by rw [bytesOf_length]; exact h)]
  congr 1
  have e := rd_bytesOf s (i : Int)
  unfold rd at e
  rw [← e, Int.toNat_natCast, List.getD_eq_getElem?_getD, List.getElem?_eq_getElem (by rw [bytesOf_length]; exact h)]
  rfl
def donjonref4_Parse.f (k : Nat) (a0 : ByteArray) : Option (Int × Int × Int × Int × Int) :=
  if a0.size < 4294967281 then match goL (bytesOf a0) 0 0 0 0 0 0 with
  | none => some (0, 0, 0, 0, 1)
  | some v => if labOk v.1 v.2.1 v.2.2.1 v.2.2.2 = true then (donjonref4_Text.f k v.1 v.2.1 v.2.2.1 v.2.2.2).bind fun t => if t.toList = a0.toList then some (v.1, v.2.1, v.2.2.1, v.2.2.2, 0) else some (0, 0, 0, 0, 1) else some (0, 0, 0, 0, 1)
  else none
theorem donjonref4_Parse.mono : ∀ a0 k, LeO (donjonref4_Parse.f k a0) (donjonref4_Parse.f (k + 1) a0) := by
  intro a0 k
  unfold donjonref4_Parse.f
  refine LeO.ite ?_ (LeO.refl _)
  split
  · exact LeO.refl _
  · refine LeO.ite (LeO.bind (donjonref4_Text.mono _ _ _ _ k) fun t => LeO.refl _) (LeO.refl _)
theorem donjonref4_Parse.chk (a b c d : Int) : donjonref4_Check.f a b c d = some (if labOk a b c d = true then 0 else 1) := by
  unfold donjonref4_Check.f labOk
  simp only [Bool.and_eq_true, decide_eq_true_eq]
  repeat' split
  all_goals first | rfl | (exfalso; omega)
def parsesAt (a0 : ByteArray) (R : Option (Int × Int × Int × Int)) (w : World) (q d i : Nat) (v0 v1 v2 v3 : Int) (wr : World) : Prop :=
  i ≤ a0.size ∧ goL ((bytesOf a0).drop i) q d v0 v1 v2 v3 = R ∧ boundsD q d v0 v1 v2 v3 ∧ wr.heap[w.heap.size]? = some (.cells #[.int .i64 0, .int .i64 0, .int .i64 0, .int .i64 0] 23) ∧ wr.heap[w.heap.size + 1]? = some (.cells #[.int .i64 v0, .int .i64 v1, .int .i64 v2, .int .i64 v3] 56) ∧ Below w.heap.size w wr
def donjonref4_Parse.T11 : Bool × List (List Nat × List Nat) := (true, [([], []), ([], []), ([1], [1]), ([2], [2]), ([3], [3]), ([], []), ([], []), ([5, 6], [5, 6]), ([7], [7]), ([8], [8]), ([4, 9], [4, 9]), ([0, 0, 1, 2, 3, 4, 5, 6, 7, 8, 9, 10], [0]), ([11, 10, 0, 1, 2, 3, 4, 5, 6, 7, 8, 9, 10], [10, 11])])
def donjonref4_Parse.B11 : List Nat := [0, 0, 2, 6, 14, 0, 0, 96, 224, 480, 1022, 2047, 4095]
theorem donjonref4_Parse.tab11 : rtab .any (opsOf Tryd.f25 11) = donjonref4_Parse.T11 := by kernel_rfl
theorem donjonref4_Parse.bits11 : waitsOk donjonref4_Parse.T11.2 donjonref4_Parse.B11 = true := by kernel_rfl
set_option maxRecDepth 100000 in
set_option maxHeartbeats 8000000 in
theorem donjonref4_Parse.calls (k : Nat) (a0 : ByteArray) (r1 : Int) (r2 : Int) (r3 : Int) (r4 : Int) (r5 : Int) (w : World) (h : donjonref4_Parse.f k a0 = some (r1, r2, r3, r4, r5)) :
    Calls Tryd.prog 25 #[.string a0] w fun e w' => e = .returned (.tuple #[.agg #[.int .i64 r1, .int .i64 r2, .int .i64 r3, .int .i64 r4], .int .i64 r5]) ∧ Below w.heap.size w w' := by
  obtain ⟨R, hR⟩ : ∃ R, goL (bytesOf a0) 0 0 0 0 0 0 = R := ⟨_, rfl⟩
  have hs0 : a0.size < 4294967281 := by
    by_cases h1 : a0.size < 4294967281
    · exact h1
    · unfold donjonref4_Parse.f at h
      rw [if_neg h1] at h
      exact absurd h (by simp)
  unfold donjonref4_Parse.f at h
  rw [if_pos hs0, hR] at h
  have HR := Aside0.mk h
  have HGO := Aside0.mk hR
  clear h hR
  have HSZ := Aside0.mk hs0
  clear hs0
  go_enter Tryd.func25, Tryd.ntmps25
  go_wp2
  go_loopw [5, 6, 7] (fun s5 s6 s7 wr => ∃ (q d i : Nat) (v0 v1 v2 v3 : Int), s5 = .int .i64 q ∧ s6 = .int .i64 d ∧ s7 = .int .i64 i ∧ parsesAt a0 R w q d i v0 v1 v2 v3 wr) (fun _ _ s7 _ => a0.size - (intOf s7).toNat)
  case atStart =>
    refine ⟨0, 0, 0, 0, 0, 0, 0, rfl, rfl, rfl, Nat.zero_le _, ?_, by unfold boundsD limD; omega, ?_, ?_, ?_⟩
    · rw [List.drop_zero]
      exact HGO.out
    · first | exact blk_alloc (blk_new _ _) _ | (with_reducible repeat (first | refine blk_drewN ?_ _ | refine blk_drew ?_ | refine blk_alloc ?_ _)); exact blk_new _ _
    · first | exact heap_alloc2_new w _ _ | exact blk_new _ _
    · with_reducible repeat (first | exact Below.refl _ _ | apply below_alloc | apply below_drew1)
  case round =>
    clear HGO
    obtain ⟨q, d, i, v0, v1, v2, v3, rfl, rfl, rfl, hi, hgo, hbd, hz, hv, hb⟩ := hrel
    have HZ := Aside0.mk hz
    have HV := Aside0.mk hv
    have HB := Aside0.mk hb
    have HBD := Aside0.mk hbd
    clear hz hv hb
    have hsz : w.heap.size + 1 < wr.heap.size := blk_lt HV.out
    by_cases hlt : i < a0.size
    · rw [bytes_drop a0 i hlt, goL] at hgo
      have t1 : decide ((i : Int) < (a0.size : Int)) = true := decide_eq_true (by omega)
      have p4 : (0 ≤ (i : Int)) = True := eq_true (by omega)
      have q4 : ((i : Int) < (a0.size : Int)) = True := eq_true (by omega)
      have hx4 : ∀ h : i < a0.size, ((a0[i]'h).toNat : Int) = bt a0 (i : Int) := fun h => by simp [bt, h]
      have hiw : wrap64 ((i : Int) + 1) = ((i + 1 : Nat) : Int) := by (have := HSZ.out; unfold wrap64; omega)
      have HIW := Aside0.mk hiw
      have HI := Aside0.mk hlt
      clear hiw
      obtain ⟨hq3, hd3, _⟩ := hbd
      by_cases h46 : bt a0 (i : Int) = 46
      · have e46 : (bt a0 (i : Int) == 46) = true := beq_iff_eq.2 h46
        by_cases hq : q < 3
        · have eq3 : decide ((q : Int) < 3) = true := decide_eq_true (by omega)
          rw [if_pos ⟨h46, hq⟩] at hgo
          have HGO := Aside0.mk hgo
          have HQW : Aside0 (wrap64 ((q : Int) + 1) = ((q + 1 : Nat) : Int)) := ⟨by (unfold wrap64; omega)⟩
          have HQ := Aside0.mk hq
          clear hgo hlt hq hq3 hd3 hi h46
          go_wp2
          go_roundw
          case rel => exact ⟨q + 1, 0, i + 1, v0, v1, v2, v3, congrArg (Value.int .i64) HQW.out, rfl, congrArg (Value.int .i64) HIW.out, HI.out, HGO.out, bounds_dot HBD.out HQ.out, by with_reducible (repeat (first | refine blk_drewN ?_ _ | refine blk_drew ?_)); exact HZ.out, by with_reducible (repeat (first | refine blk_drewN ?_ _ | refine blk_drew ?_)); exact HV.out, by first | exact pw_below_drewN HB.out _ | exact HB.out⟩
          case measure => exact next_less HI.out HIW.out
        · have eq3 : decide ((q : Int) < 3) = false := decide_eq_false (by omega)
          have e48 : decide (48 ≤ bt a0 (i : Int)) = false := decide_eq_false (by omega)
          rw [if_neg (fun h => hq h.2), if_neg (by omega)] at hgo
          have HGO := Aside0.mk hgo
          clear hgo hlt hi
          have g0 : wr.cell? ⟨w.heap.size, 0, none⟩ = some (.int .i64 0) := (blk_cell HZ.out 0).trans rfl
          have g1 : wr.cell? ⟨w.heap.size, 1, none⟩ = some (.int .i64 0) := (blk_cell HZ.out 1).trans rfl
          have g2 : wr.cell? ⟨w.heap.size, 2, none⟩ = some (.int .i64 0) := (blk_cell HZ.out 2).trans rfl
          have g3 : wr.cell? ⟨w.heap.size, 3, none⟩ = some (.int .i64 0) := (blk_cell HZ.out 3).trans rfl
          have k0 := blk_frozen HZ.out 0
          have k1 := blk_frozen HZ.out 1
          have k2 := blk_frozen HZ.out 2
          have k3 := blk_frozen HZ.out 3
          go_wp2
          refine bodyPost_ret (results_ct rfl _ _ w.heap.size 23 #[.int .i64 0, .int .i64 0, .int .i64 0, .int .i64 0] (0, 0) _ rfl (by refine blk_put (cs := #[.int .i64 0, .int .i64 0, .int .i64 0, .int .i64 0]) ?_ 3 _ rfl; refine blk_put (cs := #[.int .i64 0, .int .i64 0, .int .i64 0, .int .i64 0]) ?_ 2 _ rfl; refine blk_put (cs := #[.int .i64 0, .int .i64 0, .int .i64 0, .int .i64 0]) ?_ 1 _ rfl; refine blk_put (cs := #[.int .i64 0, .int .i64 0, .int .i64 0, .int .i64 0]) ?_ 0 _ rfl; (with_reducible repeat (first | refine blk_drewN ?_ _ | refine blk_drew ?_)); exact HZ.out) Tryd.underlying23 rfl (by kernel_rfl)) rfl ?_
          have hq := HR.out
          rw [← HGO.out] at hq
          simp only [Option.some.injEq, Prod.mk.injEq] at hq
          obtain ⟨rfl, rfl, rfl, rfl, rfl⟩ := hq
          exact ⟨rfl, below_set (below_set (below_set (below_set (by first | exact HB.out | exact pw_below_drewN HB.out _) (Nat.le_refl _)) (Nat.le_refl _)) (Nat.le_refl _)) (Nat.le_refl _)⟩
      · have e46 : (bt a0 (i : Int) == 46) = false := beq_eq_false_iff_ne.2 h46
        rw [if_neg (fun h => h46 h.1)] at hgo
        by_cases h48 : 48 ≤ bt a0 (i : Int)
        · have e48 : decide (48 ≤ bt a0 (i : Int)) = true := decide_eq_true h48
          by_cases h57 : bt a0 (i : Int) ≤ 57
          · have e57 : decide (bt a0 (i : Int) ≤ 57) = true := decide_eq_true h57
            by_cases hd : d < 3
            · have ed3 : decide ((d : Int) < 3) = true := decide_eq_true (by omega)
              rw [if_pos ⟨⟨h48, h57⟩, hd⟩] at hgo
              have hbn := bounds_dig HBD.out hd h48 h57
              have hdw : wrap64 ((d : Int) + 1) = ((d + 1 : Nat) : Int) := by (unfold wrap64; omega)
              have HDW := Aside0.mk hdw
              have H48 := Aside0.mk h48
              have H57 := Aside0.mk h57
              clear hdw hd hlt hi h46 h48 h57
              have hq4 : q = 0 ∨ q = 1 ∨ q = 2 ∨ q = 3 := by omega
              clear hq3 hd3
              rcases hq4 with rfl | rfl | rfl | rfl
              · simp only [reduceIte, Nat.reduceEqDiff, Nat.one_ne_zero, Nat.zero_ne_one, reduceCtorEq] at hgo hbn
                have HGO := Aside0.mk hgo
                have HBN := Aside0.mk hbn
                have hdv := dig_wraps (v := v0) (c := bt a0 (i : Int)) HBD.out.2.2.1.1 HBD.out.2.2.1.2 H48.out H57.out
                have HDV := Aside0.mk hdv
                clear hgo hbn hdv
                go_wp2_with fail
                have HBd := Aside0.mk (below_drew1 HB.out)
                have HVd := Aside0.mk (blk_drew HV.out)
                have HZd := Aside0.mk (blk_drew HZ.out)
                refine start_ (n := 13) (S := fun w' => w'.cell? ⟨w.heap.size + 1, 0, none⟩ = some (.int .i64 v0)) (ds := [12]) #[false, false, false, false, false, false, false, false, false, false, false, false, false] (by kernel_rfl) rfl rfl ((blk_cell HVd.out 0).trans rfl) (fun hHeld => ?_)
                refine with_tabW donjonref4_Parse.tab11 donjonref4_Parse.bits11 (fun HT_ HW_ => ?_)
                generalize World.drew _ = wd at HBd HVd HZd hHeld ⊢
                refine pure_ (i := 0) (N := some 42) (v := ?_) (a' := ?_) #[true, false, false, false, false, false, false, false, false, false, false, false, false] rfl rfl (any_of HT_.out (by kernel_rfl)) (fun _ _ _ h => h) (Or.inl ⟨by rfl, ?_⟩) ?_ ?_
                rotate_left
                · intro w'
                  go_simp
                  with_reducible rfl
                rotate_left
                · simp only [Act.put, List.setIfInBounds_toArray, List.set_cons_zero, List.set_cons_succ, i64_w, i32_w]
                  rfl
                refine pure_ (i := 1) (N := some 43) (v := ?_) (a' := ?_) #[true, true, false, false, false, false, false, false, false, false, false, false, false] rfl rfl (any_of HT_.out (by kernel_rfl)) (fun _ _ _ h => h) (Or.inl ⟨by rfl, ?_⟩) ?_ ?_
                rotate_left
                · intro w'
                  go_simp
                  with_reducible rfl
                rotate_left
                · simp only [Act.put, List.setIfInBounds_toArray, List.set_cons_zero, List.set_cons_succ, i64_w, i32_w]
                  rfl
                refine pure_ (i := 2) (N := some 44) (v := ?_) (a' := ?_) #[true, true, true, false, false, false, false, false, false, false, false, false, false] rfl rfl (any_of HT_.out (by kernel_rfl)) (fun _ _ _ h => h) (Or.inl ⟨by rfl, ?_⟩) ?_ ?_
                rotate_left
                · intro w'
                  go_simp
                  with_reducible rfl
                rotate_left
                · simp only [Act.put, List.setIfInBounds_toArray, List.set_cons_zero, List.set_cons_succ, i64_w, i32_w]
                  rfl
                refine take_ (i := 3) (N := some 45) (v := ?_) (a' := ?_) #[true, true, true, true, false, false, false, false, false, false, false, false, false] rfl rfl (take_ofW HT_.out HW_.out (by kernel_rfl)) (fun _ _ _ h => h) (Or.inl ⟨by rfl, ?_⟩) hHeld ?_ ?_
                rotate_left
                · rintro w' s0
                  go_simp
                  with_reducible rfl
                rotate_left
                · simp only [Act.put, List.setIfInBounds_toArray, List.set_cons_zero, List.set_cons_succ, i64_w, i32_w]
                  rfl
                refine pure_ (i := 4) (N := some 46) (v := ?_) (a' := ?_) #[true, true, true, true, true, false, false, false, false, false, false, false, false] rfl rfl (any_of HT_.out (by kernel_rfl)) (fun _ _ _ h => h) (Or.inl ⟨by rfl, ?_⟩) ?_ ?_
                rotate_left
                · intro w'
                  go_simp
                  with_reducible rfl
                rotate_left
                · simp only [Act.put, List.setIfInBounds_toArray, List.set_cons_zero, List.set_cons_succ, i64_w, i32_w]
                  rfl
                refine pure_ (i := 5) (N := some 47) (v := ?_) (a' := ?_) #[true, true, true, true, true, true, false, false, false, false, false, false, false] rfl rfl (any_of HT_.out (by kernel_rfl)) (fun _ _ _ h => h) (Or.inl ⟨by rfl, ?_⟩) ?_ ?_
                rotate_left
                · intro w'
                  go_simp
                  with_reducible rfl
                rotate_left
                · simp only [Act.put, List.setIfInBounds_toArray, List.set_cons_zero, List.set_cons_succ, i64_w, i32_w]
                  rfl
                refine pure_ (i := 6) (N := some 48) (v := ?_) (a' := ?_) #[true, true, true, true, true, true, true, false, false, false, false, false, false] rfl rfl (any_of HT_.out (by kernel_rfl)) (fun _ _ _ h => h) (Or.inl ⟨by rfl, ?_⟩) ?_ ?_
                rotate_left
                · intro w'
                  go_simp
                  with_reducible rfl
                rotate_left
                · simp only [Act.put, List.setIfInBounds_toArray, List.set_cons_zero, List.set_cons_succ, i64_w, i32_w]
                  rfl
                refine pure_ (i := 7) (N := some 49) (v := ?_) (a' := ?_) #[true, true, true, true, true, true, true, true, false, false, false, false, false] rfl rfl (any_of HT_.out (by kernel_rfl)) (fun _ _ _ h => h) (Or.inl ⟨by rfl, ?_⟩) ?_ ?_
                rotate_left
                · intro w'
                  go_simp
                  with_reducible rfl
                rotate_left
                · simp only [Act.put, List.setIfInBounds_toArray, List.set_cons_zero, List.set_cons_succ, i64_w, i32_w]
                  rfl
                refine pure_ (i := 8) (N := some 50) (v := ?_) (a' := ?_) #[true, true, true, true, true, true, true, true, true, false, false, false, false] rfl rfl (any_of HT_.out (by kernel_rfl)) (fun _ _ _ h => h) (Or.inl ⟨by rfl, ?_⟩) ?_ ?_
                rotate_left
                · intro w'
                  go_simp
                  with_reducible rfl
                rotate_left
                · simp only [Act.put, List.setIfInBounds_toArray, List.set_cons_zero, List.set_cons_succ, i64_w, i32_w]
                  rfl
                refine pure_ (i := 9) (N := some 51) (v := ?_) (a' := ?_) #[true, true, true, true, true, true, true, true, true, true, false, false, false] rfl rfl (any_of HT_.out (by kernel_rfl)) (fun _ _ _ h => h) (Or.inl ⟨by rfl, ?_⟩) ?_ ?_
                rotate_left
                · intro w'
                  go_simp
                  with_reducible rfl
                rotate_left
                · simp only [Act.put, List.setIfInBounds_toArray, List.set_cons_zero, List.set_cons_succ, i64_w, i32_w]
                  rfl
                refine pure_ (i := 10) (N := some 52) (v := ?_) (a' := ?_) #[true, true, true, true, true, true, true, true, true, true, true, false, false] rfl rfl (any_of HT_.out (by kernel_rfl)) (fun _ _ _ h => h) (Or.inl ⟨by rfl, ?_⟩) ?_ ?_
                rotate_left
                · intro w'
                  go_simp
                  with_reducible rfl
                rotate_left
                · simp only [Act.put, List.setIfInBounds_toArray, List.set_cons_zero, List.set_cons_succ, i64_w, i32_w]
                  rfl
                refine pure_ (i := 11) (N := some 53) (v := ?_) (a' := ?_) #[true, true, true, true, true, true, true, true, true, true, true, true, false] rfl rfl (any_of HT_.out (by kernel_rfl)) (fun _ _ _ h => h) (Or.inl ⟨by rfl, ?_⟩) ?_ ?_
                rotate_left
                · intro w'
                  go_simp
                  with_reducible rfl
                rotate_left
                · simp only [Act.put, List.setIfInBounds_toArray, List.set_cons_zero, List.set_cons_succ, i64_w, i32_w]
                  rfl
                refine last_ (i := 12) (N := none) #[true, true, true, true, true, true, true, true, true, true, true, true, true] rfl rfl (one_of HT_.out (by kernel_rfl)) (by decide) (fun K hK => ?_)
                have hs17 : wd.cell? ⟨w.heap.size + 1, 0, none⟩ = some (.int .i64 v0) := hHeld
                have hfs17 := blk_frozen HVd.out 0
                with_reducible refine skip_ (w1 := ?_) ?_ rfl ?_ ?_
                rotate_left
                · rfl
                · go_simp
                  rfl
                refine hK.out _ _ ?_
                clear hK K
                refine done_ (done_of HT_.out (by kernel_rfl)) ?_
                go_wp2
                go_roundw
                case rel => exact ⟨0, d + 1, i + 1, (addD v0 (bt a0 (i : Int))), v1, v2, v3, rfl, congrArg (Value.int .i64) HDW.out, congrArg (Value.int .i64) HIW.out, HI.out, HGO.out, HBN.out, by (with_reducible repeat (first | refine blk_drewN ?_ _ | refine blk_drew ?_)); refine blk_far ?_ (by show w.heap.size ≠ w.heap.size + 1; omega) _; exact HZd.out, by (with_reducible repeat (first | refine blk_drewN ?_ _ | refine blk_drew ?_)); rw [← HDV.out]; exact blk_put HVd.out 0 _ rfl, by (try refine pw_below_drewN ?_ _); exact below_set HBd.out (by show w.heap.size ≤ w.heap.size + 1; omega)⟩
                case measure => exact next_less HI.out HIW.out
              · simp only [reduceIte, Nat.reduceEqDiff, Nat.one_ne_zero, Nat.zero_ne_one, reduceCtorEq] at hgo hbn
                have HGO := Aside0.mk hgo
                have HBN := Aside0.mk hbn
                have hdv := dig_wraps (v := v1) (c := bt a0 (i : Int)) HBD.out.2.2.2.1.1 HBD.out.2.2.2.1.2 H48.out H57.out
                have HDV := Aside0.mk hdv
                clear hgo hbn hdv
                go_wp2_with fail
                have HBd := Aside0.mk (below_drew1 HB.out)
                have HVd := Aside0.mk (blk_drew HV.out)
                have HZd := Aside0.mk (blk_drew HZ.out)
                refine start_ (n := 13) (S := fun w' => w'.cell? ⟨w.heap.size + 1, 1, none⟩ = some (.int .i64 v1)) (ds := [12]) #[false, false, false, false, false, false, false, false, false, false, false, false, false] (by kernel_rfl) rfl rfl ((blk_cell HVd.out 1).trans rfl) (fun hHeld => ?_)
                refine with_tabW donjonref4_Parse.tab11 donjonref4_Parse.bits11 (fun HT_ HW_ => ?_)
                generalize World.drew _ = wd at HBd HVd HZd hHeld ⊢
                refine pure_ (i := 0) (N := some 42) (v := ?_) (a' := ?_) #[true, false, false, false, false, false, false, false, false, false, false, false, false] rfl rfl (any_of HT_.out (by kernel_rfl)) (fun _ _ _ h => h) (Or.inl ⟨by rfl, ?_⟩) ?_ ?_
                rotate_left
                · intro w'
                  go_simp
                  with_reducible rfl
                rotate_left
                · simp only [Act.put, List.setIfInBounds_toArray, List.set_cons_zero, List.set_cons_succ, i64_w, i32_w]
                  rfl
                refine pure_ (i := 1) (N := some 43) (v := ?_) (a' := ?_) #[true, true, false, false, false, false, false, false, false, false, false, false, false] rfl rfl (any_of HT_.out (by kernel_rfl)) (fun _ _ _ h => h) (Or.inl ⟨by rfl, ?_⟩) ?_ ?_
                rotate_left
                · intro w'
                  go_simp
                  with_reducible rfl
                rotate_left
                · simp only [Act.put, List.setIfInBounds_toArray, List.set_cons_zero, List.set_cons_succ, i64_w, i32_w]
                  rfl
                refine pure_ (i := 2) (N := some 44) (v := ?_) (a' := ?_) #[true, true, true, false, false, false, false, false, false, false, false, false, false] rfl rfl (any_of HT_.out (by kernel_rfl)) (fun _ _ _ h => h) (Or.inl ⟨by rfl, ?_⟩) ?_ ?_
                rotate_left
                · intro w'
                  go_simp
                  with_reducible rfl
                rotate_left
                · simp only [Act.put, List.setIfInBounds_toArray, List.set_cons_zero, List.set_cons_succ, i64_w, i32_w]
                  rfl
                refine take_ (i := 3) (N := some 45) (v := ?_) (a' := ?_) #[true, true, true, true, false, false, false, false, false, false, false, false, false] rfl rfl (take_ofW HT_.out HW_.out (by kernel_rfl)) (fun _ _ _ h => h) (Or.inl ⟨by rfl, ?_⟩) hHeld ?_ ?_
                rotate_left
                · rintro w' s0
                  go_simp
                  with_reducible rfl
                rotate_left
                · simp only [Act.put, List.setIfInBounds_toArray, List.set_cons_zero, List.set_cons_succ, i64_w, i32_w]
                  rfl
                refine pure_ (i := 4) (N := some 46) (v := ?_) (a' := ?_) #[true, true, true, true, true, false, false, false, false, false, false, false, false] rfl rfl (any_of HT_.out (by kernel_rfl)) (fun _ _ _ h => h) (Or.inl ⟨by rfl, ?_⟩) ?_ ?_
                rotate_left
                · intro w'
                  go_simp
                  with_reducible rfl
                rotate_left
                · simp only [Act.put, List.setIfInBounds_toArray, List.set_cons_zero, List.set_cons_succ, i64_w, i32_w]
                  rfl
                refine pure_ (i := 5) (N := some 47) (v := ?_) (a' := ?_) #[true, true, true, true, true, true, false, false, false, false, false, false, false] rfl rfl (any_of HT_.out (by kernel_rfl)) (fun _ _ _ h => h) (Or.inl ⟨by rfl, ?_⟩) ?_ ?_
                rotate_left
                · intro w'
                  go_simp
                  with_reducible rfl
                rotate_left
                · simp only [Act.put, List.setIfInBounds_toArray, List.set_cons_zero, List.set_cons_succ, i64_w, i32_w]
                  rfl
                refine pure_ (i := 6) (N := some 48) (v := ?_) (a' := ?_) #[true, true, true, true, true, true, true, false, false, false, false, false, false] rfl rfl (any_of HT_.out (by kernel_rfl)) (fun _ _ _ h => h) (Or.inl ⟨by rfl, ?_⟩) ?_ ?_
                rotate_left
                · intro w'
                  go_simp
                  with_reducible rfl
                rotate_left
                · simp only [Act.put, List.setIfInBounds_toArray, List.set_cons_zero, List.set_cons_succ, i64_w, i32_w]
                  rfl
                refine pure_ (i := 7) (N := some 49) (v := ?_) (a' := ?_) #[true, true, true, true, true, true, true, true, false, false, false, false, false] rfl rfl (any_of HT_.out (by kernel_rfl)) (fun _ _ _ h => h) (Or.inl ⟨by rfl, ?_⟩) ?_ ?_
                rotate_left
                · intro w'
                  go_simp
                  with_reducible rfl
                rotate_left
                · simp only [Act.put, List.setIfInBounds_toArray, List.set_cons_zero, List.set_cons_succ, i64_w, i32_w]
                  rfl
                refine pure_ (i := 8) (N := some 50) (v := ?_) (a' := ?_) #[true, true, true, true, true, true, true, true, true, false, false, false, false] rfl rfl (any_of HT_.out (by kernel_rfl)) (fun _ _ _ h => h) (Or.inl ⟨by rfl, ?_⟩) ?_ ?_
                rotate_left
                · intro w'
                  go_simp
                  with_reducible rfl
                rotate_left
                · simp only [Act.put, List.setIfInBounds_toArray, List.set_cons_zero, List.set_cons_succ, i64_w, i32_w]
                  rfl
                refine pure_ (i := 9) (N := some 51) (v := ?_) (a' := ?_) #[true, true, true, true, true, true, true, true, true, true, false, false, false] rfl rfl (any_of HT_.out (by kernel_rfl)) (fun _ _ _ h => h) (Or.inl ⟨by rfl, ?_⟩) ?_ ?_
                rotate_left
                · intro w'
                  go_simp
                  with_reducible rfl
                rotate_left
                · simp only [Act.put, List.setIfInBounds_toArray, List.set_cons_zero, List.set_cons_succ, i64_w, i32_w]
                  rfl
                refine pure_ (i := 10) (N := some 52) (v := ?_) (a' := ?_) #[true, true, true, true, true, true, true, true, true, true, true, false, false] rfl rfl (any_of HT_.out (by kernel_rfl)) (fun _ _ _ h => h) (Or.inl ⟨by rfl, ?_⟩) ?_ ?_
                rotate_left
                · intro w'
                  go_simp
                  with_reducible rfl
                rotate_left
                · simp only [Act.put, List.setIfInBounds_toArray, List.set_cons_zero, List.set_cons_succ, i64_w, i32_w]
                  rfl
                refine pure_ (i := 11) (N := some 53) (v := ?_) (a' := ?_) #[true, true, true, true, true, true, true, true, true, true, true, true, false] rfl rfl (any_of HT_.out (by kernel_rfl)) (fun _ _ _ h => h) (Or.inl ⟨by rfl, ?_⟩) ?_ ?_
                rotate_left
                · intro w'
                  go_simp
                  with_reducible rfl
                rotate_left
                · simp only [Act.put, List.setIfInBounds_toArray, List.set_cons_zero, List.set_cons_succ, i64_w, i32_w]
                  rfl
                refine last_ (i := 12) (N := none) #[true, true, true, true, true, true, true, true, true, true, true, true, true] rfl rfl (one_of HT_.out (by kernel_rfl)) (by decide) (fun K hK => ?_)
                have hs17 : wd.cell? ⟨w.heap.size + 1, 1, none⟩ = some (.int .i64 v1) := hHeld
                have hfs17 := blk_frozen HVd.out 1
                with_reducible refine skip_ (w1 := ?_) ?_ rfl ?_ ?_
                rotate_left
                · rfl
                · go_simp
                  rfl
                refine hK.out _ _ ?_
                clear hK K
                refine done_ (done_of HT_.out (by kernel_rfl)) ?_
                go_wp2
                go_roundw
                case rel => exact ⟨1, d + 1, i + 1, v0, (addD v1 (bt a0 (i : Int))), v2, v3, rfl, congrArg (Value.int .i64) HDW.out, congrArg (Value.int .i64) HIW.out, HI.out, HGO.out, HBN.out, by (with_reducible repeat (first | refine blk_drewN ?_ _ | refine blk_drew ?_)); refine blk_far ?_ (by show w.heap.size ≠ w.heap.size + 1; omega) _; exact HZd.out, by (with_reducible repeat (first | refine blk_drewN ?_ _ | refine blk_drew ?_)); rw [← HDV.out]; exact blk_put HVd.out 1 _ rfl, by (try refine pw_below_drewN ?_ _); exact below_set HBd.out (by show w.heap.size ≤ w.heap.size + 1; omega)⟩
                case measure => exact next_less HI.out HIW.out
              · simp only [reduceIte, Nat.reduceEqDiff, Nat.one_ne_zero, Nat.zero_ne_one, reduceCtorEq] at hgo hbn
                have HGO := Aside0.mk hgo
                have HBN := Aside0.mk hbn
                have hdv := dig_wraps (v := v2) (c := bt a0 (i : Int)) HBD.out.2.2.2.2.1.1 HBD.out.2.2.2.2.1.2 H48.out H57.out
                have HDV := Aside0.mk hdv
                clear hgo hbn hdv
                go_wp2_with fail
                have HBd := Aside0.mk (below_drew1 HB.out)
                have HVd := Aside0.mk (blk_drew HV.out)
                have HZd := Aside0.mk (blk_drew HZ.out)
                refine start_ (n := 13) (S := fun w' => w'.cell? ⟨w.heap.size + 1, 2, none⟩ = some (.int .i64 v2)) (ds := [12]) #[false, false, false, false, false, false, false, false, false, false, false, false, false] (by kernel_rfl) rfl rfl ((blk_cell HVd.out 2).trans rfl) (fun hHeld => ?_)
                refine with_tabW donjonref4_Parse.tab11 donjonref4_Parse.bits11 (fun HT_ HW_ => ?_)
                generalize World.drew _ = wd at HBd HVd HZd hHeld ⊢
                refine pure_ (i := 0) (N := some 42) (v := ?_) (a' := ?_) #[true, false, false, false, false, false, false, false, false, false, false, false, false] rfl rfl (any_of HT_.out (by kernel_rfl)) (fun _ _ _ h => h) (Or.inl ⟨by rfl, ?_⟩) ?_ ?_
                rotate_left
                · intro w'
                  go_simp
                  with_reducible rfl
                rotate_left
                · simp only [Act.put, List.setIfInBounds_toArray, List.set_cons_zero, List.set_cons_succ, i64_w, i32_w]
                  rfl
                refine pure_ (i := 1) (N := some 43) (v := ?_) (a' := ?_) #[true, true, false, false, false, false, false, false, false, false, false, false, false] rfl rfl (any_of HT_.out (by kernel_rfl)) (fun _ _ _ h => h) (Or.inl ⟨by rfl, ?_⟩) ?_ ?_
                rotate_left
                · intro w'
                  go_simp
                  with_reducible rfl
                rotate_left
                · simp only [Act.put, List.setIfInBounds_toArray, List.set_cons_zero, List.set_cons_succ, i64_w, i32_w]
                  rfl
                refine pure_ (i := 2) (N := some 44) (v := ?_) (a' := ?_) #[true, true, true, false, false, false, false, false, false, false, false, false, false] rfl rfl (any_of HT_.out (by kernel_rfl)) (fun _ _ _ h => h) (Or.inl ⟨by rfl, ?_⟩) ?_ ?_
                rotate_left
                · intro w'
                  go_simp
                  with_reducible rfl
                rotate_left
                · simp only [Act.put, List.setIfInBounds_toArray, List.set_cons_zero, List.set_cons_succ, i64_w, i32_w]
                  rfl
                refine take_ (i := 3) (N := some 45) (v := ?_) (a' := ?_) #[true, true, true, true, false, false, false, false, false, false, false, false, false] rfl rfl (take_ofW HT_.out HW_.out (by kernel_rfl)) (fun _ _ _ h => h) (Or.inl ⟨by rfl, ?_⟩) hHeld ?_ ?_
                rotate_left
                · rintro w' s0
                  go_simp
                  with_reducible rfl
                rotate_left
                · simp only [Act.put, List.setIfInBounds_toArray, List.set_cons_zero, List.set_cons_succ, i64_w, i32_w]
                  rfl
                refine pure_ (i := 4) (N := some 46) (v := ?_) (a' := ?_) #[true, true, true, true, true, false, false, false, false, false, false, false, false] rfl rfl (any_of HT_.out (by kernel_rfl)) (fun _ _ _ h => h) (Or.inl ⟨by rfl, ?_⟩) ?_ ?_
                rotate_left
                · intro w'
                  go_simp
                  with_reducible rfl
                rotate_left
                · simp only [Act.put, List.setIfInBounds_toArray, List.set_cons_zero, List.set_cons_succ, i64_w, i32_w]
                  rfl
                refine pure_ (i := 5) (N := some 47) (v := ?_) (a' := ?_) #[true, true, true, true, true, true, false, false, false, false, false, false, false] rfl rfl (any_of HT_.out (by kernel_rfl)) (fun _ _ _ h => h) (Or.inl ⟨by rfl, ?_⟩) ?_ ?_
                rotate_left
                · intro w'
                  go_simp
                  with_reducible rfl
                rotate_left
                · simp only [Act.put, List.setIfInBounds_toArray, List.set_cons_zero, List.set_cons_succ, i64_w, i32_w]
                  rfl
                refine pure_ (i := 6) (N := some 48) (v := ?_) (a' := ?_) #[true, true, true, true, true, true, true, false, false, false, false, false, false] rfl rfl (any_of HT_.out (by kernel_rfl)) (fun _ _ _ h => h) (Or.inl ⟨by rfl, ?_⟩) ?_ ?_
                rotate_left
                · intro w'
                  go_simp
                  with_reducible rfl
                rotate_left
                · simp only [Act.put, List.setIfInBounds_toArray, List.set_cons_zero, List.set_cons_succ, i64_w, i32_w]
                  rfl
                refine pure_ (i := 7) (N := some 49) (v := ?_) (a' := ?_) #[true, true, true, true, true, true, true, true, false, false, false, false, false] rfl rfl (any_of HT_.out (by kernel_rfl)) (fun _ _ _ h => h) (Or.inl ⟨by rfl, ?_⟩) ?_ ?_
                rotate_left
                · intro w'
                  go_simp
                  with_reducible rfl
                rotate_left
                · simp only [Act.put, List.setIfInBounds_toArray, List.set_cons_zero, List.set_cons_succ, i64_w, i32_w]
                  rfl
                refine pure_ (i := 8) (N := some 50) (v := ?_) (a' := ?_) #[true, true, true, true, true, true, true, true, true, false, false, false, false] rfl rfl (any_of HT_.out (by kernel_rfl)) (fun _ _ _ h => h) (Or.inl ⟨by rfl, ?_⟩) ?_ ?_
                rotate_left
                · intro w'
                  go_simp
                  with_reducible rfl
                rotate_left
                · simp only [Act.put, List.setIfInBounds_toArray, List.set_cons_zero, List.set_cons_succ, i64_w, i32_w]
                  rfl
                refine pure_ (i := 9) (N := some 51) (v := ?_) (a' := ?_) #[true, true, true, true, true, true, true, true, true, true, false, false, false] rfl rfl (any_of HT_.out (by kernel_rfl)) (fun _ _ _ h => h) (Or.inl ⟨by rfl, ?_⟩) ?_ ?_
                rotate_left
                · intro w'
                  go_simp
                  with_reducible rfl
                rotate_left
                · simp only [Act.put, List.setIfInBounds_toArray, List.set_cons_zero, List.set_cons_succ, i64_w, i32_w]
                  rfl
                refine pure_ (i := 10) (N := some 52) (v := ?_) (a' := ?_) #[true, true, true, true, true, true, true, true, true, true, true, false, false] rfl rfl (any_of HT_.out (by kernel_rfl)) (fun _ _ _ h => h) (Or.inl ⟨by rfl, ?_⟩) ?_ ?_
                rotate_left
                · intro w'
                  go_simp
                  with_reducible rfl
                rotate_left
                · simp only [Act.put, List.setIfInBounds_toArray, List.set_cons_zero, List.set_cons_succ, i64_w, i32_w]
                  rfl
                refine pure_ (i := 11) (N := some 53) (v := ?_) (a' := ?_) #[true, true, true, true, true, true, true, true, true, true, true, true, false] rfl rfl (any_of HT_.out (by kernel_rfl)) (fun _ _ _ h => h) (Or.inl ⟨by rfl, ?_⟩) ?_ ?_
                rotate_left
                · intro w'
                  go_simp
                  with_reducible rfl
                rotate_left
                · simp only [Act.put, List.setIfInBounds_toArray, List.set_cons_zero, List.set_cons_succ, i64_w, i32_w]
                  rfl
                refine last_ (i := 12) (N := none) #[true, true, true, true, true, true, true, true, true, true, true, true, true] rfl rfl (one_of HT_.out (by kernel_rfl)) (by decide) (fun K hK => ?_)
                have hs17 : wd.cell? ⟨w.heap.size + 1, 2, none⟩ = some (.int .i64 v2) := hHeld
                have hfs17 := blk_frozen HVd.out 2
                with_reducible refine skip_ (w1 := ?_) ?_ rfl ?_ ?_
                rotate_left
                · rfl
                · go_simp
                  rfl
                refine hK.out _ _ ?_
                clear hK K
                refine done_ (done_of HT_.out (by kernel_rfl)) ?_
                go_wp2
                go_roundw
                case rel => exact ⟨2, d + 1, i + 1, v0, v1, (addD v2 (bt a0 (i : Int))), v3, rfl, congrArg (Value.int .i64) HDW.out, congrArg (Value.int .i64) HIW.out, HI.out, HGO.out, HBN.out, by (with_reducible repeat (first | refine blk_drewN ?_ _ | refine blk_drew ?_)); refine blk_far ?_ (by show w.heap.size ≠ w.heap.size + 1; omega) _; exact HZd.out, by (with_reducible repeat (first | refine blk_drewN ?_ _ | refine blk_drew ?_)); rw [← HDV.out]; exact blk_put HVd.out 2 _ rfl, by (try refine pw_below_drewN ?_ _); exact below_set HBd.out (by show w.heap.size ≤ w.heap.size + 1; omega)⟩
                case measure => exact next_less HI.out HIW.out
              · simp only [reduceIte, Nat.reduceEqDiff, Nat.one_ne_zero, Nat.zero_ne_one, reduceCtorEq] at hgo hbn
                have HGO := Aside0.mk hgo
                have HBN := Aside0.mk hbn
                have hdv := dig_wraps (v := v3) (c := bt a0 (i : Int)) HBD.out.2.2.2.2.2.1.1 HBD.out.2.2.2.2.2.1.2 H48.out H57.out
                have HDV := Aside0.mk hdv
                clear hgo hbn hdv
                go_wp2_with fail
                have HBd := Aside0.mk (below_drew1 HB.out)
                have HVd := Aside0.mk (blk_drew HV.out)
                have HZd := Aside0.mk (blk_drew HZ.out)
                refine start_ (n := 13) (S := fun w' => w'.cell? ⟨w.heap.size + 1, 3, none⟩ = some (.int .i64 v3)) (ds := [12]) #[false, false, false, false, false, false, false, false, false, false, false, false, false] (by kernel_rfl) rfl rfl ((blk_cell HVd.out 3).trans rfl) (fun hHeld => ?_)
                refine with_tabW donjonref4_Parse.tab11 donjonref4_Parse.bits11 (fun HT_ HW_ => ?_)
                generalize World.drew _ = wd at HBd HVd HZd hHeld ⊢
                refine pure_ (i := 0) (N := some 42) (v := ?_) (a' := ?_) #[true, false, false, false, false, false, false, false, false, false, false, false, false] rfl rfl (any_of HT_.out (by kernel_rfl)) (fun _ _ _ h => h) (Or.inl ⟨by rfl, ?_⟩) ?_ ?_
                rotate_left
                · intro w'
                  go_simp
                  with_reducible rfl
                rotate_left
                · simp only [Act.put, List.setIfInBounds_toArray, List.set_cons_zero, List.set_cons_succ, i64_w, i32_w]
                  rfl
                refine pure_ (i := 1) (N := some 43) (v := ?_) (a' := ?_) #[true, true, false, false, false, false, false, false, false, false, false, false, false] rfl rfl (any_of HT_.out (by kernel_rfl)) (fun _ _ _ h => h) (Or.inl ⟨by rfl, ?_⟩) ?_ ?_
                rotate_left
                · intro w'
                  go_simp
                  with_reducible rfl
                rotate_left
                · simp only [Act.put, List.setIfInBounds_toArray, List.set_cons_zero, List.set_cons_succ, i64_w, i32_w]
                  rfl
                refine pure_ (i := 2) (N := some 44) (v := ?_) (a' := ?_) #[true, true, true, false, false, false, false, false, false, false, false, false, false] rfl rfl (any_of HT_.out (by kernel_rfl)) (fun _ _ _ h => h) (Or.inl ⟨by rfl, ?_⟩) ?_ ?_
                rotate_left
                · intro w'
                  go_simp
                  with_reducible rfl
                rotate_left
                · simp only [Act.put, List.setIfInBounds_toArray, List.set_cons_zero, List.set_cons_succ, i64_w, i32_w]
                  rfl
                refine take_ (i := 3) (N := some 45) (v := ?_) (a' := ?_) #[true, true, true, true, false, false, false, false, false, false, false, false, false] rfl rfl (take_ofW HT_.out HW_.out (by kernel_rfl)) (fun _ _ _ h => h) (Or.inl ⟨by rfl, ?_⟩) hHeld ?_ ?_
                rotate_left
                · rintro w' s0
                  go_simp
                  with_reducible rfl
                rotate_left
                · simp only [Act.put, List.setIfInBounds_toArray, List.set_cons_zero, List.set_cons_succ, i64_w, i32_w]
                  rfl
                refine pure_ (i := 4) (N := some 46) (v := ?_) (a' := ?_) #[true, true, true, true, true, false, false, false, false, false, false, false, false] rfl rfl (any_of HT_.out (by kernel_rfl)) (fun _ _ _ h => h) (Or.inl ⟨by rfl, ?_⟩) ?_ ?_
                rotate_left
                · intro w'
                  go_simp
                  with_reducible rfl
                rotate_left
                · simp only [Act.put, List.setIfInBounds_toArray, List.set_cons_zero, List.set_cons_succ, i64_w, i32_w]
                  rfl
                refine pure_ (i := 5) (N := some 47) (v := ?_) (a' := ?_) #[true, true, true, true, true, true, false, false, false, false, false, false, false] rfl rfl (any_of HT_.out (by kernel_rfl)) (fun _ _ _ h => h) (Or.inl ⟨by rfl, ?_⟩) ?_ ?_
                rotate_left
                · intro w'
                  go_simp
                  with_reducible rfl
                rotate_left
                · simp only [Act.put, List.setIfInBounds_toArray, List.set_cons_zero, List.set_cons_succ, i64_w, i32_w]
                  rfl
                refine pure_ (i := 6) (N := some 48) (v := ?_) (a' := ?_) #[true, true, true, true, true, true, true, false, false, false, false, false, false] rfl rfl (any_of HT_.out (by kernel_rfl)) (fun _ _ _ h => h) (Or.inl ⟨by rfl, ?_⟩) ?_ ?_
                rotate_left
                · intro w'
                  go_simp
                  with_reducible rfl
                rotate_left
                · simp only [Act.put, List.setIfInBounds_toArray, List.set_cons_zero, List.set_cons_succ, i64_w, i32_w]
                  rfl
                refine pure_ (i := 7) (N := some 49) (v := ?_) (a' := ?_) #[true, true, true, true, true, true, true, true, false, false, false, false, false] rfl rfl (any_of HT_.out (by kernel_rfl)) (fun _ _ _ h => h) (Or.inl ⟨by rfl, ?_⟩) ?_ ?_
                rotate_left
                · intro w'
                  go_simp
                  with_reducible rfl
                rotate_left
                · simp only [Act.put, List.setIfInBounds_toArray, List.set_cons_zero, List.set_cons_succ, i64_w, i32_w]
                  rfl
                refine pure_ (i := 8) (N := some 50) (v := ?_) (a' := ?_) #[true, true, true, true, true, true, true, true, true, false, false, false, false] rfl rfl (any_of HT_.out (by kernel_rfl)) (fun _ _ _ h => h) (Or.inl ⟨by rfl, ?_⟩) ?_ ?_
                rotate_left
                · intro w'
                  go_simp
                  with_reducible rfl
                rotate_left
                · simp only [Act.put, List.setIfInBounds_toArray, List.set_cons_zero, List.set_cons_succ, i64_w, i32_w]
                  rfl
                refine pure_ (i := 9) (N := some 51) (v := ?_) (a' := ?_) #[true, true, true, true, true, true, true, true, true, true, false, false, false] rfl rfl (any_of HT_.out (by kernel_rfl)) (fun _ _ _ h => h) (Or.inl ⟨by rfl, ?_⟩) ?_ ?_
                rotate_left
                · intro w'
                  go_simp
                  with_reducible rfl
                rotate_left
                · simp only [Act.put, List.setIfInBounds_toArray, List.set_cons_zero, List.set_cons_succ, i64_w, i32_w]
                  rfl
                refine pure_ (i := 10) (N := some 52) (v := ?_) (a' := ?_) #[true, true, true, true, true, true, true, true, true, true, true, false, false] rfl rfl (any_of HT_.out (by kernel_rfl)) (fun _ _ _ h => h) (Or.inl ⟨by rfl, ?_⟩) ?_ ?_
                rotate_left
                · intro w'
                  go_simp
                  with_reducible rfl
                rotate_left
                · simp only [Act.put, List.setIfInBounds_toArray, List.set_cons_zero, List.set_cons_succ, i64_w, i32_w]
                  rfl
                refine pure_ (i := 11) (N := some 53) (v := ?_) (a' := ?_) #[true, true, true, true, true, true, true, true, true, true, true, true, false] rfl rfl (any_of HT_.out (by kernel_rfl)) (fun _ _ _ h => h) (Or.inl ⟨by rfl, ?_⟩) ?_ ?_
                rotate_left
                · intro w'
                  go_simp
                  with_reducible rfl
                rotate_left
                · simp only [Act.put, List.setIfInBounds_toArray, List.set_cons_zero, List.set_cons_succ, i64_w, i32_w]
                  rfl
                refine last_ (i := 12) (N := none) #[true, true, true, true, true, true, true, true, true, true, true, true, true] rfl rfl (one_of HT_.out (by kernel_rfl)) (by decide) (fun K hK => ?_)
                have hs17 : wd.cell? ⟨w.heap.size + 1, 3, none⟩ = some (.int .i64 v3) := hHeld
                have hfs17 := blk_frozen HVd.out 3
                with_reducible refine skip_ (w1 := ?_) ?_ rfl ?_ ?_
                rotate_left
                · rfl
                · go_simp
                  rfl
                refine hK.out _ _ ?_
                clear hK K
                refine done_ (done_of HT_.out (by kernel_rfl)) ?_
                go_wp2
                go_roundw
                case rel => exact ⟨3, d + 1, i + 1, v0, v1, v2, (addD v3 (bt a0 (i : Int))), rfl, congrArg (Value.int .i64) HDW.out, congrArg (Value.int .i64) HIW.out, HI.out, HGO.out, HBN.out, by (with_reducible repeat (first | refine blk_drewN ?_ _ | refine blk_drew ?_)); refine blk_far ?_ (by show w.heap.size ≠ w.heap.size + 1; omega) _; exact HZd.out, by (with_reducible repeat (first | refine blk_drewN ?_ _ | refine blk_drew ?_)); rw [← HDV.out]; exact blk_put HVd.out 3 _ rfl, by (try refine pw_below_drewN ?_ _); exact below_set HBd.out (by show w.heap.size ≤ w.heap.size + 1; omega)⟩
                case measure => exact next_less HI.out HIW.out
            · have ed3 : decide ((d : Int) < 3) = false := decide_eq_false (by omega)
              rw [if_neg (fun h => hd h.2)] at hgo
              have HGO := Aside0.mk hgo
              clear hgo hlt hi
              have g0 : wr.cell? ⟨w.heap.size, 0, none⟩ = some (.int .i64 0) := (blk_cell HZ.out 0).trans rfl
              have g1 : wr.cell? ⟨w.heap.size, 1, none⟩ = some (.int .i64 0) := (blk_cell HZ.out 1).trans rfl
              have g2 : wr.cell? ⟨w.heap.size, 2, none⟩ = some (.int .i64 0) := (blk_cell HZ.out 2).trans rfl
              have g3 : wr.cell? ⟨w.heap.size, 3, none⟩ = some (.int .i64 0) := (blk_cell HZ.out 3).trans rfl
              have k0 := blk_frozen HZ.out 0
              have k1 := blk_frozen HZ.out 1
              have k2 := blk_frozen HZ.out 2
              have k3 := blk_frozen HZ.out 3
              go_wp2
              refine bodyPost_ret (results_ct rfl _ _ w.heap.size 23 #[.int .i64 0, .int .i64 0, .int .i64 0, .int .i64 0] (0, 0) _ rfl (by refine blk_put (cs := #[.int .i64 0, .int .i64 0, .int .i64 0, .int .i64 0]) ?_ 3 _ rfl; refine blk_put (cs := #[.int .i64 0, .int .i64 0, .int .i64 0, .int .i64 0]) ?_ 2 _ rfl; refine blk_put (cs := #[.int .i64 0, .int .i64 0, .int .i64 0, .int .i64 0]) ?_ 1 _ rfl; refine blk_put (cs := #[.int .i64 0, .int .i64 0, .int .i64 0, .int .i64 0]) ?_ 0 _ rfl; (with_reducible repeat (first | refine blk_drewN ?_ _ | refine blk_drew ?_)); exact HZ.out) Tryd.underlying23 rfl (by kernel_rfl)) rfl ?_
              have hq := HR.out
              rw [← HGO.out] at hq
              simp only [Option.some.injEq, Prod.mk.injEq] at hq
              obtain ⟨rfl, rfl, rfl, rfl, rfl⟩ := hq
              exact ⟨rfl, below_set (below_set (below_set (below_set (by first | exact HB.out | exact pw_below_drewN HB.out _) (Nat.le_refl _)) (Nat.le_refl _)) (Nat.le_refl _)) (Nat.le_refl _)⟩
          · have e57 : decide (bt a0 (i : Int) ≤ 57) = false := decide_eq_false h57
            rw [if_neg (fun h => h57 h.1.2)] at hgo
            have HGO := Aside0.mk hgo
            clear hgo hlt hi
            have g0 : wr.cell? ⟨w.heap.size, 0, none⟩ = some (.int .i64 0) := (blk_cell HZ.out 0).trans rfl
            have g1 : wr.cell? ⟨w.heap.size, 1, none⟩ = some (.int .i64 0) := (blk_cell HZ.out 1).trans rfl
            have g2 : wr.cell? ⟨w.heap.size, 2, none⟩ = some (.int .i64 0) := (blk_cell HZ.out 2).trans rfl
            have g3 : wr.cell? ⟨w.heap.size, 3, none⟩ = some (.int .i64 0) := (blk_cell HZ.out 3).trans rfl
            have k0 := blk_frozen HZ.out 0
            have k1 := blk_frozen HZ.out 1
            have k2 := blk_frozen HZ.out 2
            have k3 := blk_frozen HZ.out 3
            go_wp2
            refine bodyPost_ret (results_ct rfl _ _ w.heap.size 23 #[.int .i64 0, .int .i64 0, .int .i64 0, .int .i64 0] (0, 0) _ rfl (by refine blk_put (cs := #[.int .i64 0, .int .i64 0, .int .i64 0, .int .i64 0]) ?_ 3 _ rfl; refine blk_put (cs := #[.int .i64 0, .int .i64 0, .int .i64 0, .int .i64 0]) ?_ 2 _ rfl; refine blk_put (cs := #[.int .i64 0, .int .i64 0, .int .i64 0, .int .i64 0]) ?_ 1 _ rfl; refine blk_put (cs := #[.int .i64 0, .int .i64 0, .int .i64 0, .int .i64 0]) ?_ 0 _ rfl; (with_reducible repeat (first | refine blk_drewN ?_ _ | refine blk_drew ?_)); exact HZ.out) Tryd.underlying23 rfl (by kernel_rfl)) rfl ?_
            have hq := HR.out
            rw [← HGO.out] at hq
            simp only [Option.some.injEq, Prod.mk.injEq] at hq
            obtain ⟨rfl, rfl, rfl, rfl, rfl⟩ := hq
            exact ⟨rfl, below_set (below_set (below_set (below_set (by first | exact HB.out | exact pw_below_drewN HB.out _) (Nat.le_refl _)) (Nat.le_refl _)) (Nat.le_refl _)) (Nat.le_refl _)⟩
        · have e48 : decide (48 ≤ bt a0 (i : Int)) = false := decide_eq_false h48
          rw [if_neg (fun h => h48 h.1.1)] at hgo
          have HGO := Aside0.mk hgo
          clear hgo hlt hi
          have g0 : wr.cell? ⟨w.heap.size, 0, none⟩ = some (.int .i64 0) := (blk_cell HZ.out 0).trans rfl
          have g1 : wr.cell? ⟨w.heap.size, 1, none⟩ = some (.int .i64 0) := (blk_cell HZ.out 1).trans rfl
          have g2 : wr.cell? ⟨w.heap.size, 2, none⟩ = some (.int .i64 0) := (blk_cell HZ.out 2).trans rfl
          have g3 : wr.cell? ⟨w.heap.size, 3, none⟩ = some (.int .i64 0) := (blk_cell HZ.out 3).trans rfl
          have k0 := blk_frozen HZ.out 0
          have k1 := blk_frozen HZ.out 1
          have k2 := blk_frozen HZ.out 2
          have k3 := blk_frozen HZ.out 3
          go_wp2
          refine bodyPost_ret (results_ct rfl _ _ w.heap.size 23 #[.int .i64 0, .int .i64 0, .int .i64 0, .int .i64 0] (0, 0) _ rfl (by refine blk_put (cs := #[.int .i64 0, .int .i64 0, .int .i64 0, .int .i64 0]) ?_ 3 _ rfl; refine blk_put (cs := #[.int .i64 0, .int .i64 0, .int .i64 0, .int .i64 0]) ?_ 2 _ rfl; refine blk_put (cs := #[.int .i64 0, .int .i64 0, .int .i64 0, .int .i64 0]) ?_ 1 _ rfl; refine blk_put (cs := #[.int .i64 0, .int .i64 0, .int .i64 0, .int .i64 0]) ?_ 0 _ rfl; (with_reducible repeat (first | refine blk_drewN ?_ _ | refine blk_drew ?_)); exact HZ.out) Tryd.underlying23 rfl (by kernel_rfl)) rfl ?_
          have hq := HR.out
          rw [← HGO.out] at hq
          simp only [Option.some.injEq, Prod.mk.injEq] at hq
          obtain ⟨rfl, rfl, rfl, rfl, rfl⟩ := hq
          exact ⟨rfl, below_set (below_set (below_set (below_set (by first | exact HB.out | exact pw_below_drewN HB.out _) (Nat.le_refl _)) (Nat.le_refl _)) (Nat.le_refl _)) (Nat.le_refl _)⟩
    · obtain rfl : i = a0.size := by omega
      have t1 : decide ((a0.size : Int) < (a0.size : Int)) = false := decide_eq_false (by omega)
      rw [List.drop_of_length_le (by rw [bytesOf_length]; exact Nat.le_refl _), goL] at hgo
      subst hgo
      have hr := HR.out
      dsimp only at hr
      clear hi hlt HR HBD
      have c0 : wr.cell? ⟨w.heap.size + 1, 0, none⟩ = some (.int .i64 v0) := (blk_cell HV.out 0).trans rfl
      have c1 : wr.cell? ⟨w.heap.size + 1, 1, none⟩ = some (.int .i64 v1) := (blk_cell HV.out 1).trans rfl
      have c2 : wr.cell? ⟨w.heap.size + 1, 2, none⟩ = some (.int .i64 v2) := (blk_cell HV.out 2).trans rfl
      have c3 : wr.cell? ⟨w.heap.size + 1, 3, none⟩ = some (.int .i64 v3) := (blk_cell HV.out 3).trans rfl
      have H0 := HZ
      clear HV HZ
      have hck := donjonref4_Parse.chk v0 v1 v2 v3
      by_cases hok : labOk v0 v1 v2 v3 = true
      · rw [if_pos hok] at hck
        rw [if_pos hok] at hr
        obtain ⟨t, htx, hr⟩ := Option.bind_eq_some_iff.1 hr
        have HCK := Aside0.mk hck
        have HTX := Aside0.mk htx
        clear hck htx hok
        by_cases he : t.toList = a0.toList
        · rw [if_pos he] at hr
          have HR := Aside0.mk hr
          have e1 : (t.toList == a0.toList) = true := beq_iff_eq.2 he
          have e2 : (t.toList != a0.toList) = false := bne_eq_false_iff_eq.2 he
          clear hr he
          go_wp2_with (first | (go_at_call 26; refine (donjonref4_Check.calls v0 v1 v2 v3 _ _ HCK.out).mono ?_; rintro e w4 ⟨rfl, hb4⟩; have HB4 := Aside0.mk hb4; clear hb4; have d0 : w4.cell? ⟨wr.heap.size, 0, none⟩ = some (.int .i64 v0) := (blk_cell (blk_below (blk_new wr (.cells #[.int .i64 v0, .int .i64 v1, .int .i64 v2, .int .i64 v3] 23)) HB4.out) 0).trans rfl; have d1 : w4.cell? ⟨wr.heap.size, 1, none⟩ = some (.int .i64 v1) := (blk_cell (blk_below (blk_new wr (.cells #[.int .i64 v0, .int .i64 v1, .int .i64 v2, .int .i64 v3] 23)) HB4.out) 1).trans rfl; have d2 : w4.cell? ⟨wr.heap.size, 2, none⟩ = some (.int .i64 v2) := (blk_cell (blk_below (blk_new wr (.cells #[.int .i64 v0, .int .i64 v1, .int .i64 v2, .int .i64 v3] 23)) HB4.out) 2).trans rfl; have d3 : w4.cell? ⟨wr.heap.size, 3, none⟩ = some (.int .i64 v3) := (blk_cell (blk_below (blk_new wr (.cells #[.int .i64 v0, .int .i64 v1, .int .i64 v2, .int .i64 v3] 23)) HB4.out) 3).trans rfl; have g0 : w4.cell? ⟨w.heap.size, 0, none⟩ = some (.int .i64 0) := (blk_cell (blk_below (blk_alloc H0.out _) HB4.out) 0).trans rfl; have g1 : w4.cell? ⟨w.heap.size, 1, none⟩ = some (.int .i64 0) := (blk_cell (blk_below (blk_alloc H0.out _) HB4.out) 1).trans rfl; have g2 : w4.cell? ⟨w.heap.size, 2, none⟩ = some (.int .i64 0) := (blk_cell (blk_below (blk_alloc H0.out _) HB4.out) 2).trans rfl; have g3 : w4.cell? ⟨w.heap.size, 3, none⟩ = some (.int .i64 0) := (blk_cell (blk_below (blk_alloc H0.out _) HB4.out) 3).trans rfl; have k0 : w4.frozen? ⟨w.heap.size, 0, none⟩ = false := blk_frozen (blk_below (blk_alloc H0.out _) HB4.out) 0; have k1 : w4.frozen? ⟨w.heap.size, 1, none⟩ = false := blk_frozen (blk_below (blk_alloc H0.out _) HB4.out) 1; have k2 : w4.frozen? ⟨w.heap.size, 2, none⟩ = false := blk_frozen (blk_below (blk_alloc H0.out _) HB4.out) 2; have k3 : w4.frozen? ⟨w.heap.size, 3, none⟩ = false := blk_frozen (blk_below (blk_alloc H0.out _) HB4.out) 3) | (go_at_call 30; refine (donjonref4_Text.calls k v0 v1 v2 v3 _ _ HTX.out).mono ?_; rintro e w5 ⟨rfl, hb5⟩; have HB5 := Aside0.mk hb5; clear hb5; have d0 : w5.cell? ⟨wr.heap.size, 0, none⟩ = some (.int .i64 v0) := (blk_cell (blk_below (blk_below (blk_new wr (.cells #[.int .i64 v0, .int .i64 v1, .int .i64 v2, .int .i64 v3] 23)) HB4.out) HB5.out) 0).trans rfl; have d1 : w5.cell? ⟨wr.heap.size, 1, none⟩ = some (.int .i64 v1) := (blk_cell (blk_below (blk_below (blk_new wr (.cells #[.int .i64 v0, .int .i64 v1, .int .i64 v2, .int .i64 v3] 23)) HB4.out) HB5.out) 1).trans rfl; have d2 : w5.cell? ⟨wr.heap.size, 2, none⟩ = some (.int .i64 v2) := (blk_cell (blk_below (blk_below (blk_new wr (.cells #[.int .i64 v0, .int .i64 v1, .int .i64 v2, .int .i64 v3] 23)) HB4.out) HB5.out) 2).trans rfl; have d3 : w5.cell? ⟨wr.heap.size, 3, none⟩ = some (.int .i64 v3) := (blk_cell (blk_below (blk_below (blk_new wr (.cells #[.int .i64 v0, .int .i64 v1, .int .i64 v2, .int .i64 v3] 23)) HB4.out) HB5.out) 3).trans rfl; have g0 : w5.cell? ⟨w.heap.size, 0, none⟩ = some (.int .i64 0) := (blk_cell (blk_below (blk_below (blk_alloc H0.out _) HB4.out) HB5.out) 0).trans rfl; have g1 : w5.cell? ⟨w.heap.size, 1, none⟩ = some (.int .i64 0) := (blk_cell (blk_below (blk_below (blk_alloc H0.out _) HB4.out) HB5.out) 1).trans rfl; have g2 : w5.cell? ⟨w.heap.size, 2, none⟩ = some (.int .i64 0) := (blk_cell (blk_below (blk_below (blk_alloc H0.out _) HB4.out) HB5.out) 2).trans rfl; have g3 : w5.cell? ⟨w.heap.size, 3, none⟩ = some (.int .i64 0) := (blk_cell (blk_below (blk_below (blk_alloc H0.out _) HB4.out) HB5.out) 3).trans rfl; have k0 : w5.frozen? ⟨w.heap.size, 0, none⟩ = false := blk_frozen (blk_below (blk_below (blk_alloc H0.out _) HB4.out) HB5.out) 0; have k1 : w5.frozen? ⟨w.heap.size, 1, none⟩ = false := blk_frozen (blk_below (blk_below (blk_alloc H0.out _) HB4.out) HB5.out) 1; have k2 : w5.frozen? ⟨w.heap.size, 2, none⟩ = false := blk_frozen (blk_below (blk_below (blk_alloc H0.out _) HB4.out) HB5.out) 2; have k3 : w5.frozen? ⟨w.heap.size, 3, none⟩ = false := blk_frozen (blk_below (blk_below (blk_alloc H0.out _) HB4.out) HB5.out) 3))
          have hf := blk_below (blk_below (blk_alloc H0.out _) HB4.out) HB5.out
          refine bodyPost_ret (results_ct rfl _ _ w.heap.size 23 #[.int .i64 v0, .int .i64 v1, .int .i64 v2, .int .i64 v3] (0, 0) _ rfl (by refine blk_put (cs := #[.int .i64 v0, .int .i64 v1, .int .i64 v2, .int .i64 0]) ?_ 3 _ rfl; refine blk_put (cs := #[.int .i64 v0, .int .i64 v1, .int .i64 0, .int .i64 0]) ?_ 2 _ rfl; refine blk_put (cs := #[.int .i64 v0, .int .i64 0, .int .i64 0, .int .i64 0]) ?_ 1 _ rfl; exact blk_put hf 0 _ rfl) Tryd.underlying23 rfl (by kernel_rfl)) rfl ?_
          have hq := Option.some.inj HR.out
          simp only [Prod.mk.injEq] at hq
          obtain ⟨rfl, rfl, rfl, rfl, rfl⟩ := hq
          exact ⟨rfl, below_set (below_set (below_set (below_set (below_step (below_step (below_alloc HB.out _) HB4.out) HB5.out) (Nat.le_refl _)) (Nat.le_refl _)) (Nat.le_refl _)) (Nat.le_refl _)⟩
        · rw [if_neg he] at hr
          have HR := Aside0.mk hr
          have e1 : (t.toList == a0.toList) = false := beq_eq_false_iff_ne.2 he
          have e2 : (t.toList != a0.toList) = true := by rw [bne, e1]; rfl
          clear hr he
          go_wp2_with (first | (go_at_call 26; refine (donjonref4_Check.calls v0 v1 v2 v3 _ _ HCK.out).mono ?_; rintro e w4 ⟨rfl, hb4⟩; have HB4 := Aside0.mk hb4; clear hb4; have d0 : w4.cell? ⟨wr.heap.size, 0, none⟩ = some (.int .i64 v0) := (blk_cell (blk_below (blk_new wr (.cells #[.int .i64 v0, .int .i64 v1, .int .i64 v2, .int .i64 v3] 23)) HB4.out) 0).trans rfl; have d1 : w4.cell? ⟨wr.heap.size, 1, none⟩ = some (.int .i64 v1) := (blk_cell (blk_below (blk_new wr (.cells #[.int .i64 v0, .int .i64 v1, .int .i64 v2, .int .i64 v3] 23)) HB4.out) 1).trans rfl; have d2 : w4.cell? ⟨wr.heap.size, 2, none⟩ = some (.int .i64 v2) := (blk_cell (blk_below (blk_new wr (.cells #[.int .i64 v0, .int .i64 v1, .int .i64 v2, .int .i64 v3] 23)) HB4.out) 2).trans rfl; have d3 : w4.cell? ⟨wr.heap.size, 3, none⟩ = some (.int .i64 v3) := (blk_cell (blk_below (blk_new wr (.cells #[.int .i64 v0, .int .i64 v1, .int .i64 v2, .int .i64 v3] 23)) HB4.out) 3).trans rfl; have g0 : w4.cell? ⟨w.heap.size, 0, none⟩ = some (.int .i64 0) := (blk_cell (blk_below (blk_alloc H0.out _) HB4.out) 0).trans rfl; have g1 : w4.cell? ⟨w.heap.size, 1, none⟩ = some (.int .i64 0) := (blk_cell (blk_below (blk_alloc H0.out _) HB4.out) 1).trans rfl; have g2 : w4.cell? ⟨w.heap.size, 2, none⟩ = some (.int .i64 0) := (blk_cell (blk_below (blk_alloc H0.out _) HB4.out) 2).trans rfl; have g3 : w4.cell? ⟨w.heap.size, 3, none⟩ = some (.int .i64 0) := (blk_cell (blk_below (blk_alloc H0.out _) HB4.out) 3).trans rfl; have k0 : w4.frozen? ⟨w.heap.size, 0, none⟩ = false := blk_frozen (blk_below (blk_alloc H0.out _) HB4.out) 0; have k1 : w4.frozen? ⟨w.heap.size, 1, none⟩ = false := blk_frozen (blk_below (blk_alloc H0.out _) HB4.out) 1; have k2 : w4.frozen? ⟨w.heap.size, 2, none⟩ = false := blk_frozen (blk_below (blk_alloc H0.out _) HB4.out) 2; have k3 : w4.frozen? ⟨w.heap.size, 3, none⟩ = false := blk_frozen (blk_below (blk_alloc H0.out _) HB4.out) 3) | (go_at_call 30; refine (donjonref4_Text.calls k v0 v1 v2 v3 _ _ HTX.out).mono ?_; rintro e w5 ⟨rfl, hb5⟩; have HB5 := Aside0.mk hb5; clear hb5; have d0 : w5.cell? ⟨wr.heap.size, 0, none⟩ = some (.int .i64 v0) := (blk_cell (blk_below (blk_below (blk_new wr (.cells #[.int .i64 v0, .int .i64 v1, .int .i64 v2, .int .i64 v3] 23)) HB4.out) HB5.out) 0).trans rfl; have d1 : w5.cell? ⟨wr.heap.size, 1, none⟩ = some (.int .i64 v1) := (blk_cell (blk_below (blk_below (blk_new wr (.cells #[.int .i64 v0, .int .i64 v1, .int .i64 v2, .int .i64 v3] 23)) HB4.out) HB5.out) 1).trans rfl; have d2 : w5.cell? ⟨wr.heap.size, 2, none⟩ = some (.int .i64 v2) := (blk_cell (blk_below (blk_below (blk_new wr (.cells #[.int .i64 v0, .int .i64 v1, .int .i64 v2, .int .i64 v3] 23)) HB4.out) HB5.out) 2).trans rfl; have d3 : w5.cell? ⟨wr.heap.size, 3, none⟩ = some (.int .i64 v3) := (blk_cell (blk_below (blk_below (blk_new wr (.cells #[.int .i64 v0, .int .i64 v1, .int .i64 v2, .int .i64 v3] 23)) HB4.out) HB5.out) 3).trans rfl; have g0 : w5.cell? ⟨w.heap.size, 0, none⟩ = some (.int .i64 0) := (blk_cell (blk_below (blk_below (blk_alloc H0.out _) HB4.out) HB5.out) 0).trans rfl; have g1 : w5.cell? ⟨w.heap.size, 1, none⟩ = some (.int .i64 0) := (blk_cell (blk_below (blk_below (blk_alloc H0.out _) HB4.out) HB5.out) 1).trans rfl; have g2 : w5.cell? ⟨w.heap.size, 2, none⟩ = some (.int .i64 0) := (blk_cell (blk_below (blk_below (blk_alloc H0.out _) HB4.out) HB5.out) 2).trans rfl; have g3 : w5.cell? ⟨w.heap.size, 3, none⟩ = some (.int .i64 0) := (blk_cell (blk_below (blk_below (blk_alloc H0.out _) HB4.out) HB5.out) 3).trans rfl; have k0 : w5.frozen? ⟨w.heap.size, 0, none⟩ = false := blk_frozen (blk_below (blk_below (blk_alloc H0.out _) HB4.out) HB5.out) 0; have k1 : w5.frozen? ⟨w.heap.size, 1, none⟩ = false := blk_frozen (blk_below (blk_below (blk_alloc H0.out _) HB4.out) HB5.out) 1; have k2 : w5.frozen? ⟨w.heap.size, 2, none⟩ = false := blk_frozen (blk_below (blk_below (blk_alloc H0.out _) HB4.out) HB5.out) 2; have k3 : w5.frozen? ⟨w.heap.size, 3, none⟩ = false := blk_frozen (blk_below (blk_below (blk_alloc H0.out _) HB4.out) HB5.out) 3))
          have hf := blk_below (blk_below (blk_alloc H0.out _) HB4.out) HB5.out
          refine bodyPost_ret (results_ct rfl _ _ w.heap.size 23 #[.int .i64 0, .int .i64 0, .int .i64 0, .int .i64 0] (0, 0) _ rfl (by refine blk_put (cs := #[.int .i64 0, .int .i64 0, .int .i64 0, .int .i64 0]) ?_ 3 _ rfl; refine blk_put (cs := #[.int .i64 0, .int .i64 0, .int .i64 0, .int .i64 0]) ?_ 2 _ rfl; refine blk_put (cs := #[.int .i64 0, .int .i64 0, .int .i64 0, .int .i64 0]) ?_ 1 _ rfl; exact blk_put hf 0 _ rfl) Tryd.underlying23 rfl (by kernel_rfl)) rfl ?_
          have hq := Option.some.inj HR.out
          simp only [Prod.mk.injEq] at hq
          obtain ⟨rfl, rfl, rfl, rfl, rfl⟩ := hq
          exact ⟨rfl, below_set (below_set (below_set (below_set (below_step (below_step (below_alloc HB.out _) HB4.out) HB5.out) (Nat.le_refl _)) (Nat.le_refl _)) (Nat.le_refl _)) (Nat.le_refl _)⟩
      · rw [if_neg hok] at hck
        rw [if_neg hok] at hr
        have HR := Aside0.mk hr
        have HCK := Aside0.mk hck
        clear hr hck hok
        go_wp2_with (go_at_call 26; refine (donjonref4_Check.calls v0 v1 v2 v3 _ _ HCK.out).mono ?_; rintro e w4 ⟨rfl, hb4⟩; have HB4 := Aside0.mk hb4; clear hb4; have d0 : w4.cell? ⟨wr.heap.size, 0, none⟩ = some (.int .i64 v0) := (blk_cell (blk_below (blk_new wr (.cells #[.int .i64 v0, .int .i64 v1, .int .i64 v2, .int .i64 v3] 23)) HB4.out) 0).trans rfl; have d1 : w4.cell? ⟨wr.heap.size, 1, none⟩ = some (.int .i64 v1) := (blk_cell (blk_below (blk_new wr (.cells #[.int .i64 v0, .int .i64 v1, .int .i64 v2, .int .i64 v3] 23)) HB4.out) 1).trans rfl; have d2 : w4.cell? ⟨wr.heap.size, 2, none⟩ = some (.int .i64 v2) := (blk_cell (blk_below (blk_new wr (.cells #[.int .i64 v0, .int .i64 v1, .int .i64 v2, .int .i64 v3] 23)) HB4.out) 2).trans rfl; have d3 : w4.cell? ⟨wr.heap.size, 3, none⟩ = some (.int .i64 v3) := (blk_cell (blk_below (blk_new wr (.cells #[.int .i64 v0, .int .i64 v1, .int .i64 v2, .int .i64 v3] 23)) HB4.out) 3).trans rfl; have g0 : w4.cell? ⟨w.heap.size, 0, none⟩ = some (.int .i64 0) := (blk_cell (blk_below (blk_alloc H0.out _) HB4.out) 0).trans rfl; have g1 : w4.cell? ⟨w.heap.size, 1, none⟩ = some (.int .i64 0) := (blk_cell (blk_below (blk_alloc H0.out _) HB4.out) 1).trans rfl; have g2 : w4.cell? ⟨w.heap.size, 2, none⟩ = some (.int .i64 0) := (blk_cell (blk_below (blk_alloc H0.out _) HB4.out) 2).trans rfl; have g3 : w4.cell? ⟨w.heap.size, 3, none⟩ = some (.int .i64 0) := (blk_cell (blk_below (blk_alloc H0.out _) HB4.out) 3).trans rfl; have k0 : w4.frozen? ⟨w.heap.size, 0, none⟩ = false := blk_frozen (blk_below (blk_alloc H0.out _) HB4.out) 0; have k1 : w4.frozen? ⟨w.heap.size, 1, none⟩ = false := blk_frozen (blk_below (blk_alloc H0.out _) HB4.out) 1; have k2 : w4.frozen? ⟨w.heap.size, 2, none⟩ = false := blk_frozen (blk_below (blk_alloc H0.out _) HB4.out) 2; have k3 : w4.frozen? ⟨w.heap.size, 3, none⟩ = false := blk_frozen (blk_below (blk_alloc H0.out _) HB4.out) 3)
        have hf := blk_below (blk_alloc H0.out _) HB4.out
        refine bodyPost_ret (results_ct rfl _ _ w.heap.size 23 #[.int .i64 0, .int .i64 0, .int .i64 0, .int .i64 0] (0, 0) _ rfl (by refine blk_put (cs := #[.int .i64 0, .int .i64 0, .int .i64 0, .int .i64 0]) ?_ 3 _ rfl; refine blk_put (cs := #[.int .i64 0, .int .i64 0, .int .i64 0, .int .i64 0]) ?_ 2 _ rfl; refine blk_put (cs := #[.int .i64 0, .int .i64 0, .int .i64 0, .int .i64 0]) ?_ 1 _ rfl; exact blk_put hf 0 _ rfl) Tryd.underlying23 rfl (by kernel_rfl)) rfl ?_
        have hq := Option.some.inj HR.out
        simp only [Prod.mk.injEq] at hq
        obtain ⟨rfl, rfl, rfl, rfl, rfl⟩ := hq
        exact ⟨rfl, below_set (below_set (below_set (below_set (below_step (below_alloc HB.out _) HB4.out) (Nat.le_refl _)) (Nat.le_refl _)) (Nat.le_refl _)) (Nat.le_refl _)⟩

end Go.Proofs.YtnepinkookbanaaDoor.X
