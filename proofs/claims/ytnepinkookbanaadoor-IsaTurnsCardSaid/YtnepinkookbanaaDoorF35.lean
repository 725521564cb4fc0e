/- Written by a program of this session over the kit's print: YtnepinkookbanaaDoorF35. -/
import Derived.Test.YtnepinkookbanaaDoorH
import Derived.Test.YtnepinkookbanaaDoorF23
import Derived.Test.YtnepinkookbanaaDoorF24
import Derived.Test.YtnepinkookbanaaDoorF34
import Derived.Test.YtnepinkookbanaaDoorF39
import Derived.Test.YtnepinkookbanaaDoorF53
import Derived.Test.YtnepinkookbanaaDoorF34
import Derived.Test.YtnepinkookbanaaDoorF39
import Derived.Test.YtnepinkookbanaaDoorF24
import Derived.Test.YtnepinkookbanaaDoorLaid2
import Derived.Test.YtnepinkookbanaaDoorShelf
import Derived.WalkKit
import Derived.BigCall
namespace Go.Proofs.YtnepinkookbanaaDoor.X
open Go.RowKit Go.Proofs.YtnepinkookbanaaDoorW.PrintWords Go.Proofs.YtnepinkookbanaaDoorW.PrintLast Go.Proofs.YtnepinkookbanaaDoorW.PrintMore Go.Proofs.YtnepinkookbanaaDoor.More
attribute [local go_sem] max2_int min2_int max_two min_two max_three min_three max_four min_four binOp_string_leq binOp_string_gtr   -- for this text's walks alone
set_option linter.unusedVariables false
set_option linter.unusedSimpArgs false

/-! ### isa_Parse: function 35 -/
/-- May an instruction's parts be these? -/
def ipOk (p n : Int) : Bool := decide (0 ≤ p) && (decide (p < 4) && (decide (-2147483648 ≤ n) && decide (n ≤ 2147483647)))
/-- What the loop over the names tells, m names from the end. -/
def iloop (s l0 : ByteArray) (p n : Int) : Nat → Int × Int × Int × Int
  | 0 => (0, 0, 0, 6)
  | m + 1 => if (opName (22 - m)).toList = l0.toList then (if ipOk p n = true then (if (itextV ((22 - m : Nat) : Int) p n).toList = s.toList then (((22 - m : Nat) : Int), p, n, 0) else iloop s l0 p n m) else iloop s l0 p n m) else iloop s l0 p n m
def ipartV (s : ByteArray) (i : Nat) : ByteArray := (piecesV s 32).getD i ByteArray.empty
/-- What isa.Parse tells. -/
def iparseV (s : ByteArray) : Int × Int × Int × Int := if Lib.countB s ⟨#[32]⟩ = 2 then iloop s (ipartV s 0) (atoiV (ipartV s 1).data.toList) (atoiV (ipartV s 2).data.toList) 23 else (0, 0, 0, 6)
def isa_Parse.f (a0 : ByteArray) : Option (Int × Int × Int × Int) := if a0.size < 4294967281 then some (iparseV a0) else none
theorem isa_next {k : Nat} (h : k < 23) (e : wrap64 ((k : Int) + 1) = ((k + 1 : Nat) : Int)) : 23 - (intOf (.int .i64 (wrap64 ((k : Int) + 1)))).toNat < 23 - (intOf (.int .i64 (k : Int))).toNat := by
  have g : ∀ n : Int, intOf (.int .i64 n) = n := fun _ => rfl
  rw [g, g, e, Int.toNat_natCast, Int.toNat_natCast]
  clear e
  omega
theorem isa_wrap {k : Nat} (h : k < 23) : wrap64 ((k : Int) + 1) = ((k + 1 : Nat) : Int) := by
  unfold wrap64
  omega
theorem isa_enc (o p n : Int) (h0 : 0 ≤ o) (h1 : o < 23) : ∃ x, isa_Encode.f 1 o p n = some (x, if ipOk p n = true then 0 else 1) := by
  unfold isa_Encode.f ipOk
  have h2 : decide (o ≥ 23) = false := decide_eq_false (by omega)
  rw [if_neg (by omega), h2]
  simp only [isa_Encode.j0]
  rw [if_neg (by simp)]
  by_cases h3 : p < 0
  · rw [if_pos h3, decide_eq_false (show ¬ 0 ≤ p by omega)]
    exact ⟨_, rfl⟩
  rw [if_neg h3, decide_eq_true (show 0 ≤ p by omega)]
  by_cases h4 : 4 ≤ p
  · rw [if_pos h4, decide_eq_false (show ¬ p < 4 by omega)]
    exact ⟨_, rfl⟩
  rw [if_neg (by omega), decide_eq_true (show p < 4 by omega)]
  unfold isa_short.f
  by_cases h5 : n ≥ -2147483648
  · rw [if_pos h5, decide_eq_true (show -2147483648 ≤ n by omega)]
    simp only [Option.bind_some]
    by_cases h6 : n ≤ 2147483647
    · rw [decide_eq_true h6, if_pos rfl]
      exact ⟨_, rfl⟩
    · rw [decide_eq_false h6, if_neg (by simp)]
      exact ⟨_, rfl⟩
  · rw [if_neg h5, decide_eq_false (show ¬ -2147483648 ≤ n by omega)]
    simp only [Option.bind_some]
    rw [if_neg (by simp)]
    exact ⟨_, rfl⟩
theorem isa_text (k : Nat) (p n : Int) (hk : k < 23) (h : ipOk p n = true) : isa_Text.f (k : Int) p n = some (itextV (k : Int) p n) := by
  unfold ipOk at h
  simp only [Bool.and_eq_true, decide_eq_true_eq] at h
  unfold isa_Text.f fits64
  rw [if_pos (by omega), if_neg (by omega)]
def iparsAt (s p0 p1 p2 : ByteArray) (p n : Int) (R : Int × Int × Int × Int) (w : World) (k : Nat) (wr : World) : Prop :=
  k ≤ 23 ∧ iloop s p0 p n (23 - k) = R ∧ wr.heap[w.heap.size]? = some (.cells #[.int .i64 0, .int .i64 0, .int .i64 0] 45) ∧ wr.heap[w.heap.size + 1]? = some (.cells #[.string p0, .string p1, .string p2] 9) ∧ Below w.heap.size w wr
set_option maxRecDepth 100000 in
set_option maxHeartbeats 8000000 in
theorem isa_Parse.calls (a0 : ByteArray) (r1 : Int) (r2 : Int) (r3 : Int) (r4 : Int) (w : World) (hG : Laid2 w) (h : isa_Parse.f a0 = some (r1, r2, r3, r4)) :
    Calls Tryd.prog 35 #[.string a0] w fun e w' => e = .returned (.tuple #[.agg #[.int .i64 r1, .int .i64 r2, .int .i64 r3], .int .i64 r4]) ∧ Below w.heap.size w w' := by
  have hs : a0.size < 4294967281 := by
    by_cases h1 : a0.size < 4294967281
    · exact h1
    · unfold isa_Parse.f at h
      rw [if_neg h1] at h
      exact absurd h (by simp)
  have hr : iparseV a0 = (r1, r2, r3, r4) := by
    unfold isa_Parse.f at h
    rw [if_pos hs] at h
    exact Option.some.inj h
  clear h
  have hlen := piecesV_length a0 32
  have hsz := piecesV_sizes a0 32
  unfold iparseV at hr
  obtain ⟨n, hn⟩ : ∃ n, Lib.countB a0 ⟨#[32]⟩ = n := ⟨_, rfl⟩
  obtain ⟨ps, hp⟩ : ∃ ps, piecesV a0 32 = ps := ⟨_, rfl⟩
  rw [hp, hn] at hlen
  rw [hp] at hsz
  have HG := Aside0.mk hG
  have HNN := Aside0.mk hn
  have HPP := Aside0.mk hp
  have HS := Aside0.mk hs
  clear hG
  by_cases h3 : n = 2
  · subst h3
    obtain ⟨p0, p1, p2, rfl⟩ : ∃ p0 p1 p2, ps = [p0, p1, p2] := by
      match ps, hlen with
      | [p0, p1, p2], _ => exact ⟨p0, p1, p2, rfl⟩
    have hp1 : p1.size ≤ 281474976710656 := by have := hsz p1 (by simp); omega
    have hp2 : p2.size ≤ 281474976710656 := by have := hsz p2 (by simp); omega
    have HZ1 := Aside0.mk hp1
    have HZ2 := Aside0.mk hp2
    rw [hn, if_pos rfl] at hr
    simp only [ipartV, hp, List.getD_cons_zero, List.getD_cons_succ] at hr
    obtain ⟨pn, hpn⟩ : ∃ x, atoiV p1.data.toList = x := ⟨_, rfl⟩
    obtain ⟨nn, hnn⟩ : ∃ x, atoiV p2.data.toList = x := ⟨_, rfl⟩
    rw [hpn, hnn] at hr
    have HPN := Aside0.mk hpn
    have HNB := Aside0.mk hnn
    have HR := Aside0.mk hr
    clear hp1 hp2 hn hp hs hr hsz hlen hpn hnn
    go_enter Tryd.func35, Tryd.ntmps35
    go_wp2_with (first
      | (go_at_call 45; refine (split_any a0 32 HS.out _ (HG.out.below (by with_reducible repeat (first | exact Below.refl _ _ | apply below_alloc | apply below_drew1))) 2 HNN.out [p0, p1, p2] HPP.out).mono ?_; rintro e w1 ⟨rfl, hw1⟩; have HBW : Aside0 (Below w.heap.size w w1) := ⟨by rw [hw1]; exact below_alloc (below_alloc (Below.refl _ _) _) _⟩; have HZW : Aside0 (w1.heap[w.heap.size]? = some (.cells #[.int .i64 0, .int .i64 0, .int .i64 0] 45)) := ⟨by rw [hw1]; exact blk_alloc (blk_new _ _) _⟩; have HPW : Aside0 (w1.heap[w.heap.size + 1]? = some (.cells #[.string p0, .string p1, .string p2] 9)) := ⟨by rw [hw1]; have h_ := blk_new (w.alloc (.cells #[.int .i64 0, .int .i64 0, .int .i64 0] 45)) (.cells #[.string p0, .string p1, .string p2] 9); simpa using h_⟩; clear hw1)
      | (go_at_call 48; refine (isa_names _).mono ?_; rintro e w2 ⟨rfl, hb⟩; have HB2 := Aside0.mk (below_step HBW.out hb); have HZB := Aside0.mk (blk_below HZW.out hb); have HPB := Aside0.mk (blk_below HPW.out hb); clear hb))
    go_loopw [17] (fun s17 wr => ∃ k : Nat, s17 = .int .i64 k ∧ iparsAt a0 p0 p1 p2 pn nn (r1, r2, r3, r4) w k wr) (fun s17 _ => 23 - (intOf s17).toNat)
    case atStart => exact ⟨0, rfl, Nat.zero_le _, HR.out, HZB.out, HPB.out, HB2.out⟩
    case round =>
      clear HR
      obtain ⟨k, rfl, hk, hR, hz, hpc, hb⟩ := hrel
      have HZ := Aside0.mk hz
      have HP := Aside0.mk hpc
      have HB := Aside0.mk hb
      have hlt1 : w.heap.size + 1 < wr.heap.size := blk_lt hpc
      have HN0 : Aside0 (w.heap.size ≠ wr.heap.size) := ⟨by omega⟩
      have HN1 : Aside0 (w.heap.size + 1 ≠ wr.heap.size) := ⟨by omega⟩
      have HLE : Aside0 (w.heap.size ≤ wr.heap.size) := ⟨by omega⟩
      have hna : ¬ wr.heap.size = w.heap.size + 1 := by omega
      have hnb : ¬ w.heap.size + 1 = wr.heap.size := by omega
      have hnc : ¬ wr.heap.size = w.heap.size := by omega
      have hnd : ¬ w.heap.size = wr.heap.size := by omega
      have g0 : wr.cell? ⟨w.heap.size, 0, none⟩ = some (.int .i64 0) := (blk_cell HZ.out 0).trans rfl
      have g1 : wr.cell? ⟨w.heap.size, 1, none⟩ = some (.int .i64 0) := (blk_cell HZ.out 1).trans rfl
      have g2 : wr.cell? ⟨w.heap.size, 2, none⟩ = some (.int .i64 0) := (blk_cell HZ.out 2).trans rfl
      have k0 := blk_frozen HZ.out 0
      have k1 := blk_frozen HZ.out 1
      have k2 := blk_frozen HZ.out 2
      have q0 : wr.cell? ⟨w.heap.size + 1, 0, none⟩ = some (.string p0) := (blk_cell HP.out 0).trans rfl
      have q1 : wr.cell? ⟨w.heap.size + 1, 1, none⟩ = some (.string p1) := (blk_cell HP.out 1).trans rfl
      have q2 : wr.cell? ⟨w.heap.size + 1, 2, none⟩ = some (.string p2) := (blk_cell HP.out 2).trans rfl
      clear hz hpc hb hlt1
      by_cases hk2 : k < 23
      · have t1 : decide ((k : Int) < 23) = true := decide_eq_true (by omega)
        have HKW := Aside0.mk (isa_wrap hk2)
        have HK := Aside0.mk hk2
        have hix : ∀ w : World, (Instr.index 67 (.agg namesA) (.int .i64 (k : Int))).run Tryd.prog w = .ok (.string (opName k)) w := by
          have h_ := isa_index (k : Int) (by omega) (by omega)
          rw [Int.toNat_natCast] at h_
          exact h_
        obtain ⟨m, hm⟩ : ∃ m, 23 - k = m + 1 := ⟨22 - k, by omega⟩
        rw [hm, iloop, show 22 - m = k by omega] at hR
        obtain ⟨x_, hE⟩ := isa_enc (k : Int) pn nn (by omega) (by omega)
        have HE := Aside0.mk hE
        have HM : Aside0 (23 - (k + 1) = m) := ⟨by omega⟩
        clear hE hk hk2 hm
        by_cases hnm : (opName k).toList = p0.toList
        · rw [if_pos hnm] at hR
          have e1 : ((opName k).toList == p0.toList) = true := beq_iff_eq.2 hnm
          have e2 : ((opName k).toList != p0.toList) = false := bne_eq_false_iff_eq.2 hnm
          have qa1 : (wr.alloc (.cells #[.int .i64 (k : Int), .int .i64 0, .int .i64 0] 45)).cell? ⟨w.heap.size + 1, 1, none⟩ = some (.string p1) := (blk_cell (blk_alloc HP.out _) 1).trans rfl
          clear hnm
          by_cases hok : ipOk pn nn = true
          · rw [if_pos hok] at hR
            have hT := isa_text k pn nn HK.out hok
            rw [show (if ipOk pn nn = true then (0 : Int) else 1) = 0 from if_pos hok] at HE
            obtain ⟨t, ht⟩ : ∃ t, itextV (k : Int) pn nn = t := ⟨_, rfl⟩
            rw [ht] at hT hR
            have HT := Aside0.mk hT
            clear hT ht hok
            by_cases he : t.toList = a0.toList
            · rw [if_pos he] at hR
              have HR := Aside0.mk hR
              have e3 : (t.toList == a0.toList) = true := beq_iff_eq.2 he
              have e4 : (t.toList != a0.toList) = false := bne_eq_false_iff_eq.2 he
              clear hR he
              go_wp2_with (first | (go_at_call_of 46 (Value.string p1); refine (atoi_any p1 HZ1.out _ (HG.out.below (below_alloc HB.out _))).mono ?_; rw [HPN.out]; rintro e w3 ⟨v3, rfl, hb⟩; have HV3 := Aside0.mk (blk_below (blk_new wr (.cells #[.int .i64 (k : Int), .int .i64 0, .int .i64 0] 45)) hb); have HZ3 := Aside0.mk (blk_below (blk_alloc HZ.out (.cells #[.int .i64 (k : Int), .int .i64 0, .int .i64 0] 45)) hb); have HP3 := Aside0.mk (blk_below (blk_alloc HP.out (.cells #[.int .i64 (k : Int), .int .i64 0, .int .i64 0] 45)) hb); have HB3 := Aside0.mk (below_step (below_alloc HB.out (.cells #[.int .i64 (k : Int), .int .i64 0, .int .i64 0] 45)) hb); clear hb; have d0 : w3.cell? ⟨wr.heap.size, 0, none⟩ = some (.int .i64 (k : Int)) := (blk_cell HV3.out 0).trans rfl; have m0 := blk_frozen HV3.out 0; have d1 : w3.cell? ⟨wr.heap.size, 1, none⟩ = some (.int .i64 0) := (blk_cell HV3.out 1).trans rfl; have m1 := blk_frozen HV3.out 1; have d2 : w3.cell? ⟨wr.heap.size, 2, none⟩ = some (.int .i64 0) := (blk_cell HV3.out 2).trans rfl; have m2 := blk_frozen HV3.out 2; have g0 : w3.cell? ⟨w.heap.size, 0, none⟩ = some (.int .i64 0) := (blk_cell HZ3.out 0).trans rfl; have k0 := blk_frozen HZ3.out 0; have g1 : w3.cell? ⟨w.heap.size, 1, none⟩ = some (.int .i64 0) := (blk_cell HZ3.out 1).trans rfl; have k1 := blk_frozen HZ3.out 1; have g2 : w3.cell? ⟨w.heap.size, 2, none⟩ = some (.int .i64 0) := (blk_cell HZ3.out 2).trans rfl; have k2 := blk_frozen HZ3.out 2; have q0 : w3.cell? ⟨w.heap.size + 1, 0, none⟩ = some (.string p0) := (blk_cell HP3.out 0).trans rfl; have q1 : w3.cell? ⟨w.heap.size + 1, 1, none⟩ = some (.string p1) := (blk_cell HP3.out 1).trans rfl; have q2 : w3.cell? ⟨w.heap.size + 1, 2, none⟩ = some (.string p2) := (blk_cell HP3.out 2).trans rfl) | (go_at_call_of 46 (Value.string p2); refine (atoi_any p2 HZ2.out _ (HG.out.below (below_set HB3.out HLE.out))).mono ?_; rw [HNB.out]; rintro e w5 ⟨v5, rfl, hb⟩; have HV5 := Aside0.mk (blk_below (blk_put (cs' := #[.int .i64 (k : Int), .int .i64 pn, .int .i64 0]) HV3.out 1 (.int .i64 pn) rfl) hb); have HZ5 := Aside0.mk (blk_below (blk_far HZ3.out (p := ⟨wr.heap.size, 1, none⟩) HN0.out (.int .i64 pn)) hb); have HP5 := Aside0.mk (blk_below (blk_far HP3.out (p := ⟨wr.heap.size, 1, none⟩) HN1.out (.int .i64 pn)) hb); have HB5 := Aside0.mk (below_step (below_set HB3.out HLE.out) hb); clear hb; have d0 : w5.cell? ⟨wr.heap.size, 0, none⟩ = some (.int .i64 (k : Int)) := (blk_cell HV5.out 0).trans rfl; have m0 := blk_frozen HV5.out 0; have d1 : w5.cell? ⟨wr.heap.size, 1, none⟩ = some (.int .i64 pn) := (blk_cell HV5.out 1).trans rfl; have m1 := blk_frozen HV5.out 1; have d2 : w5.cell? ⟨wr.heap.size, 2, none⟩ = some (.int .i64 0) := (blk_cell HV5.out 2).trans rfl; have m2 := blk_frozen HV5.out 2; have g0 : w5.cell? ⟨w.heap.size, 0, none⟩ = some (.int .i64 0) := (blk_cell HZ5.out 0).trans rfl; have k0 := blk_frozen HZ5.out 0; have g1 : w5.cell? ⟨w.heap.size, 1, none⟩ = some (.int .i64 0) := (blk_cell HZ5.out 1).trans rfl; have k1 := blk_frozen HZ5.out 1; have g2 : w5.cell? ⟨w.heap.size, 2, none⟩ = some (.int .i64 0) := (blk_cell HZ5.out 2).trans rfl; have k2 := blk_frozen HZ5.out 2; have q0 : w5.cell? ⟨w.heap.size + 1, 0, none⟩ = some (.string p0) := (blk_cell HP5.out 0).trans rfl; have q1 : w5.cell? ⟨w.heap.size + 1, 1, none⟩ = some (.string p1) := (blk_cell HP5.out 1).trans rfl; have q2 : w5.cell? ⟨w.heap.size + 1, 2, none⟩ = some (.string p2) := (blk_cell HP5.out 2).trans rfl) | (go_at_call 39; refine (isa_Encode.calls 1 (k : Int) pn nn _ _ _ HE.out).mono ?_; rintro e w6 ⟨rfl, hb⟩; have HV6 := Aside0.mk (blk_below (blk_put (cs' := #[.int .i64 (k : Int), .int .i64 pn, .int .i64 nn]) HV5.out 2 (.int .i64 nn) rfl) hb); have HZ6 := Aside0.mk (blk_below (blk_far HZ5.out (p := ⟨wr.heap.size, 2, none⟩) HN0.out (.int .i64 nn)) hb); have HP6 := Aside0.mk (blk_below (blk_far HP5.out (p := ⟨wr.heap.size, 2, none⟩) HN1.out (.int .i64 nn)) hb); have HB6 := Aside0.mk (below_step (below_set HB5.out HLE.out) hb); clear hb; have d0 : w6.cell? ⟨wr.heap.size, 0, none⟩ = some (.int .i64 (k : Int)) := (blk_cell HV6.out 0).trans rfl; have m0 := blk_frozen HV6.out 0; have d1 : w6.cell? ⟨wr.heap.size, 1, none⟩ = some (.int .i64 pn) := (blk_cell HV6.out 1).trans rfl; have m1 := blk_frozen HV6.out 1; have d2 : w6.cell? ⟨wr.heap.size, 2, none⟩ = some (.int .i64 nn) := (blk_cell HV6.out 2).trans rfl; have m2 := blk_frozen HV6.out 2; have g0 : w6.cell? ⟨w.heap.size, 0, none⟩ = some (.int .i64 0) := (blk_cell HZ6.out 0).trans rfl; have k0 := blk_frozen HZ6.out 0; have g1 : w6.cell? ⟨w.heap.size, 1, none⟩ = some (.int .i64 0) := (blk_cell HZ6.out 1).trans rfl; have k1 := blk_frozen HZ6.out 1; have g2 : w6.cell? ⟨w.heap.size, 2, none⟩ = some (.int .i64 0) := (blk_cell HZ6.out 2).trans rfl; have k2 := blk_frozen HZ6.out 2; have q0 : w6.cell? ⟨w.heap.size + 1, 0, none⟩ = some (.string p0) := (blk_cell HP6.out 0).trans rfl; have q1 : w6.cell? ⟨w.heap.size + 1, 1, none⟩ = some (.string p1) := (blk_cell HP6.out 1).trans rfl; have q2 : w6.cell? ⟨w.heap.size + 1, 2, none⟩ = some (.string p2) := (blk_cell HP6.out 2).trans rfl) | (go_at_call 34; refine (isa_Text.calls (k : Int) pn nn t _ (HG.out.base.below HB6.out) HT.out).mono ?_; rintro e w7 ⟨rfl, hb⟩; have HV7 := Aside0.mk (blk_below HV6.out hb); have HZ7 := Aside0.mk (blk_below HZ6.out hb); have HP7 := Aside0.mk (blk_below HP6.out hb); have HB7 := Aside0.mk (below_step HB6.out hb); clear hb; have d0 : w7.cell? ⟨wr.heap.size, 0, none⟩ = some (.int .i64 (k : Int)) := (blk_cell HV7.out 0).trans rfl; have m0 := blk_frozen HV7.out 0; have d1 : w7.cell? ⟨wr.heap.size, 1, none⟩ = some (.int .i64 pn) := (blk_cell HV7.out 1).trans rfl; have m1 := blk_frozen HV7.out 1; have d2 : w7.cell? ⟨wr.heap.size, 2, none⟩ = some (.int .i64 nn) := (blk_cell HV7.out 2).trans rfl; have m2 := blk_frozen HV7.out 2; have g0 : w7.cell? ⟨w.heap.size, 0, none⟩ = some (.int .i64 0) := (blk_cell HZ7.out 0).trans rfl; have k0 := blk_frozen HZ7.out 0; have g1 : w7.cell? ⟨w.heap.size, 1, none⟩ = some (.int .i64 0) := (blk_cell HZ7.out 1).trans rfl; have k1 := blk_frozen HZ7.out 1; have g2 : w7.cell? ⟨w.heap.size, 2, none⟩ = some (.int .i64 0) := (blk_cell HZ7.out 2).trans rfl; have k2 := blk_frozen HZ7.out 2; have q0 : w7.cell? ⟨w.heap.size + 1, 0, none⟩ = some (.string p0) := (blk_cell HP7.out 0).trans rfl; have q1 : w7.cell? ⟨w.heap.size + 1, 1, none⟩ = some (.string p1) := (blk_cell HP7.out 1).trans rfl; have q2 : w7.cell? ⟨w.heap.size + 1, 2, none⟩ = some (.string p2) := (blk_cell HP7.out 2).trans rfl))
              refine bodyPost_ret (results_ct rfl _ _ w.heap.size 45 #[.int .i64 k, .int .i64 pn, .int .i64 nn] (0, 0) _ rfl (by refine blk_put (cs := #[.int .i64 k, .int .i64 pn, .int .i64 0]) ?_ 2 _ rfl; refine blk_put (cs := #[.int .i64 k, .int .i64 0, .int .i64 0]) ?_ 1 _ rfl; refine blk_put (cs := #[.int .i64 0, .int .i64 0, .int .i64 0]) ?_ 0 _ rfl; exact HZ7.out) Tryd.underlying45 rfl (by kernel_rfl)) rfl ?_
              have hq := HR.out
              simp only [Prod.mk.injEq] at hq
              obtain ⟨rfl, rfl, rfl, rfl⟩ := hq
              exact ⟨rfl, below_set (below_set (below_set HB7.out (Nat.le_refl _)) (Nat.le_refl _)) (Nat.le_refl _)⟩
            · rw [if_neg he] at hR
              have HR := Aside0.mk hR
              have e3 : (t.toList == a0.toList) = false := beq_eq_false_iff_ne.2 he
              have e4 : (t.toList != a0.toList) = true := by rw [bne, e3]; rfl
              clear hR he
              go_wp2_with (first | (go_at_call_of 46 (Value.string p1); refine (atoi_any p1 HZ1.out _ (HG.out.below (below_alloc HB.out _))).mono ?_; rw [HPN.out]; rintro e w3 ⟨v3, rfl, hb⟩; have HV3 := Aside0.mk (blk_below (blk_new wr (.cells #[.int .i64 (k : Int), .int .i64 0, .int .i64 0] 45)) hb); have HZ3 := Aside0.mk (blk_below (blk_alloc HZ.out (.cells #[.int .i64 (k : Int), .int .i64 0, .int .i64 0] 45)) hb); have HP3 := Aside0.mk (blk_below (blk_alloc HP.out (.cells #[.int .i64 (k : Int), .int .i64 0, .int .i64 0] 45)) hb); have HB3 := Aside0.mk (below_step (below_alloc HB.out (.cells #[.int .i64 (k : Int), .int .i64 0, .int .i64 0] 45)) hb); clear hb; have d0 : w3.cell? ⟨wr.heap.size, 0, none⟩ = some (.int .i64 (k : Int)) := (blk_cell HV3.out 0).trans rfl; have m0 := blk_frozen HV3.out 0; have d1 : w3.cell? ⟨wr.heap.size, 1, none⟩ = some (.int .i64 0) := (blk_cell HV3.out 1).trans rfl; have m1 := blk_frozen HV3.out 1; have d2 : w3.cell? ⟨wr.heap.size, 2, none⟩ = some (.int .i64 0) := (blk_cell HV3.out 2).trans rfl; have m2 := blk_frozen HV3.out 2; have g0 : w3.cell? ⟨w.heap.size, 0, none⟩ = some (.int .i64 0) := (blk_cell HZ3.out 0).trans rfl; have k0 := blk_frozen HZ3.out 0; have g1 : w3.cell? ⟨w.heap.size, 1, none⟩ = some (.int .i64 0) := (blk_cell HZ3.out 1).trans rfl; have k1 := blk_frozen HZ3.out 1; have g2 : w3.cell? ⟨w.heap.size, 2, none⟩ = some (.int .i64 0) := (blk_cell HZ3.out 2).trans rfl; have k2 := blk_frozen HZ3.out 2; have q0 : w3.cell? ⟨w.heap.size + 1, 0, none⟩ = some (.string p0) := (blk_cell HP3.out 0).trans rfl; have q1 : w3.cell? ⟨w.heap.size + 1, 1, none⟩ = some (.string p1) := (blk_cell HP3.out 1).trans rfl; have q2 : w3.cell? ⟨w.heap.size + 1, 2, none⟩ = some (.string p2) := (blk_cell HP3.out 2).trans rfl) | (go_at_call_of 46 (Value.string p2); refine (atoi_any p2 HZ2.out _ (HG.out.below (below_set HB3.out HLE.out))).mono ?_; rw [HNB.out]; rintro e w5 ⟨v5, rfl, hb⟩; have HV5 := Aside0.mk (blk_below (blk_put (cs' := #[.int .i64 (k : Int), .int .i64 pn, .int .i64 0]) HV3.out 1 (.int .i64 pn) rfl) hb); have HZ5 := Aside0.mk (blk_below (blk_far HZ3.out (p := ⟨wr.heap.size, 1, none⟩) HN0.out (.int .i64 pn)) hb); have HP5 := Aside0.mk (blk_below (blk_far HP3.out (p := ⟨wr.heap.size, 1, none⟩) HN1.out (.int .i64 pn)) hb); have HB5 := Aside0.mk (below_step (below_set HB3.out HLE.out) hb); clear hb; have d0 : w5.cell? ⟨wr.heap.size, 0, none⟩ = some (.int .i64 (k : Int)) := (blk_cell HV5.out 0).trans rfl; have m0 := blk_frozen HV5.out 0; have d1 : w5.cell? ⟨wr.heap.size, 1, none⟩ = some (.int .i64 pn) := (blk_cell HV5.out 1).trans rfl; have m1 := blk_frozen HV5.out 1; have d2 : w5.cell? ⟨wr.heap.size, 2, none⟩ = some (.int .i64 0) := (blk_cell HV5.out 2).trans rfl; have m2 := blk_frozen HV5.out 2; have g0 : w5.cell? ⟨w.heap.size, 0, none⟩ = some (.int .i64 0) := (blk_cell HZ5.out 0).trans rfl; have k0 := blk_frozen HZ5.out 0; have g1 : w5.cell? ⟨w.heap.size, 1, none⟩ = some (.int .i64 0) := (blk_cell HZ5.out 1).trans rfl; have k1 := blk_frozen HZ5.out 1; have g2 : w5.cell? ⟨w.heap.size, 2, none⟩ = some (.int .i64 0) := (blk_cell HZ5.out 2).trans rfl; have k2 := blk_frozen HZ5.out 2; have q0 : w5.cell? ⟨w.heap.size + 1, 0, none⟩ = some (.string p0) := (blk_cell HP5.out 0).trans rfl; have q1 : w5.cell? ⟨w.heap.size + 1, 1, none⟩ = some (.string p1) := (blk_cell HP5.out 1).trans rfl; have q2 : w5.cell? ⟨w.heap.size + 1, 2, none⟩ = some (.string p2) := (blk_cell HP5.out 2).trans rfl) | (go_at_call 39; refine (isa_Encode.calls 1 (k : Int) pn nn _ _ _ HE.out).mono ?_; rintro e w6 ⟨rfl, hb⟩; have HV6 := Aside0.mk (blk_below (blk_put (cs' := #[.int .i64 (k : Int), .int .i64 pn, .int .i64 nn]) HV5.out 2 (.int .i64 nn) rfl) hb); have HZ6 := Aside0.mk (blk_below (blk_far HZ5.out (p := ⟨wr.heap.size, 2, none⟩) HN0.out (.int .i64 nn)) hb); have HP6 := Aside0.mk (blk_below (blk_far HP5.out (p := ⟨wr.heap.size, 2, none⟩) HN1.out (.int .i64 nn)) hb); have HB6 := Aside0.mk (below_step (below_set HB5.out HLE.out) hb); clear hb; have d0 : w6.cell? ⟨wr.heap.size, 0, none⟩ = some (.int .i64 (k : Int)) := (blk_cell HV6.out 0).trans rfl; have m0 := blk_frozen HV6.out 0; have d1 : w6.cell? ⟨wr.heap.size, 1, none⟩ = some (.int .i64 pn) := (blk_cell HV6.out 1).trans rfl; have m1 := blk_frozen HV6.out 1; have d2 : w6.cell? ⟨wr.heap.size, 2, none⟩ = some (.int .i64 nn) := (blk_cell HV6.out 2).trans rfl; have m2 := blk_frozen HV6.out 2; have g0 : w6.cell? ⟨w.heap.size, 0, none⟩ = some (.int .i64 0) := (blk_cell HZ6.out 0).trans rfl; have k0 := blk_frozen HZ6.out 0; have g1 : w6.cell? ⟨w.heap.size, 1, none⟩ = some (.int .i64 0) := (blk_cell HZ6.out 1).trans rfl; have k1 := blk_frozen HZ6.out 1; have g2 : w6.cell? ⟨w.heap.size, 2, none⟩ = some (.int .i64 0) := (blk_cell HZ6.out 2).trans rfl; have k2 := blk_frozen HZ6.out 2; have q0 : w6.cell? ⟨w.heap.size + 1, 0, none⟩ = some (.string p0) := (blk_cell HP6.out 0).trans rfl; have q1 : w6.cell? ⟨w.heap.size + 1, 1, none⟩ = some (.string p1) := (blk_cell HP6.out 1).trans rfl; have q2 : w6.cell? ⟨w.heap.size + 1, 2, none⟩ = some (.string p2) := (blk_cell HP6.out 2).trans rfl) | (go_at_call 34; refine (isa_Text.calls (k : Int) pn nn t _ (HG.out.base.below HB6.out) HT.out).mono ?_; rintro e w7 ⟨rfl, hb⟩; have HV7 := Aside0.mk (blk_below HV6.out hb); have HZ7 := Aside0.mk (blk_below HZ6.out hb); have HP7 := Aside0.mk (blk_below HP6.out hb); have HB7 := Aside0.mk (below_step HB6.out hb); clear hb; have d0 : w7.cell? ⟨wr.heap.size, 0, none⟩ = some (.int .i64 (k : Int)) := (blk_cell HV7.out 0).trans rfl; have m0 := blk_frozen HV7.out 0; have d1 : w7.cell? ⟨wr.heap.size, 1, none⟩ = some (.int .i64 pn) := (blk_cell HV7.out 1).trans rfl; have m1 := blk_frozen HV7.out 1; have d2 : w7.cell? ⟨wr.heap.size, 2, none⟩ = some (.int .i64 nn) := (blk_cell HV7.out 2).trans rfl; have m2 := blk_frozen HV7.out 2; have g0 : w7.cell? ⟨w.heap.size, 0, none⟩ = some (.int .i64 0) := (blk_cell HZ7.out 0).trans rfl; have k0 := blk_frozen HZ7.out 0; have g1 : w7.cell? ⟨w.heap.size, 1, none⟩ = some (.int .i64 0) := (blk_cell HZ7.out 1).trans rfl; have k1 := blk_frozen HZ7.out 1; have g2 : w7.cell? ⟨w.heap.size, 2, none⟩ = some (.int .i64 0) := (blk_cell HZ7.out 2).trans rfl; have k2 := blk_frozen HZ7.out 2; have q0 : w7.cell? ⟨w.heap.size + 1, 0, none⟩ = some (.string p0) := (blk_cell HP7.out 0).trans rfl; have q1 : w7.cell? ⟨w.heap.size + 1, 1, none⟩ = some (.string p1) := (blk_cell HP7.out 1).trans rfl; have q2 : w7.cell? ⟨w.heap.size + 1, 2, none⟩ = some (.string p2) := (blk_cell HP7.out 2).trans rfl))
              go_roundw
              case rel => exact ⟨k + 1, congrArg (Value.int .i64) HKW.out, HK.out, HM.out ▸ HR.out, HZ7.out, HP7.out, HB7.out⟩
              case measure => exact isa_next HK.out HKW.out
          · rw [if_neg hok] at hR
            have HR := Aside0.mk hR
            rw [show (if ipOk pn nn = true then (0 : Int) else 1) = 1 from if_neg hok] at HE
            clear hR hok
            go_wp2_with (first | (go_at_call_of 46 (Value.string p1); refine (atoi_any p1 HZ1.out _ (HG.out.below (below_alloc HB.out _))).mono ?_; rw [HPN.out]; rintro e w3 ⟨v3, rfl, hb⟩; have HV3 := Aside0.mk (blk_below (blk_new wr (.cells #[.int .i64 (k : Int), .int .i64 0, .int .i64 0] 45)) hb); have HZ3 := Aside0.mk (blk_below (blk_alloc HZ.out (.cells #[.int .i64 (k : Int), .int .i64 0, .int .i64 0] 45)) hb); have HP3 := Aside0.mk (blk_below (blk_alloc HP.out (.cells #[.int .i64 (k : Int), .int .i64 0, .int .i64 0] 45)) hb); have HB3 := Aside0.mk (below_step (below_alloc HB.out (.cells #[.int .i64 (k : Int), .int .i64 0, .int .i64 0] 45)) hb); clear hb; have d0 : w3.cell? ⟨wr.heap.size, 0, none⟩ = some (.int .i64 (k : Int)) := (blk_cell HV3.out 0).trans rfl; have m0 := blk_frozen HV3.out 0; have d1 : w3.cell? ⟨wr.heap.size, 1, none⟩ = some (.int .i64 0) := (blk_cell HV3.out 1).trans rfl; have m1 := blk_frozen HV3.out 1; have d2 : w3.cell? ⟨wr.heap.size, 2, none⟩ = some (.int .i64 0) := (blk_cell HV3.out 2).trans rfl; have m2 := blk_frozen HV3.out 2; have g0 : w3.cell? ⟨w.heap.size, 0, none⟩ = some (.int .i64 0) := (blk_cell HZ3.out 0).trans rfl; have k0 := blk_frozen HZ3.out 0; have g1 : w3.cell? ⟨w.heap.size, 1, none⟩ = some (.int .i64 0) := (blk_cell HZ3.out 1).trans rfl; have k1 := blk_frozen HZ3.out 1; have g2 : w3.cell? ⟨w.heap.size, 2, none⟩ = some (.int .i64 0) := (blk_cell HZ3.out 2).trans rfl; have k2 := blk_frozen HZ3.out 2; have q0 : w3.cell? ⟨w.heap.size + 1, 0, none⟩ = some (.string p0) := (blk_cell HP3.out 0).trans rfl; have q1 : w3.cell? ⟨w.heap.size + 1, 1, none⟩ = some (.string p1) := (blk_cell HP3.out 1).trans rfl; have q2 : w3.cell? ⟨w.heap.size + 1, 2, none⟩ = some (.string p2) := (blk_cell HP3.out 2).trans rfl) | (go_at_call_of 46 (Value.string p2); refine (atoi_any p2 HZ2.out _ (HG.out.below (below_set HB3.out HLE.out))).mono ?_; rw [HNB.out]; rintro e w5 ⟨v5, rfl, hb⟩; have HV5 := Aside0.mk (blk_below (blk_put (cs' := #[.int .i64 (k : Int), .int .i64 pn, .int .i64 0]) HV3.out 1 (.int .i64 pn) rfl) hb); have HZ5 := Aside0.mk (blk_below (blk_far HZ3.out (p := ⟨wr.heap.size, 1, none⟩) HN0.out (.int .i64 pn)) hb); have HP5 := Aside0.mk (blk_below (blk_far HP3.out (p := ⟨wr.heap.size, 1, none⟩) HN1.out (.int .i64 pn)) hb); have HB5 := Aside0.mk (below_step (below_set HB3.out HLE.out) hb); clear hb; have d0 : w5.cell? ⟨wr.heap.size, 0, none⟩ = some (.int .i64 (k : Int)) := (blk_cell HV5.out 0).trans rfl; have m0 := blk_frozen HV5.out 0; have d1 : w5.cell? ⟨wr.heap.size, 1, none⟩ = some (.int .i64 pn) := (blk_cell HV5.out 1).trans rfl; have m1 := blk_frozen HV5.out 1; have d2 : w5.cell? ⟨wr.heap.size, 2, none⟩ = some (.int .i64 0) := (blk_cell HV5.out 2).trans rfl; have m2 := blk_frozen HV5.out 2; have g0 : w5.cell? ⟨w.heap.size, 0, none⟩ = some (.int .i64 0) := (blk_cell HZ5.out 0).trans rfl; have k0 := blk_frozen HZ5.out 0; have g1 : w5.cell? ⟨w.heap.size, 1, none⟩ = some (.int .i64 0) := (blk_cell HZ5.out 1).trans rfl; have k1 := blk_frozen HZ5.out 1; have g2 : w5.cell? ⟨w.heap.size, 2, none⟩ = some (.int .i64 0) := (blk_cell HZ5.out 2).trans rfl; have k2 := blk_frozen HZ5.out 2; have q0 : w5.cell? ⟨w.heap.size + 1, 0, none⟩ = some (.string p0) := (blk_cell HP5.out 0).trans rfl; have q1 : w5.cell? ⟨w.heap.size + 1, 1, none⟩ = some (.string p1) := (blk_cell HP5.out 1).trans rfl; have q2 : w5.cell? ⟨w.heap.size + 1, 2, none⟩ = some (.string p2) := (blk_cell HP5.out 2).trans rfl) | (go_at_call 39; refine (isa_Encode.calls 1 (k : Int) pn nn _ _ _ HE.out).mono ?_; rintro e w6 ⟨rfl, hb⟩; have HV6 := Aside0.mk (blk_below (blk_put (cs' := #[.int .i64 (k : Int), .int .i64 pn, .int .i64 nn]) HV5.out 2 (.int .i64 nn) rfl) hb); have HZ6 := Aside0.mk (blk_below (blk_far HZ5.out (p := ⟨wr.heap.size, 2, none⟩) HN0.out (.int .i64 nn)) hb); have HP6 := Aside0.mk (blk_below (blk_far HP5.out (p := ⟨wr.heap.size, 2, none⟩) HN1.out (.int .i64 nn)) hb); have HB6 := Aside0.mk (below_step (below_set HB5.out HLE.out) hb); clear hb; have d0 : w6.cell? ⟨wr.heap.size, 0, none⟩ = some (.int .i64 (k : Int)) := (blk_cell HV6.out 0).trans rfl; have m0 := blk_frozen HV6.out 0; have d1 : w6.cell? ⟨wr.heap.size, 1, none⟩ = some (.int .i64 pn) := (blk_cell HV6.out 1).trans rfl; have m1 := blk_frozen HV6.out 1; have d2 : w6.cell? ⟨wr.heap.size, 2, none⟩ = some (.int .i64 nn) := (blk_cell HV6.out 2).trans rfl; have m2 := blk_frozen HV6.out 2; have g0 : w6.cell? ⟨w.heap.size, 0, none⟩ = some (.int .i64 0) := (blk_cell HZ6.out 0).trans rfl; have k0 := blk_frozen HZ6.out 0; have g1 : w6.cell? ⟨w.heap.size, 1, none⟩ = some (.int .i64 0) := (blk_cell HZ6.out 1).trans rfl; have k1 := blk_frozen HZ6.out 1; have g2 : w6.cell? ⟨w.heap.size, 2, none⟩ = some (.int .i64 0) := (blk_cell HZ6.out 2).trans rfl; have k2 := blk_frozen HZ6.out 2; have q0 : w6.cell? ⟨w.heap.size + 1, 0, none⟩ = some (.string p0) := (blk_cell HP6.out 0).trans rfl; have q1 : w6.cell? ⟨w.heap.size + 1, 1, none⟩ = some (.string p1) := (blk_cell HP6.out 1).trans rfl; have q2 : w6.cell? ⟨w.heap.size + 1, 2, none⟩ = some (.string p2) := (blk_cell HP6.out 2).trans rfl))
            go_roundw
            case rel => exact ⟨k + 1, congrArg (Value.int .i64) HKW.out, HK.out, HM.out ▸ HR.out, HZ6.out, HP6.out, HB6.out⟩
            case measure => exact isa_next HK.out HKW.out
        · rw [if_neg hnm] at hR
          have HR := Aside0.mk hR
          have e1 : ((opName k).toList == p0.toList) = false := beq_eq_false_iff_ne.2 hnm
          have e2 : ((opName k).toList != p0.toList) = true := by rw [bne, e1]; rfl
          clear hR hnm
          go_wp2
          go_roundw
          case rel => exact ⟨k + 1, congrArg (Value.int .i64) HKW.out, HK.out, HM.out ▸ HR.out, HZ.out, HP.out, HB.out⟩
          case measure => exact isa_next HK.out HKW.out
      · obtain rfl : k = 23 := by omega
        have HR := Aside0.mk hR
        clear hR hk hk2
        go_wp2
        refine bodyPost_ret (results_ct rfl _ _ w.heap.size 45 #[.int .i64 0, .int .i64 0, .int .i64 0] (0, 0) _ rfl (by refine blk_put (cs := #[.int .i64 0, .int .i64 0, .int .i64 0]) ?_ 2 _ rfl; refine blk_put (cs := #[.int .i64 0, .int .i64 0, .int .i64 0]) ?_ 1 _ rfl; refine blk_put (cs := #[.int .i64 0, .int .i64 0, .int .i64 0]) ?_ 0 _ rfl; exact HZ.out) Tryd.underlying45 rfl (by kernel_rfl)) rfl ?_
        have hq := HR.out
        simp only [iloop, Nat.sub_self, Prod.mk.injEq] at hq
        obtain ⟨rfl, rfl, rfl, rfl⟩ := hq
        exact ⟨rfl, below_set (below_set (below_set HB.out (Nat.le_refl _)) (Nat.le_refl _)) (Nat.le_refl _)⟩
  · rw [hn, if_neg h3] at hr
    have HR := Aside0.mk hr
    clear hn hp hs hr hsz hlen
    have t1 : ((n : Int) + 1 == 3) = false := by rw [beq_eq_false_iff_ne]; omega
    have t2 : ((n : Int) + 1 != 3) = true := by rw [bne, t1]; rfl
    have t3 : (((n + 1 : Nat) : Int) == 3) = false := by rw [beq_eq_false_iff_ne]; omega
    have t4 : (((n + 1 : Nat) : Int) != 3) = true := by rw [bne, t3]; rfl
    clear h3
    go_enter Tryd.func35, Tryd.ntmps35
    go_wp2_with (go_at_call 45; refine (split_any a0 32 HS.out _ (HG.out.below (by with_reducible repeat (first | exact Below.refl _ _ | apply below_alloc | apply below_drew1))) n HNN.out ps HPP.out).mono ?_; rintro e w1 ⟨rfl, rfl⟩)
    refine bodyPost_ret (results_ct rfl _ _ w.heap.size 45 #[.int .i64 0, .int .i64 0, .int .i64 0] (0, 0) _ rfl (blk_alloc (blk_new _ _) _) Tryd.underlying45 rfl (by kernel_rfl)) rfl ?_
    have hq := HR.out
    simp only [Prod.mk.injEq] at hq
    obtain ⟨rfl, rfl, rfl, rfl⟩ := hq
    exact ⟨rfl, by with_reducible repeat (first | exact Below.refl _ _ | apply below_alloc | apply below_drew1)⟩

end Go.Proofs.YtnepinkookbanaaDoor.X
