/- Written by a program of this session over the kit's print: YtcjkekdmmjfgeaaF10. -/
import Derived.Test.YtcjkekdmmjfgeaaH
import Derived.Test.YtcjkekdmmjfgeaaF31
import Derived.Test.YtcjkekdmmjfgeaaF32
import Derived.Test.YtcjkekdmmjfgeaaF35
import Derived.Test.YtcjkekdmmjfgeaaPUser
import Derived.Test.YtcjkekdmmjfgeaaRowb
import Derived.WalkKit
import Derived.BigCall
namespace Go.Proofs.Ytcjkekdmmjfgeaa.X
open Go.RowKit Go.Proofs.YtcjkekdmmjfgeaaW.PrintWords Go.Proofs.YtcjkekdmmjfgeaaW.PrintLast Go.Proofs.YtcjkekdmmjfgeaaW.PrintMore Go.Proofs.Ytcjkekdmmjfgeaa.More
attribute [local go_sem] max2_int min2_int max_two min_two max_three min_three max_four min_four binOp_string_leq binOp_string_gtr   -- for this text's walks alone
set_option linter.unusedVariables false
set_option linter.unusedSimpArgs false

/-! ### donjonlaw9_UserWrong: function 10 -/
open Go.Proofs.Ytcjkekdmmjfgeaa.Pure Go.Proofs.Ytcjkekdmmjfgeaa.Lib Go.Proofs.Ytcjkekdmmjfgeaa.More
def donjonlaw9_UserWrong.f (l0 : List S54) (a1 : Int) (a2 : Int) : Option Bool := if 0 ≤ a2 ∧ a2 < 256 then some true else none
set_option maxRecDepth 100000 in
theorem UserWrong.names : ∀ p : Fin 8, (strOfNums (bytesOf (nmB p.val ++ nmB p.val)) = nmB p.val ++ nmB p.val) ∧ bytesOf (nmB p.val ++ nmB p.val) = [97 + (p.val : Int), 97 + (p.val : Int)] := by decide +kernel
theorem UserWrong.longer (p q : Nat) : (nmB q).data.toList ≠ (nmB p ++ (⟨#[120]⟩ : ByteArray)).data.toList := by
  intro e
  have h := congrArg List.length e
  have z : ∀ x : ByteArray, x.data.toList.length = x.size := fun x => by simp
  rw [z, z, ByteArray.size_append, nmB_size, nmB_size] at h
  exact absurd h (by decide)
theorem UserWrong.empty (q : Nat) : (nmB q).data.toList ≠ (⟨#[]⟩ : ByteArray).data.toList := by
  intro e
  have h := congrArg List.length e
  have z : ∀ x : ByteArray, x.data.toList.length = x.size := fun x => by simp
  rw [z, z, nmB_size] at h
  exact absurd h (by decide)
theorem UserWrong.bytes_two (x y : Int) (hx0 : 0 ≤ x) (hx : x < 256) (hy0 : 0 ≤ y) (hy : y < 256) : bytesOf (strOfNums [x, y]) = [x, y] := by
  unfold bytesOf strOfNums
  simp
  omega
theorem UserWrong.chain_one (h z : Int) : chain h [z] = hstep h z := rfl
theorem UserWrong.chain_two (h x z : Int) (l : List Int) : chain h (l ++ [x, z]) = hstep (chain h (l ++ [x])) z := by
  rw [show l ++ [x, z] = (l ++ [x]) ++ [z] by simp, chain_append h (l ++ [x]) [z], UserWrong.chain_one]
theorem UserWrong.turned (a x y : Int) (hx0 : 0 ≤ x) (hx : x < 256) (hy0 : 0 ≤ y) (hy : y < 256) (hne : y ≠ x) (s : ByteArray) (hs : bytesOf s = [x, x]) : ofV a (strOfNums [x, y]) ≠ ofV a s := by
  intro e
  unfold ofV at e
  rw [UserWrong.bytes_two x y hx0 hx hy0 hy, hs, UserWrong.chain_two, UserWrong.chain_two] at e
  have hc := chain_range (h := 14695981039346656037) (by omega) (by omega) (saltB a 8 ++ [x])
  exact hne (hstep_inj hc.1 hc.2 hy0 hy hx0 hx e)
set_option maxRecDepth 100000 in
set_option maxHeartbeats 8000000 in
theorem donjonlaw9_UserWrong.calls (A0 : Option Addr) (c0 : Nat) (l0 : List S54) (a1 : Int) (a2 : Int) (r : Bool) (w : World) (hr0 : Kd.C k54 w A0 l0.length l0) (hc0 : l0.length ≤ c0) (h : donjonlaw9_UserWrong.f l0 a1 a2 = some r) :
    Calls Try.prog 10 #[.slice A0 l0.length c0, .int .i64 a1, .int .u8 a2] w fun e w' => e = .returned (.bool r) ∧ Below w.heap.size w w' := by
  obtain ⟨ha2, rfl⟩ : (0 ≤ a2 ∧ a2 < 256) ∧ true = r := by
    unfold donjonlaw9_UserWrong.f at h
    by_cases h1 : 0 ≤ a2 ∧ a2 < 256
    · rw [if_pos h1] at h
      exact ⟨h1, Option.some.inj h⟩
    · rw [if_neg h1] at h
      exact absurd h (by simp)
  clear h
  have hsome := some_f l0 100 (by omega)
  have hle := users_le l0
  have hrise := users_rising l0
  have hget : ∀ p : Nat, p < (usersV l0).length → rd_T58 (usersV l0) (p : Int) = mkU l0 p := fun p hp => usersV_get l0 hp
  obtain ⟨us, hus⟩ : ∃ us, usersV l0 = us := ⟨_, rfl⟩
  rw [hus] at hsome hle hrise hget
  have HSOME := Aside0.mk hsome
  have HLE := Aside0.mk hle
  have HRISE := Aside0.mk hrise
  have HGET := Aside0.mk hget
  have HA2 := Aside0.mk ha2
  have HR0 := Aside0.mk hr0
  have HC0 := Aside0.mk hc0
  clear hus hsome hle hrise hget ha2 hr0 hc0
  go_enter Try.func10, Try.ntmps10
  go_wp2_with fail
  refine (donjonlaw9_known.calls 1 true _ (known9 1)).mono ?_
  rintro e w1 ⟨rfl, hb1⟩
  have HB1 := Aside0.mk (below_step (Below.refl w.heap.size w) hb1)
  clear hb1
  go_wp2_with fail
  refine (donjonlaw9_Some.calls 100 A0 c0 l0 us _ (Kd.C_below HR0.out HB1.out) HC0.out HSOME.out).mono ?_
  rintro e w2 ⟨v0, rfl, hO, hb2⟩
  have HB2 := Aside0.mk (below_step HB1.out hb2)
  have HO2 := Aside0.mk (Kd.R_lower hO HB1.out.size)
  clear hb2 hO
  obtain ⟨Ao, co, eo⟩ := Kd.R_slice HO2.out
  subst eo
  by_cases h0 : us.length = 0
  · have e0 : ((us.length : Int) == 0) = true := beq_iff_eq.2 (by omega)
    clear h0
    go_wp2
    go_ret
    exact ⟨rfl, HB2.out⟩
  · have e0 : ((us.length : Int) == 0) = false := beq_eq_false_iff_ne.2 (by omega)
    have e0b : ((us.length : Int) = 0) = False := eq_false (by omega)
    by_cases h1 : a1 < 0
    · have e1 : decide (a1 < 0) = true := decide_eq_true h1
      clear h0 h1
      go_wp2
      go_ret
      exact ⟨rfl, HB2.out⟩
    · have e1 : decide (a1 < 0) = false := decide_eq_false h1
      by_cases h2 : a2 = 0
      · have e2 : (a2 == 0) = true := beq_iff_eq.2 h2
        clear h0 h1 h2
        go_wp2
        go_ret
        exact ⟨rfl, HB2.out⟩
      · have e2 : (a2 == 0) = false := beq_eq_false_iff_ne.2 h2
        obtain ⟨p, hp, hpl⟩ : ∃ p : Nat, Int.tmod a1 (us.length : Int) = (p : Int) ∧ p < us.length := by
          have hz : (us.length : Int) ≠ 0 := by omega
          have g1 := Int.emod_nonneg a1 hz
          have g2 := Int.emod_lt_of_pos a1 (by omega : (0 : Int) < (us.length : Int))
          rw [Int.tmod_eq_emod_of_nonneg (by omega)]
          exact ⟨(a1 % (us.length : Int)).toNat, by omega, by omega⟩
        have p8 : p < 8 := by have := HLE.out; omega
        have hU := HGET.out p hpl
        -- who enters
        have hkey : ∀ q, q < us.length → keyU us q = (nmB q).toList := fun q hq => by
          unfold keyU
          rw [HGET.out q hq]
          rfl
        have hlab : Lab (rd_T58 us (p : Int)).f3.f0 (rd_T58 us (p : Int)).f3.f1 (rd_T58 us (p : Int)).f3.f2 (rd_T58 us (p : Int)).f3.f3 := by
          rw [hU]
          exact mkU_lab l0 p
        have hall : us.length ≤ 1000000 := by have := HLE.out; omega
        obtain ⟨hn1, hn2⟩ := UserWrong.names ⟨p, p8⟩
        simp only at hn1 hn2
        have E1 : user_Enter.f 100 us (nmB p) (strOfNums (bytesOf (nmB p ++ nmB p))) (mkU l0 p).f3.f0 (mkU l0 p).f3.f1 (mkU l0 p).f3.f2 (mkU l0 p).f3.f3 = some 0 := by
          rw [hn1, enter_is hall HRISE.out (nmB p) (nmB p ++ nmB p) (by rw [nmB2_size]; decide) p hpl (hkey p hpl) hlab (mkU_lab l0 p) 100 (by rw [nmB2_size]; decide), hU]
          unfold enterV
          rw [if_pos ⟨rfl, by simp [overV]⟩]
        have E2 : ∀ y : Int, 0 ≤ y → y < 256 → y ≠ 97 + (p : Int) → user_Enter.f 100 us (nmB p) (strOfNums [97 + (p : Int), y]) (mkU l0 p).f3.f0 (mkU l0 p).f3.f1 (mkU l0 p).f3.f2 (mkU l0 p).f3.f3 = some 21 := by
          intro y hy0 hy hne
          have hz : (strOfNums [97 + (p : Int), y]).size = 2 := by
            show (List.toArray _).size = _
            simp
          rw [enter_is hall HRISE.out (nmB p) (strOfNums [97 + (p : Int), y]) (by rw [hz]; decide) p hpl (hkey p hpl) hlab (mkU_lab l0 p) 100 (by rw [hz]; decide), hU]
          unfold enterV
          rw [if_neg (fun h_ => UserWrong.turned ((p : Int) * 7) (97 + (p : Int)) y (by omega) (by omega) hy0 hy hne (nmB p ++ nmB p) hn2 h_.1)]
        have E3 : user_Enter.f 100 us (nmB p ++ (⟨#[120]⟩ : ByteArray)) (nmB p ++ nmB p) (mkU l0 p).f3.f0 (mkU l0 p).f3.f1 (mkU l0 p).f3.f2 (mkU l0 p).f3.f3 = some 21 := by
          refine enter_not hall HRISE.out _ _ (fun q hq e_ => ?_) _ _ _ _ 100
          rw [hkey q hq, Lib.toList_data, Lib.toList_data] at e_
          exact UserWrong.longer p q e_
        have E4 : user_Enter.f 100 us (⟨#[]⟩ : ByteArray) (⟨#[]⟩ : ByteArray) (mkU l0 p).f3.f0 (mkU l0 p).f3.f1 (mkU l0 p).f3.f2 (mkU l0 p).f3.f3 = some 21 := by
          refine enter_not hall HRISE.out _ _ (fun q hq e_ => ?_) _ _ _ _ 100
          rw [hkey q hq, Lib.toList_data, Lib.toList_data] at e_
          exact UserWrong.empty q e_
        obtain ⟨ad, ead, x0, x1, x2, x3, x4, x5, x6, x7⟩ := at_T58 (Kd.R_reads' HO2.out).2.2 (p : Int) (by omega) (by omega)
        cases ead
        rw [hU] at x0 x1 x2 x3 x4 x5 x6 x7
        simp only [Int.toNat_natCast] at x0 x1 x2 x3 x4 x5 x6 x7
        have hnm : (mkU l0 p).f0 = nmB p := rfl
        rw [hnm] at x0
        generalize (mkU l0 p).f1 = sal at x1
        generalize (mkU l0 p).f2 = hsh at x2
        generalize (mkU l0 p).f3.f0 = ls at x3 E1 E2 E3 E4
        generalize (mkU l0 p).f3.f1 = lc at x4 E1 E2 E3 E4
        generalize (mkU l0 p).f3.f2 = li at x5 E1 E2 E3 E4
        generalize (mkU l0 p).f3.f3 = ld at x6 E1 E2 E3 E4
        generalize (mkU l0 p).f4 = off at x7
        have hz1 := nmB_size p
        have hz2 := nmB2_size p
        obtain ⟨y, hy, hy0, hy1, hyn⟩ : ∃ y : Int, Go.bits .xor .u8 (97 + (p : Int)) a2 = y ∧ 0 ≤ y ∧ y < 256 ∧ y ≠ 97 + (p : Int) := by
          have ha := HA2.out
          have hx := xor_u8 (a := 97 + (p : Int)) (b := a2) (by omega) (by omega) ha.1 ha.2
          have hlt : (97 + (p : Int)).toNat ^^^ a2.toNat < 2 ^ 8 := Nat.xor_lt_two_pow (by omega) (by omega)
          have hne := nat_xor_ne (a := (97 + (p : Int)).toNat) (b := a2.toNat) (by omega)
          exact ⟨_, rfl, by omega, by omega, by omega⟩
        have HE2 := Aside0.mk (E2 y hy0 hy1 hyn)
        generalize nmB p = nm at hn1 hn2 E1 E3 x0 hz1 hz2 HE2
        rw [hn2] at E1
        have HE1 := Aside0.mk E1
        have HE3 := Aside0.mk E3
        have HE4 := Aside0.mk E4
        have HN1 := Aside0.mk hn1
        have HN2 := Aside0.mk hn2
        have HZ1 := Aside0.mk hz1
        have HZ2 := Aside0.mk hz2
        have HY := Aside0.mk hy
        have pp : (0 ≤ (p : Int)) = True := eq_true (by omega)
        have qq : ((p : Int) < (us.length : Int)) = True := eq_true (by omega)
        have pt : (0 ≤ Int.tmod a1 (us.length : Int)) = True := eq_true (by omega)
        have qt : (Int.tmod a1 (us.length : Int) < (us.length : Int)) = True := eq_true (by omega)
        have hcat : (9223372036854775807 < nm.size + nm.size) = False := eq_false (by omega)
        have hcat2 : (9223372036854775807 < nm.size + 1) = False := eq_false (by omega)
        have hll : (mkU l0 p).f3.f0 = (mkU l0 p).f3.f0 := rfl
        clear E1 E2 E3 E4 hn1 hn2 hz1 hz2 hy h0 h1 h2 hU hkey hlab hall hll hnm hy0 hy1 hyn
        go_wp2_with (first
          | ((with_reducible refine gate_dst (N := 37) rfl ?_); refine E_bytes 5 rfl 9 23 _ rfl (nm ++ nm) rfl Try.underlying9 Try.underlying23 Try.underlying5 ?_; intro g c w6 hR hb6 hg hc; have hgg : w2.heap.size < g := (by have h_ := hg; simp at h_; omega); have HGG := Aside0.mk hgg; have HD6 : Aside0 (Below w2.heap.size w2 w6) := ⟨below_step (below_alloc (Below.refl _ _) _) hb6⟩; have HX6 := Aside0.mk (blk_below (blk_new w2 (.cells #[.string nm, .int .i64 sal, .int .u64 hsh, .int .i64 ls, .int .i64 lc, .int .i64 li, .int .i64 ld, .bool off] 58)) hb6); rw [HN2.out] at hR; have HR6 := Aside0.mk hR; have HNG : Aside0 (w2.heap.size ≠ g) := ⟨by omega⟩; have hng1 : ¬ w2.heap.size = g := (by omega); have hng2 : ¬ g = w2.heap.size := (by omega); clear hR hb6 hg hc hgg; have b0 : World.cell? w6 ⟨w2.heap.size, 0, none⟩ = some (.string nm) := (blk_cell HX6.out 0).trans rfl; have b3 : World.cell? w6 ⟨w2.heap.size, 3, none⟩ = some (.int .i64 ls) := (blk_cell HX6.out 3).trans rfl; have b4 : World.cell? w6 ⟨w2.heap.size, 4, none⟩ = some (.int .i64 lc) := (blk_cell HX6.out 4).trans rfl; have b5 : World.cell? w6 ⟨w2.heap.size, 5, none⟩ = some (.int .i64 li) := (blk_cell HX6.out 5).trans rfl; have b6 : World.cell? w6 ⟨w2.heap.size, 6, none⟩ = some (.int .i64 ld) := (blk_cell HX6.out 6).trans rfl)
          | ((with_reducible refine gate_dst (N := 42) rfl ?_); refine E_str 5 rfl 23 9 _ rfl g _ c [97 + (p : Int), 97 + (p : Int)] ?_ rfl Try.underlying23 Try.underlying5 Try.underlying9 HR6.out (by show 2 ≤ _; omega) ?_; (first | exact HZ2.out.symm | (have h_ := HZ1.out; simp; omega))))
        refine (user_Enter.calls 100 _ co us nm (strOfNums [97 + (p : Int), 97 + (p : Int)]) ls lc li ld 0 _ (Kd.R_reads' (e := 58) (base := w.heap.size) (ok := fun _ => True) (n := us.length) (c := co) (Kd.R_below HO2.out HD6.out)).2.2 (Kd.R_reads' (e := 58) (base := w.heap.size) (ok := fun _ => True) (n := us.length) (c := co) (Kd.R_below HO2.out HD6.out)).2.1 HE1.out).mono ?_
        rintro e w7 ⟨rfl, hb7⟩
        have HD7 := Aside0.mk (below_step HD6.out hb7)
        have HX7 := Aside0.mk (blk_below HX6.out hb7)
        have HR7 := Aside0.mk (RowB.below HR6.out hb7)
        clear hb7 b0 b3 b4 b5 b6
        have b0 : World.cell? w7 ⟨w2.heap.size, 0, none⟩ = some (.string nm) := (blk_cell HX7.out 0).trans rfl
        have b3 : World.cell? w7 ⟨w2.heap.size, 3, none⟩ = some (.int .i64 ls) := (blk_cell HX7.out 3).trans rfl
        have b4 : World.cell? w7 ⟨w2.heap.size, 4, none⟩ = some (.int .i64 lc) := (blk_cell HX7.out 4).trans rfl
        have b5 : World.cell? w7 ⟨w2.heap.size, 5, none⟩ = some (.int .i64 li) := (blk_cell HX7.out 5).trans rfl
        have b6 : World.cell? w7 ⟨w2.heap.size, 6, none⟩ = some (.int .i64 ld) := (blk_cell HX7.out 6).trans rfl
        have ck : w7.cell? ⟨g, 1, none⟩ = some (.int .u8 (97 + (p : Int))) := (HR7.out.2 1 (by show 1 < 2; omega)).1
        have fk : w7.frozen? ⟨g, 1, none⟩ = false := (HR7.out.2 1 (by show 1 < 2; omega)).2
        have z1 : (nm.size : Int) + (nm.size : Int) = 2 := by have := HZ1.out; omega
        have z2 : nm.size + nm.size = 2 := by have := HZ1.out; omega
        have z3 : (nm ++ nm).size = 2 := HZ2.out
        have z4 := HZ1.out
        go_wp2_with ((with_reducible refine gate_dst (N := 62) rfl ?_); refine E_str 5 rfl 23 9 _ rfl g _ c [97 + (p : Int), y] ?_ rfl Try.underlying23 Try.underlying5 Try.underlying9 ?_ (by show 2 ≤ _; omega) ?_; (first | exact HZ2.out.symm | rfl | (have h_ := HZ1.out; simp; omega)); (rw [← HY.out]; exact RowB.set HR7.out 1 _))
        have HD8 : Aside0 (Below w2.heap.size w2 (w7.setCell ⟨g, 1, none⟩ (.int .u8 (Go.bits .xor .u8 (97 + (p : Int)) a2)))) := ⟨below_set HD7.out (Nat.le_of_lt HGG.out)⟩
        have HX8 : Aside0 ((w7.setCell ⟨g, 1, none⟩ (.int .u8 (Go.bits .xor .u8 (97 + (p : Int)) a2))).heap[w2.heap.size]? = some (.cells #[.string nm, .int .i64 sal, .int .u64 hsh, .int .i64 ls, .int .i64 lc, .int .i64 li, .int .i64 ld, .bool off] 58)) := ⟨blk_far HX7.out HNG.out _⟩
        refine (user_Enter.calls 100 _ co us nm (strOfNums [97 + (p : Int), y]) ls lc li ld 21 _ (Kd.R_reads' (e := 58) (base := w.heap.size) (ok := fun _ => True) (n := us.length) (c := co) (Kd.R_below HO2.out HD8.out)).2.2 (Kd.R_reads' (e := 58) (base := w.heap.size) (ok := fun _ => True) (n := us.length) (c := co) (Kd.R_below HO2.out HD8.out)).2.1 HE2.out).mono ?_
        rintro e w9 ⟨rfl, hb9⟩
        have HD9 := Aside0.mk (below_step HD8.out hb9)
        have HX9 := Aside0.mk (blk_below HX8.out hb9)
        clear hb9 b0 b3 b4 b5 b6 ck fk
        have b0 : World.cell? w9 ⟨w2.heap.size, 0, none⟩ = some (.string nm) := (blk_cell HX9.out 0).trans rfl
        have b3 : World.cell? w9 ⟨w2.heap.size, 3, none⟩ = some (.int .i64 ls) := (blk_cell HX9.out 3).trans rfl
        have b4 : World.cell? w9 ⟨w2.heap.size, 4, none⟩ = some (.int .i64 lc) := (blk_cell HX9.out 4).trans rfl
        have b5 : World.cell? w9 ⟨w2.heap.size, 5, none⟩ = some (.int .i64 li) := (blk_cell HX9.out 5).trans rfl
        have b6 : World.cell? w9 ⟨w2.heap.size, 6, none⟩ = some (.int .i64 ld) := (blk_cell HX9.out 6).trans rfl
        go_wp2_with fail
        refine (user_Enter.calls 100 _ co us (nm ++ (⟨#[120]⟩ : ByteArray)) (nm ++ nm) ls lc li ld 21 _ (Kd.R_reads' (e := 58) (base := w.heap.size) (ok := fun _ => True) (n := us.length) (c := co) (Kd.R_below HO2.out HD9.out)).2.2 (Kd.R_reads' (e := 58) (base := w.heap.size) (ok := fun _ => True) (n := us.length) (c := co) (Kd.R_below HO2.out HD9.out)).2.1 HE3.out).mono ?_
        rintro e w10 ⟨rfl, hb10⟩
        have HD10 := Aside0.mk (below_step HD9.out hb10)
        have HX10 := Aside0.mk (blk_below HX9.out hb10)
        clear hb10 b0 b3 b4 b5 b6
        have b0 : World.cell? w10 ⟨w2.heap.size, 0, none⟩ = some (.string nm) := (blk_cell HX10.out 0).trans rfl
        have b3 : World.cell? w10 ⟨w2.heap.size, 3, none⟩ = some (.int .i64 ls) := (blk_cell HX10.out 3).trans rfl
        have b4 : World.cell? w10 ⟨w2.heap.size, 4, none⟩ = some (.int .i64 lc) := (blk_cell HX10.out 4).trans rfl
        have b5 : World.cell? w10 ⟨w2.heap.size, 5, none⟩ = some (.int .i64 li) := (blk_cell HX10.out 5).trans rfl
        have b6 : World.cell? w10 ⟨w2.heap.size, 6, none⟩ = some (.int .i64 ld) := (blk_cell HX10.out 6).trans rfl
        go_wp2_with fail
        refine (user_Enter.calls 100 _ co us (⟨#[]⟩ : ByteArray) (⟨#[]⟩ : ByteArray) ls lc li ld 21 _ (Kd.R_reads' (e := 58) (base := w.heap.size) (ok := fun _ => True) (n := us.length) (c := co) (Kd.R_below HO2.out HD10.out)).2.2 (Kd.R_reads' (e := 58) (base := w.heap.size) (ok := fun _ => True) (n := us.length) (c := co) (Kd.R_below HO2.out HD10.out)).2.1 HE4.out).mono ?_
        rintro e w11 ⟨rfl, hb11⟩
        have HD11 := Aside0.mk (below_step HD10.out hb11)
        clear hb11
        go_wp2
        go_ret
        exact ⟨rfl, below_step HB2.out HD11.out⟩

end Go.Proofs.Ytcjkekdmmjfgeaa.X
