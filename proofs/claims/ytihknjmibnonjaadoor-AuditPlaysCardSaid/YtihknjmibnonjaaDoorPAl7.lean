/- The document's Add, walked by hand: the row stays, or one more stands in its place in a row of its own. -/
import Derived.Test.YtihknjmibnonjaaDoorPAl6
import Derived.WalkKit
import Derived.BigCall
import Derived.Deep.RegionWith
import Derived.Deep.CutBlock
import Derived.Deep.DeepCutAuto
namespace Go.Proofs.YtihknjmibnonjaaDoor.X
open Go.RowKit Go.Proofs.YtihknjmibnonjaaDoorW.PrintWords Go.Proofs.YtihknjmibnonjaaDoorW.PrintLast Go.Proofs.YtihknjmibnonjaaDoorW.PrintMore Go.Proofs.YtihknjmibnonjaaDoor.More Go.Proofs.YtihknjmibnonjaaDoor.Pure Go.Proofs.YtihknjmibnonjaaDoor.Lib
set_option linter.unusedVariables false
set_option linter.unusedSimpArgs false
set_option maxRecDepth 100000
theorem insE_past {e y : SE} {r : List SE} (h : lessS e.f1 y.f1 = false) : insE e (y :: r) = y :: insE e r := by
 conv => lhs; unfold insE
 exact if_neg (by rw [h]; decide)
theorem takeE_rd (l : List SE) (k : Int) (h0 : 0 ≤ k) (h : k < (l.length : Int)) : l.take (k + 1).toNat = l.take k.toNat ++ [rd_T26 l k] := by
 have h1 := take_rd l k.toNat (by omega)
 rwa [show (k + 1).toNat = k.toNat + 1 by omega, show ((k.toNat : Nat) : Int) = k by omega] at *
def ref14_Add.T7 : Bool × List (List Nat × List Nat) := (true, [([], []), ([], []), ([1], [1]), ([0, 2], [0, 2]), ([3], [3]), ([4], [4]), ([5, 4], [4, 5]), ([4], [4]), ([4], [4]), ([7, 8, 4], [4, 7, 8]), ([9, 4], [4, 9]), ([10, 4], [4, 10]), ([6, 11, 4, 4], [4, 6, 11]), ([12, 4], [4, 12]), ([4, 13], [4, 13])])
def ref14_Add.B7 : List Nat := [0, 0, 2, 7, 15, 31, 63, 31, 31, 415, 927, 1951, 4095, 8191, 16383]
theorem ref14_Add.tab7 : rtab .any (opsOf Tryd.f23 7) = ref14_Add.T7 := by kernel_rfl
theorem ref14_Add.bits7 : waitsOk ref14_Add.T7.2 ref14_Add.B7 = true := by kernel_rfl
theorem add14_c_bad (A : Option Addr) (c : Nat) (R : List SE) (e : SE) (w : World) (hm : ¬ mayE e) : Calls Tryd.prog 23 #[.slice A R.length c, ev e] w fun r w' => r = .returned (.tuple #[.slice A R.length c, .int .i64 1]) ∧ Below w.heap.size w w' := by
 have HMAY : Aside0 (donjonref14_May.f e.f0 e.f1.f0 e.f1.f1 e.f1.f2 e.f1.f3 e.f2 e.f3 e.f4 e.f5 = some 1) := ⟨by rw [may14_f, if_neg hm]⟩
 clear hm
 unfold ev
 go_enter Tryd.func23, Tryd.ntmps23
 go_upto_region 1 with fail
 have BE1 : Aside0 (BoxE (w.alloc (.cells #[.int .i64 e.f0, .int .i64 e.f1.f0, .int .i64 e.f1.f1, .int .i64 e.f1.f2, .int .i64 e.f1.f3, .string e.f2, .int .i64 e.f3, .string e.f4, .int .i64 e.f5] 26)) w.heap.size e) := ⟨blk_new w _⟩
 have HB1 : Aside0 (Below w.heap.size w (w.alloc (.cells #[.int .i64 e.f0, .int .i64 e.f1.f0, .int .i64 e.f1.f1, .int .i64 e.f1.f2, .int .i64 e.f1.f3, .string e.f2, .int .i64 e.f3, .string e.f4, .int .i64 e.f5] 26))) := ⟨below_alloc (Below.refl _ _) _⟩
 generalize w.alloc (.cells #[.int .i64 e.f0, .int .i64 e.f1.f0, .int .i64 e.f1.f1, .int .i64 e.f1.f2, .int .i64 e.f1.f3, .string e.f2, .int .i64 e.f3, .string e.f4, .int .i64 e.f5] 26) = w1 at BE1 HB1 ⊢
 have z0 : w1.cell? ⟨w.heap.size, 0, none⟩ = some (.int .i64 e.f0) := (blk_cell BE1.out 0).trans rfl
 have z1 : w1.cell? ⟨w.heap.size, 1, none⟩ = some (.int .i64 e.f1.f0) := (blk_cell BE1.out 1).trans rfl
 have z2 : w1.cell? ⟨w.heap.size, 2, none⟩ = some (.int .i64 e.f1.f1) := (blk_cell BE1.out 2).trans rfl
 have z3 : w1.cell? ⟨w.heap.size, 3, none⟩ = some (.int .i64 e.f1.f2) := (blk_cell BE1.out 3).trans rfl
 have z4 : w1.cell? ⟨w.heap.size, 4, none⟩ = some (.int .i64 e.f1.f3) := (blk_cell BE1.out 4).trans rfl
 have z5 : w1.cell? ⟨w.heap.size, 5, none⟩ = some (.string e.f2) := (blk_cell BE1.out 5).trans rfl
 have z6 : w1.cell? ⟨w.heap.size, 6, none⟩ = some (.int .i64 e.f3) := (blk_cell BE1.out 6).trans rfl
 have z7 : w1.cell? ⟨w.heap.size, 7, none⟩ = some (.string e.f4) := (blk_cell BE1.out 7).trans rfl
 have z8 : w1.cell? ⟨w.heap.size, 8, none⟩ = some (.int .i64 e.f5) := (blk_cell BE1.out 8).trans rfl
 go_wp2_with fail
 refine (donjonref14_May.calls e.f0 e.f1.f0 e.f1.f1 e.f1.f2 e.f1.f3 e.f2 e.f3 e.f4 e.f5 _ _ HMAY.out).mono ?_
 rintro e_ w2 ⟨rfl, hb⟩
 have BE2 := Aside0.mk (BE1.out.below hb)
 have HB2 := Aside0.mk (below_step HB1.out hb)
 clear hb BE1 HB1 z0 z1 z2 z3 z4 z5 z6 z7 z8
 go_wp2
 go_ret2
 exact ⟨rfl, HB2.out⟩
theorem add14_c_full (A : Option Addr) (c : Nat) (R : List SE) (e : SE) (w : World) (hC : Kd.C k26 w A R.length R) (hc : R.length ≤ c) (hl : R.length ≤ 1000) (hm : mayE e) (hf : 40 ≤ (atL e.f1 R).length) : Calls Tryd.prog 23 #[.slice A R.length c, ev e] w fun r w' => r = .returned (.tuple #[.slice A R.length c, .int .i64 18]) ∧ Below w.heap.size w w' := by
 have HMAY : Aside0 (donjonref14_May.f e.f0 e.f1.f0 e.f1.f1 e.f1.f2 e.f1.f3 e.f2 e.f3 e.f4 e.f5 = some 0) := ⟨by rw [may14_f, if_pos hm]⟩
 have HFUL : Aside0 (donjonref14_Full.f 1100 R e.f1.f0 e.f1.f1 e.f1.f2 e.f1.f3 = some true) := ⟨by rw [full_f e.f1 R 1100 (by omega) (by omega)]; exact congrArg some (decide_eq_true (by omega))⟩
 have HC := Aside0.mk hC
 have HCAP := Aside0.mk hc
 clear hC hc hl hm hf
 unfold ev
 go_enter Tryd.func23, Tryd.ntmps23
 go_upto_region 1 with fail
 have BE1 : Aside0 (BoxE (w.alloc (.cells #[.int .i64 e.f0, .int .i64 e.f1.f0, .int .i64 e.f1.f1, .int .i64 e.f1.f2, .int .i64 e.f1.f3, .string e.f2, .int .i64 e.f3, .string e.f4, .int .i64 e.f5] 26)) w.heap.size e) := ⟨blk_new w _⟩
 have HB1 : Aside0 (Below w.heap.size w (w.alloc (.cells #[.int .i64 e.f0, .int .i64 e.f1.f0, .int .i64 e.f1.f1, .int .i64 e.f1.f2, .int .i64 e.f1.f3, .string e.f2, .int .i64 e.f3, .string e.f4, .int .i64 e.f5] 26))) := ⟨below_alloc (Below.refl _ _) _⟩
 generalize w.alloc (.cells #[.int .i64 e.f0, .int .i64 e.f1.f0, .int .i64 e.f1.f1, .int .i64 e.f1.f2, .int .i64 e.f1.f3, .string e.f2, .int .i64 e.f3, .string e.f4, .int .i64 e.f5] 26) = w1 at BE1 HB1 ⊢
 have z0 : w1.cell? ⟨w.heap.size, 0, none⟩ = some (.int .i64 e.f0) := (blk_cell BE1.out 0).trans rfl
 have z1 : w1.cell? ⟨w.heap.size, 1, none⟩ = some (.int .i64 e.f1.f0) := (blk_cell BE1.out 1).trans rfl
 have z2 : w1.cell? ⟨w.heap.size, 2, none⟩ = some (.int .i64 e.f1.f1) := (blk_cell BE1.out 2).trans rfl
 have z3 : w1.cell? ⟨w.heap.size, 3, none⟩ = some (.int .i64 e.f1.f2) := (blk_cell BE1.out 3).trans rfl
 have z4 : w1.cell? ⟨w.heap.size, 4, none⟩ = some (.int .i64 e.f1.f3) := (blk_cell BE1.out 4).trans rfl
 have z5 : w1.cell? ⟨w.heap.size, 5, none⟩ = some (.string e.f2) := (blk_cell BE1.out 5).trans rfl
 have z6 : w1.cell? ⟨w.heap.size, 6, none⟩ = some (.int .i64 e.f3) := (blk_cell BE1.out 6).trans rfl
 have z7 : w1.cell? ⟨w.heap.size, 7, none⟩ = some (.string e.f4) := (blk_cell BE1.out 7).trans rfl
 have z8 : w1.cell? ⟨w.heap.size, 8, none⟩ = some (.int .i64 e.f5) := (blk_cell BE1.out 8).trans rfl
 go_wp2_with fail
 refine (donjonref14_May.calls e.f0 e.f1.f0 e.f1.f1 e.f1.f2 e.f1.f3 e.f2 e.f3 e.f4 e.f5 _ _ HMAY.out).mono ?_
 rintro e_ w2 ⟨rfl, hb⟩
 have BE2 := Aside0.mk (BE1.out.below hb)
 have HB2 := Aside0.mk (below_step HB1.out hb)
 clear hb BE1 HB1 z0 z1 z2 z3 z4 z5 z6 z7 z8
 have z0 : w2.cell? ⟨w.heap.size, 0, none⟩ = some (.int .i64 e.f0) := (blk_cell BE2.out 0).trans rfl
 have z1 : w2.cell? ⟨w.heap.size, 1, none⟩ = some (.int .i64 e.f1.f0) := (blk_cell BE2.out 1).trans rfl
 have z2 : w2.cell? ⟨w.heap.size, 2, none⟩ = some (.int .i64 e.f1.f1) := (blk_cell BE2.out 2).trans rfl
 have z3 : w2.cell? ⟨w.heap.size, 3, none⟩ = some (.int .i64 e.f1.f2) := (blk_cell BE2.out 3).trans rfl
 have z4 : w2.cell? ⟨w.heap.size, 4, none⟩ = some (.int .i64 e.f1.f3) := (blk_cell BE2.out 4).trans rfl
 have z5 : w2.cell? ⟨w.heap.size, 5, none⟩ = some (.string e.f2) := (blk_cell BE2.out 5).trans rfl
 have z6 : w2.cell? ⟨w.heap.size, 6, none⟩ = some (.int .i64 e.f3) := (blk_cell BE2.out 6).trans rfl
 have z7 : w2.cell? ⟨w.heap.size, 7, none⟩ = some (.string e.f4) := (blk_cell BE2.out 7).trans rfl
 have z8 : w2.cell? ⟨w.heap.size, 8, none⟩ = some (.int .i64 e.f5) := (blk_cell BE2.out 8).trans rfl
 go_wp2_with fail
 refine (donjonref14_Full.calls 1100 A c R e.f1.f0 e.f1.f1 e.f1.f2 e.f1.f3 _ _ (Kd.C_below HC.out HB2.out) HCAP.out HFUL.out).mono ?_
 rintro e_ w3 ⟨rfl, hb⟩
 have BE3 := Aside0.mk (BE2.out.below hb)
 have HB3 := Aside0.mk (below_step HB2.out hb)
 clear hb BE2 HB2 z0 z1 z2 z3 z4 z5 z6 z7 z8
 go_wp2
 go_ret2
 exact ⟨rfl, HB3.out⟩
set_option maxHeartbeats 16000000 in
theorem add14_c_ok (A : Option Addr) (c : Nat) (R : List SE) (e : SE) (w : World) (hC : Kd.C k26 w A R.length R) (hc : R.length ≤ c) (hl : R.length ≤ 1000) (hm : mayE e) (hf : ¬ 40 ≤ (atL e.f1 R).length) : Calls Tryd.prog 23 #[.slice A R.length c, ev e] w fun r w' => ∃ v, r = .returned (.tuple #[v, .int .i64 0]) ∧ RE w' w.heap.size (fun _ => True) v (insE (⟨((atL e.f1 R).length : Int) + 1, e.f1, e.f2, e.f3, e.f4, e.f5⟩ : SE) R) ∧ Below w.heap.size w w' := by
 have HMAY : Aside0 (donjonref14_May.f e.f0 e.f1.f0 e.f1.f1 e.f1.f2 e.f1.f3 e.f2 e.f3 e.f4 e.f5 = some 0) := ⟨by rw [may14_f, if_pos hm]⟩
 have HFUL : Aside0 (donjonref14_Full.f 1100 R e.f1.f0 e.f1.f1 e.f1.f2 e.f1.f3 = some false) := ⟨by rw [full_f e.f1 R 1100 (by omega) (by omega)]; exact congrArg some (decide_eq_false (by omega))⟩
 obtain ⟨L, hL⟩ : ∃ L, atL e.f1 R = L := ⟨_, rfl⟩
 have HALL : Aside0 (donjonref14_All.f 1100 R e.f1.f0 e.f1.f1 e.f1.f2 e.f1.f3 = some L) := ⟨by rw [all_f e.f1 R 1100 (by omega) (by omega), hL]⟩
 rw [hL] at hf ⊢
 obtain ⟨s, hs⟩ : ∃ s, ((L.length : Int)) + 1 = s := ⟨_, rfl⟩
 have ew : wrap64 ((L.length : Int) + 1) = s := by rw [← hs]; exact wrap64_id (by omega) (by omega)
 rw [hs]
 obtain ⟨e2, he2⟩ : ∃ e2, reE e s e.f1 = e2 := ⟨_, rfl⟩
 have hE2 : (⟨s, e.f1, e.f2, e.f3, e.f4, e.f5⟩ : SE) = e2 := he2
 rw [hE2]
 obtain ⟨N, hN⟩ : ∃ N, R.length = N := ⟨_, rfl⟩
 have HC := Aside0.mk hC
 have HCAP := Aside0.mk hc
 have HN : Aside0 (R.length = N ∧ N ≤ 1000) := ⟨hN, hN ▸ hl⟩
 have HE2 := Aside0.mk he2
 clear hC hc hl hm hf hL hs he2 hE2 hN
 unfold ev
 go_enter Tryd.func23, Tryd.ntmps23
 go_upto_region 1 with fail
 have BE1 : Aside0 (BoxE (w.alloc (.cells #[.int .i64 e.f0, .int .i64 e.f1.f0, .int .i64 e.f1.f1, .int .i64 e.f1.f2, .int .i64 e.f1.f3, .string e.f2, .int .i64 e.f3, .string e.f4, .int .i64 e.f5] 26)) w.heap.size e) := ⟨blk_new w _⟩
 have HB1 : Aside0 (Below w.heap.size w (w.alloc (.cells #[.int .i64 e.f0, .int .i64 e.f1.f0, .int .i64 e.f1.f1, .int .i64 e.f1.f2, .int .i64 e.f1.f3, .string e.f2, .int .i64 e.f3, .string e.f4, .int .i64 e.f5] 26))) := ⟨below_alloc (Below.refl _ _) _⟩
 generalize w.alloc (.cells #[.int .i64 e.f0, .int .i64 e.f1.f0, .int .i64 e.f1.f1, .int .i64 e.f1.f2, .int .i64 e.f1.f3, .string e.f2, .int .i64 e.f3, .string e.f4, .int .i64 e.f5] 26) = w1 at BE1 HB1 ⊢
 have z0 : w1.cell? ⟨w.heap.size, 0, none⟩ = some (.int .i64 e.f0) := (blk_cell BE1.out 0).trans rfl
 have z1 : w1.cell? ⟨w.heap.size, 1, none⟩ = some (.int .i64 e.f1.f0) := (blk_cell BE1.out 1).trans rfl
 have z2 : w1.cell? ⟨w.heap.size, 2, none⟩ = some (.int .i64 e.f1.f1) := (blk_cell BE1.out 2).trans rfl
 have z3 : w1.cell? ⟨w.heap.size, 3, none⟩ = some (.int .i64 e.f1.f2) := (blk_cell BE1.out 3).trans rfl
 have z4 : w1.cell? ⟨w.heap.size, 4, none⟩ = some (.int .i64 e.f1.f3) := (blk_cell BE1.out 4).trans rfl
 have z5 : w1.cell? ⟨w.heap.size, 5, none⟩ = some (.string e.f2) := (blk_cell BE1.out 5).trans rfl
 have z6 : w1.cell? ⟨w.heap.size, 6, none⟩ = some (.int .i64 e.f3) := (blk_cell BE1.out 6).trans rfl
 have z7 : w1.cell? ⟨w.heap.size, 7, none⟩ = some (.string e.f4) := (blk_cell BE1.out 7).trans rfl
 have z8 : w1.cell? ⟨w.heap.size, 8, none⟩ = some (.int .i64 e.f5) := (blk_cell BE1.out 8).trans rfl
 go_wp2_with fail
 refine (donjonref14_May.calls e.f0 e.f1.f0 e.f1.f1 e.f1.f2 e.f1.f3 e.f2 e.f3 e.f4 e.f5 _ _ HMAY.out).mono ?_
 rintro e_ w2 ⟨rfl, hb⟩
 have BE2 := Aside0.mk (BE1.out.below hb)
 have HB2 := Aside0.mk (below_step HB1.out hb)
 clear hb BE1 HB1 z0 z1 z2 z3 z4 z5 z6 z7 z8
 have z0 : w2.cell? ⟨w.heap.size, 0, none⟩ = some (.int .i64 e.f0) := (blk_cell BE2.out 0).trans rfl
 have z1 : w2.cell? ⟨w.heap.size, 1, none⟩ = some (.int .i64 e.f1.f0) := (blk_cell BE2.out 1).trans rfl
 have z2 : w2.cell? ⟨w.heap.size, 2, none⟩ = some (.int .i64 e.f1.f1) := (blk_cell BE2.out 2).trans rfl
 have z3 : w2.cell? ⟨w.heap.size, 3, none⟩ = some (.int .i64 e.f1.f2) := (blk_cell BE2.out 3).trans rfl
 have z4 : w2.cell? ⟨w.heap.size, 4, none⟩ = some (.int .i64 e.f1.f3) := (blk_cell BE2.out 4).trans rfl
 have z5 : w2.cell? ⟨w.heap.size, 5, none⟩ = some (.string e.f2) := (blk_cell BE2.out 5).trans rfl
 have z6 : w2.cell? ⟨w.heap.size, 6, none⟩ = some (.int .i64 e.f3) := (blk_cell BE2.out 6).trans rfl
 have z7 : w2.cell? ⟨w.heap.size, 7, none⟩ = some (.string e.f4) := (blk_cell BE2.out 7).trans rfl
 have z8 : w2.cell? ⟨w.heap.size, 8, none⟩ = some (.int .i64 e.f5) := (blk_cell BE2.out 8).trans rfl
 go_wp2_with fail
 refine (donjonref14_Full.calls 1100 A c R e.f1.f0 e.f1.f1 e.f1.f2 e.f1.f3 _ _ (Kd.C_below HC.out HB2.out) HCAP.out HFUL.out).mono ?_
 rintro e_ w3 ⟨rfl, hb⟩
 have BE3 := Aside0.mk (BE2.out.below hb)
 have HB3 := Aside0.mk (below_step HB2.out hb)
 clear hb BE2 HB2 z0 z1 z2 z3 z4 z5 z6 z7 z8
 have z0 : w3.cell? ⟨w.heap.size, 0, none⟩ = some (.int .i64 e.f0) := (blk_cell BE3.out 0).trans rfl
 have z1 : w3.cell? ⟨w.heap.size, 1, none⟩ = some (.int .i64 e.f1.f0) := (blk_cell BE3.out 1).trans rfl
 have z2 : w3.cell? ⟨w.heap.size, 2, none⟩ = some (.int .i64 e.f1.f1) := (blk_cell BE3.out 2).trans rfl
 have z3 : w3.cell? ⟨w.heap.size, 3, none⟩ = some (.int .i64 e.f1.f2) := (blk_cell BE3.out 3).trans rfl
 have z4 : w3.cell? ⟨w.heap.size, 4, none⟩ = some (.int .i64 e.f1.f3) := (blk_cell BE3.out 4).trans rfl
 have z5 : w3.cell? ⟨w.heap.size, 5, none⟩ = some (.string e.f2) := (blk_cell BE3.out 5).trans rfl
 have z6 : w3.cell? ⟨w.heap.size, 6, none⟩ = some (.int .i64 e.f3) := (blk_cell BE3.out 6).trans rfl
 have z7 : w3.cell? ⟨w.heap.size, 7, none⟩ = some (.string e.f4) := (blk_cell BE3.out 7).trans rfl
 have z8 : w3.cell? ⟨w.heap.size, 8, none⟩ = some (.int .i64 e.f5) := (blk_cell BE3.out 8).trans rfl
 go_wp2_with fail
 refine (donjonref14_All.calls 1100 A c R e.f1.f0 e.f1.f1 e.f1.f2 e.f1.f3 L _ (Kd.C_below HC.out HB3.out) HCAP.out HALL.out).mono ?_
 rintro e_ w4 ⟨v4_, rfl, hR4, hb⟩
 obtain ⟨A4, c4, rfl⟩ := Kd.R_slice hR4
 have BE4 := Aside0.mk (BE3.out.below hb)
 have HB4 := Aside0.mk (below_step HB3.out hb)
 clear hR4 hb BE3 HB3 z0 z1 z2 z3 z4 z5 z6 z7 z8
 rw [HN.out.1]
 have HCN : Aside0 (Kd.C k26 w A N R) := ⟨by have h1 := HC.out; rwa [HN.out.1] at h1⟩
 have HCN2 : Aside0 (N ≤ c) := ⟨by have h1 := HCAP.out; rwa [HN.out.1] at h1⟩
 clear HC HCAP
 have z0 : w4.cell? ⟨w.heap.size, 0, none⟩ = some (.int .i64 e.f0) := (blk_cell BE4.out 0).trans rfl
 have z1 : w4.cell? ⟨w.heap.size, 1, none⟩ = some (.int .i64 e.f1.f0) := (blk_cell BE4.out 1).trans rfl
 have z2 : w4.cell? ⟨w.heap.size, 2, none⟩ = some (.int .i64 e.f1.f1) := (blk_cell BE4.out 2).trans rfl
 have z3 : w4.cell? ⟨w.heap.size, 3, none⟩ = some (.int .i64 e.f1.f2) := (blk_cell BE4.out 3).trans rfl
 have z4 : w4.cell? ⟨w.heap.size, 4, none⟩ = some (.int .i64 e.f1.f3) := (blk_cell BE4.out 4).trans rfl
 have z5 : w4.cell? ⟨w.heap.size, 5, none⟩ = some (.string e.f2) := (blk_cell BE4.out 5).trans rfl
 have z6 : w4.cell? ⟨w.heap.size, 6, none⟩ = some (.int .i64 e.f3) := (blk_cell BE4.out 6).trans rfl
 have z7 : w4.cell? ⟨w.heap.size, 7, none⟩ = some (.string e.f4) := (blk_cell BE4.out 7).trans rfl
 have z8 : w4.cell? ⟨w.heap.size, 8, none⟩ = some (.int .i64 e.f5) := (blk_cell BE4.out 8).trans rfl
 have fz0 := blk_frozen BE4.out 0
 go_upto_block 0 with fail
 have BE5 : Aside0 (BoxE (w4.setCell ⟨w.heap.size, 0, none⟩ (.int .i64 s)) w.heap.size e2) := ⟨by rw [← HE2.out]; exact BE4.out.putS s⟩
 have HB5 : Aside0 (Below w.heap.size w (w4.setCell ⟨w.heap.size, 0, none⟩ (.int .i64 s))) := ⟨below_set HB4.out (Nat.le_refl _)⟩
 clear BE4 HB4 z0 z1 z2 z3 z4 z5 z6 z7 z8 fz0
 generalize w4.setCell ⟨w.heap.size, 0, none⟩ (.int .i64 s) = w5 at BE5 HB5 ⊢
 go_cut [6] (fun v6 wx => ∃ k : Int, v6 = .int .i64 k ∧ Aside0 (0 ≤ k ∧ k ≤ (N : Int)) ∧ Aside0 (insE e2 R = R.take k.toNat ++ e2 :: R.drop k.toNat) ∧ Aside0 (BoxE wx w.heap.size e2) ∧ Aside0 (Below w.heap.size w wx))
 case first =>
  go_wp2_with fail
  go_loopw [6] (fun v6 wr => ∃ k : Int, v6 = .int .i64 k ∧ Aside0 (0 ≤ k ∧ k ≤ (N : Int)) ∧ Aside0 (insE e2 R = R.take k.toNat ++ insE e2 (R.drop k.toNat)) ∧ Aside0 (BoxE wr w.heap.size e2) ∧ Aside0 (Below w.heap.size w wr)) (fun v6 _ => 2000 - (intOf v6).toNat)
  case atStart => exact ⟨0, rfl, ⟨by omega⟩, ⟨by simp⟩, BE5, HB5⟩
  case round =>
   clear BE5 HB5
   obtain ⟨k, rfl, HK, HI, BE, HB⟩ := hrel
   by_cases hk : k < (N : Int)
   ·have e1 : decide (k < (N : Int)) = true := decide_eq_true hk
    have HKN : Aside0 (k < (N : Int) ∧ N ≤ 1000) := ⟨hk, HN.out.2⟩
    have ek : wrap64 (k + 1) = k + 1 := wrap64_id (by have := HK.out; omega) (by have := HKN.out; omega)
    obtain ⟨ad, eA, h0, h1, h2, h3, h4, h5, h6, h7, h8⟩ := at_T26 (Kd.C_below HCN.out HB.out) k HK.out.1 hk
    obtain ⟨y, hy⟩ : ∃ y, rd_T26 R k = y := ⟨_, rfl⟩
    have HD : Aside0 (R.drop k.toNat = y :: R.drop (k + 1).toNat) := ⟨by rw [← hy]; exact drop_rd R k HK.out.1 (by rw [HN.out.1]; exact hk)⟩
    have HTK : Aside0 (R.take (k + 1).toNat = R.take k.toNat ++ [y]) := ⟨by rw [← hy]; exact takeE_rd R k HK.out.1 (by rw [HN.out.1]; exact hk)⟩
    rw [hy] at h0 h1 h2 h3 h4 h5 h6 h7 h8
    obtain ⟨bl, hbl⟩ : ∃ bl, lessS e2.f1 y.f1 = bl := ⟨_, rfl⟩
    have HBL := Aside0.mk hbl
    have HLF : Aside0 (donjonref4_Less.f e2.f1.f0 e2.f1.f1 e2.f1.f2 e2.f1.f3 y.f1.f0 y.f1.f1 y.f1.f2 y.f1.f3 = some bl) := ⟨by rw [less_f, hbl]⟩
    have p1 := eq_true HK.out.1
    have q1 := eq_true hk
    have p2 : decide ((0 : Int) ≤ k) = true := decide_eq_true HK.out.1
    cases eA
    clear hk hy hbl h0 h5 h6 h7 h8
    go_upto_region 7 with fail
    have HBd : Aside0 (Below wr.heap.size wr wr.drew) := ⟨below_drew1 (Below.refl _ _)⟩
    refine start_ (n := 15) (S := fun w' => w'.cell? ⟨w.heap.size, 1, none⟩ = some (.int .i64 e2.f1.f0) ∧ w'.cell? ⟨w.heap.size, 2, none⟩ = some (.int .i64 e2.f1.f1) ∧ w'.cell? ⟨w.heap.size, 3, none⟩ = some (.int .i64 e2.f1.f2) ∧ w'.cell? ⟨w.heap.size, 4, none⟩ = some (.int .i64 e2.f1.f3) ∧ w'.cell? ⟨(ad.add (k.toNat * 9)).block, (ad.add (k.toNat * 9)).off + 1, none⟩ = some (.int .i64 y.f1.f0) ∧ w'.cell? ⟨(ad.add (k.toNat * 9)).block, (ad.add (k.toNat * 9)).off + 2, none⟩ = some (.int .i64 y.f1.f1) ∧ w'.cell? ⟨(ad.add (k.toNat * 9)).block, (ad.add (k.toNat * 9)).off + 3, none⟩ = some (.int .i64 y.f1.f2) ∧ w'.cell? ⟨(ad.add (k.toNat * 9)).block, (ad.add (k.toNat * 9)).off + 4, none⟩ = some (.int .i64 y.f1.f3)) (ds := []) #[false, false, false, false, false, false, false, false, false, false, false, false, false, false, false] (by kernel_rfl) rfl rfl ⟨(blk_cell (BE.out.below HBd.out) 1).trans rfl, (blk_cell (BE.out.below HBd.out) 2).trans rfl, (blk_cell (BE.out.below HBd.out) 3).trans rfl, (blk_cell (BE.out.below HBd.out) 4).trans rfl, (HBd.out.cell (World.block_lt_of_cell? _ _ h1)).trans h1, (HBd.out.cell (World.block_lt_of_cell? _ _ h2)).trans h2, (HBd.out.cell (World.block_lt_of_cell? _ _ h3)).trans h3, (HBd.out.cell (World.block_lt_of_cell? _ _ h4)).trans h4⟩ (fun hHeld => ?_)
    refine with_tabW ref14_Add.tab7 ref14_Add.bits7 (fun HT_ HW_ => ?_)
    generalize World.drew _ = wd at HBd hHeld ⊢
    refine pure_ (i := 0) (N := some 24) (v := ?_) (a' := ?_) #[true, false, false, false, false, false, false, false, false, false, false, false, false, false, false] rfl rfl (any_of HT_.out (by kernel_rfl)) (fun _ _ _ h => h) (Or.inl ⟨by rfl, ?_⟩) ?_ ?_
    rotate_left
    ·intro w'
     go_simp
     with_reducible rfl
    rotate_left
    ·simp only [Act.put, xset_a, xset_z, xset_s, i64_w, i32_w]
     rfl
    refine pure_ (i := 1) (N := some 25) (v := ?_) (a' := ?_) #[true, true, false, false, false, false, false, false, false, false, false, false, false, false, false] rfl rfl (any_of HT_.out (by kernel_rfl)) (fun _ _ _ h => h) (Or.inl ⟨by rfl, ?_⟩) ?_ ?_
    rotate_left
    ·intro w'
     go_simp
     with_reducible rfl
    rotate_left
    ·simp only [Act.put, xset_a, xset_z, xset_s, i64_w, i32_w]
     rfl
    refine pure_ (i := 2) (N := some 26) (v := ?_) (a' := ?_) #[true, true, true, false, false, false, false, false, false, false, false, false, false, false, false] rfl rfl (any_of HT_.out (by kernel_rfl)) (fun _ _ _ h => h) (Or.inl ⟨by rfl, ?_⟩) ?_ ?_
    rotate_left
    ·intro w'
     go_simp
     with_reducible rfl
    rotate_left
    ·simp only [Act.put, xset_a, xset_z, xset_s, i64_w, i32_w]
     rfl
    refine pure_ (i := 3) (N := some 27) (v := ?_) (a' := ?_) #[true, true, true, true, false, false, false, false, false, false, false, false, false, false, false] rfl rfl (any_of HT_.out (by kernel_rfl)) (fun _ _ _ h => h) (Or.inl ⟨by rfl, ?_⟩) ?_ ?_
    rotate_left
    ·intro w'
     go_simp
     with_reducible rfl
    rotate_left
    ·simp only [Act.put, xset_a, xset_z, xset_s, i64_w, i32_w]
     rfl
    refine pure_ (i := 4) (N := some 28) (v := ?_) (a' := ?_) #[true, true, true, true, true, false, false, false, false, false, false, false, false, false, false] rfl rfl (any_of HT_.out (by kernel_rfl)) (fun _ _ _ h => h) (Or.inl ⟨by rfl, ?_⟩) ?_ ?_
    rotate_left
    ·intro w'
     go_simp
     with_reducible rfl
    rotate_left
    ·simp only [Act.put, xset_a, xset_z, xset_s, i64_w, i32_w]
     rfl
    refine pure_ (i := 5) (N := some 29) (v := ?_) (a' := ?_) #[true, true, true, true, true, true, false, false, false, false, false, false, false, false, false] rfl rfl (any_of HT_.out (by kernel_rfl)) (fun _ _ _ h => h) (Or.inl ⟨by rfl, ?_⟩) ?_ ?_
    rotate_left
    ·intro w'
     go_simp
     with_reducible rfl
    rotate_left
    ·simp only [Act.put, xset_a, xset_z, xset_s, i64_w, i32_w]
     rfl
    refine pure_ (i := 7) (N := some 31) (v := ?_) (a' := ?_) #[true, true, true, true, true, true, false, true, false, false, false, false, false, false, false] rfl rfl (any_of HT_.out (by kernel_rfl)) (fun _ _ _ h => h) (Or.inl ⟨by rfl, ?_⟩) ?_ ?_
    rotate_left
    ·intro w'
     go_simp
     with_reducible rfl
    rotate_left
    ·simp only [Act.put, xset_a, xset_z, xset_s, i64_w, i32_w]
     rfl
    refine pure_ (i := 8) (N := some 32) (v := ?_) (a' := ?_) #[true, true, true, true, true, true, false, true, true, false, false, false, false, false, false] rfl rfl (any_of HT_.out (by kernel_rfl)) (fun _ _ _ h => h) (Or.inl ⟨by rfl, ?_⟩) ?_ ?_
    rotate_left
    ·intro w'
     go_simp
     with_reducible rfl
    rotate_left
    ·simp only [Act.put, xset_a, xset_z, xset_s, i64_w, i32_w]
     rfl
    refine pure_ (i := 9) (N := some 33) (v := ?_) (a' := ?_) #[true, true, true, true, true, true, false, true, true, true, false, false, false, false, false] rfl rfl (any_of HT_.out (by kernel_rfl)) (fun _ _ _ h => h) (Or.inl ⟨by rfl, ?_⟩) ?_ ?_
    rotate_left
    ·intro w'
     go_simp
     with_reducible rfl
    rotate_left
    ·simp only [Act.put, xset_a, xset_z, xset_s, i64_w, i32_w]
     rfl
    refine pure_ (i := 10) (N := some 34) (v := ?_) (a' := ?_) #[true, true, true, true, true, true, false, true, true, true, true, false, false, false, false] rfl rfl (any_of HT_.out (by kernel_rfl)) (fun _ _ _ h => h) (Or.inl ⟨by rfl, ?_⟩) ?_ ?_
    rotate_left
    ·intro w'
     go_simp
     with_reducible rfl
    rotate_left
    ·simp only [Act.put, xset_a, xset_z, xset_s, i64_w, i32_w]
     rfl
    refine take_ (i := 6) (N := some 30) (v := ?_) (a' := ?_) #[true, true, true, true, true, true, true, true, true, true, true, false, false, false, false] rfl rfl (take_ofW HT_.out HW_.out (by kernel_rfl)) (fun _ _ _ h => h) (Or.inl ⟨by rfl, ?_⟩) hHeld ?_ ?_
    rotate_left
    ·rintro w' ⟨s0, s1, s2, s3, s4, s5, s6, s7⟩
     go_simp
     with_reducible rfl
    rotate_left
    ·simp only [Act.put, xset_a, xset_z, xset_s, i64_w, i32_w]
     rfl
    refine take_ (i := 11) (N := some 35) (v := ?_) (a' := ?_) #[true, true, true, true, true, true, true, true, true, true, true, true, false, false, false] rfl rfl (take_ofW HT_.out HW_.out (by kernel_rfl)) (fun _ _ _ h => h) (Or.inl ⟨by rfl, ?_⟩) hHeld ?_ ?_
    rotate_left
    ·rintro w' ⟨s0, s1, s2, s3, s4, s5, s6, s7⟩
     go_simp
     with_reducible rfl
    rotate_left
    ·simp only [Act.put, xset_a, xset_z, xset_s, i64_w, i32_w]
     rfl
    refine one_ (i := 12) (N := some 36) #[true, true, true, true, true, true, true, true, true, true, true, true, true, false, false] rfl rfl (one_of HT_.out (by kernel_rfl)) (by decide) (fun K hK => ?_)
    refine goes_ Tryd.func44 (by kernel_rfl) rfl #[.agg #[.int .i64 e2.f1.f0, .int .i64 e2.f1.f1, .int .i64 e2.f1.f2, .int .i64 e2.f1.f3], .agg #[.int .i64 y.f1.f0, .int .i64 y.f1.f1, .int .i64 y.f1.f2, .int .i64 y.f1.f3]] (by rfl) rfl rfl (by (try simp only [List.map_toArray, List.map_cons, List.map_nil]); first | done | rfl) ?_
    refine (donjonref4_Less.calls e2.f1.f0 e2.f1.f1 e2.f1.f2 e2.f1.f3 y.f1.f0 y.f1.f1 y.f1.f2 y.f1.f3 bl _ HLF.out).mono ?_
    rintro e_ wl ⟨rfl, hb⟩
    refine ⟨_, rfl, ?_⟩
    obtain ⟨s0, s1, s2, s3, s4, s5, s6, s7⟩ := hHeld
    have HB_ := Aside0.mk (below_step HBd.out hb)
    clear HBd
    have HBd := HB_
    clear HB_
    have hbl_ := hb
    clear hb
    refine hK.out _ _ ⟨(blk_cell (BE.out.below HBd.out) 1).trans rfl, (blk_cell (BE.out.below HBd.out) 2).trans rfl, (blk_cell (BE.out.below HBd.out) 3).trans rfl, (blk_cell (BE.out.below HBd.out) 4).trans rfl, (hbl_.cell (World.block_lt_of_cell? _ _ s4)).trans s4, (hbl_.cell (World.block_lt_of_cell? _ _ s5)).trans s5, (hbl_.cell (World.block_lt_of_cell? _ _ s6)).trans s6, (hbl_.cell (World.block_lt_of_cell? _ _ s7)).trans s7⟩ (fun hHeld => ?_)
    clear hK K
    refine norm_ (a' := ?_) ?_ ?_
    rotate_left
    ·show Act.put _ (some 36) _ = _
     simp only [Act.put, xset_a, xset_z, xset_s, i64_w, i32_w]
     rfl
    refine pure_ (i := 13) (N := some 37) (v := ?_) (a' := ?_) #[true, true, true, true, true, true, true, true, true, true, true, true, true, true, false] rfl rfl (any_of HT_.out (by kernel_rfl)) (fun _ _ _ h => h) (Or.inl ⟨by rfl, ?_⟩) ?_ ?_
    rotate_left
    ·intro w'
     go_simp
     with_reducible rfl
    rotate_left
    ·simp only [Act.put, xset_a, xset_z, xset_s, i64_w, i32_w]
     rfl
    refine pure_ (i := 14) (N := some 38) (v := ?_) (a' := ?_) #[true, true, true, true, true, true, true, true, true, true, true, true, true, true, true] rfl rfl (any_of HT_.out (by kernel_rfl)) (fun _ _ _ h => h) (Or.inl ⟨by rfl, ?_⟩) ?_ ?_
    rotate_left
    ·intro w'
     go_simp
     with_reducible rfl
    rotate_left
    ·simp only [Act.put, xset_a, xset_z, xset_s, i64_w, i32_w]
     rfl
    refine done_ (done_of HT_.out (by kernel_rfl)) ?_
    have HBq := Aside0.mk (below_step HB.out HBd.out)
    have BEq := Aside0.mk (BE.out.below HBd.out)
    cases bl with
    | true =>
     go_wp2
     go_meet
     case rel => exact ⟨k, rfl, HK, ⟨by rw [HI.out, HD.out]; unfold insE; rw [if_pos HBL.out]⟩, BEq, HBq⟩
    | false =>
     go_wp2
     go_roundw
     case rel => exact ⟨k + 1, by rw [ek], ⟨by have := HK.out; have := HKN.out; omega⟩, ⟨by rw [HI.out, HD.out, HTK.out, insE_past HBL.out, List.append_assoc]; rfl⟩, BEq, HBq⟩
     case measure =>
      rw [ek]
      have := HK.out
      have := HKN.out
      simp only [intOf]
      omega
   ·have e1 : decide (k < (N : Int)) = false := decide_eq_false hk
    have HKE : Aside0 (R.length ≤ k.toNat) := ⟨by have := HK.out; rw [HN.out.1]; omega⟩
    clear hk
    go_upto_region 7 with fail
    have HBd : Aside0 (Below wr.heap.size wr wr.drew) := ⟨below_drew1 (Below.refl _ _)⟩
    refine start_ (n := 15) (S := fun w' => w'.cell? ⟨w.heap.size, 1, none⟩ = some (.int .i64 e2.f1.f0) ∧ w'.cell? ⟨w.heap.size, 2, none⟩ = some (.int .i64 e2.f1.f1) ∧ w'.cell? ⟨w.heap.size, 3, none⟩ = some (.int .i64 e2.f1.f2) ∧ w'.cell? ⟨w.heap.size, 4, none⟩ = some (.int .i64 e2.f1.f3)) (ds := []) #[false, false, false, false, false, false, false, false, false, false, false, false, false, false, false] (by kernel_rfl) rfl rfl ⟨(blk_cell (BE.out.below HBd.out) 1).trans rfl, (blk_cell (BE.out.below HBd.out) 2).trans rfl, (blk_cell (BE.out.below HBd.out) 3).trans rfl, (blk_cell (BE.out.below HBd.out) 4).trans rfl⟩ (fun hHeld => ?_)
    refine with_tabW ref14_Add.tab7 ref14_Add.bits7 (fun HT_ HW_ => ?_)
    generalize World.drew _ = wd at HBd hHeld ⊢
    refine pure_ (i := 0) (N := some 24) (v := ?_) (a' := ?_) #[true, false, false, false, false, false, false, false, false, false, false, false, false, false, false] rfl rfl (any_of HT_.out (by kernel_rfl)) (fun _ _ _ h => h) (Or.inl ⟨by rfl, ?_⟩) ?_ ?_
    rotate_left
    ·intro w'
     go_simp
     with_reducible rfl
    rotate_left
    ·simp only [Act.put, xset_a, xset_z, xset_s, i64_w, i32_w]
     rfl
    refine pure_ (i := 1) (N := some 25) (v := ?_) (a' := ?_) #[true, true, false, false, false, false, false, false, false, false, false, false, false, false, false] rfl rfl (any_of HT_.out (by kernel_rfl)) (fun _ _ _ h => h) (Or.inl ⟨by rfl, ?_⟩) ?_ ?_
    rotate_left
    ·intro w'
     go_simp
     with_reducible rfl
    rotate_left
    ·simp only [Act.put, xset_a, xset_z, xset_s, i64_w, i32_w]
     rfl
    refine pure_ (i := 2) (N := some 26) (v := ?_) (a' := ?_) #[true, true, true, false, false, false, false, false, false, false, false, false, false, false, false] rfl rfl (any_of HT_.out (by kernel_rfl)) (fun _ _ _ h => h) (Or.inl ⟨by rfl, ?_⟩) ?_ ?_
    rotate_left
    ·intro w'
     go_simp
     with_reducible rfl
    rotate_left
    ·simp only [Act.put, xset_a, xset_z, xset_s, i64_w, i32_w]
     rfl
    refine pure_ (i := 3) (N := some 27) (v := ?_) (a' := ?_) #[true, true, true, true, false, false, false, false, false, false, false, false, false, false, false] rfl rfl (any_of HT_.out (by kernel_rfl)) (fun _ _ _ h => h) (Or.inl ⟨by rfl, ?_⟩) ?_ ?_
    rotate_left
    ·intro w'
     go_simp
     with_reducible rfl
    rotate_left
    ·simp only [Act.put, xset_a, xset_z, xset_s, i64_w, i32_w]
     rfl
    refine pure_ (i := 4) (N := some 28) (v := ?_) (a' := ?_) #[true, true, true, true, true, false, false, false, false, false, false, false, false, false, false] rfl rfl (any_of HT_.out (by kernel_rfl)) (fun _ _ _ h => h) (Or.inl ⟨by rfl, ?_⟩) ?_ ?_
    rotate_left
    ·intro w'
     go_simp
     with_reducible rfl
    rotate_left
    ·simp only [Act.put, xset_a, xset_z, xset_s, i64_w, i32_w]
     rfl
    refine pure_ (i := 5) (N := some 29) (v := undef) (a' := ?_) #[true, true, true, true, true, true, false, false, false, false, false, false, false, false, false] rfl rfl (any_of HT_.out (by kernel_rfl)) (fun _ _ _ h => h) (Or.inr ⟨by rfl, rfl⟩) ?_ ?_
    rotate_left
    ·simp only [Act.put, xset_a, xset_z, xset_s, i64_w, i32_w]
     rfl
    refine pure_ (i := 6) (N := some 30) (v := undef) (a' := ?_) #[true, true, true, true, true, true, true, false, false, false, false, false, false, false, false] rfl rfl (any_of HT_.out (by kernel_rfl)) (fun _ _ _ h => h) (Or.inr ⟨by rfl, rfl⟩) ?_ ?_
    rotate_left
    ·simp only [Act.put, xset_a, xset_z, xset_s, i64_w, i32_w]
     rfl
    refine pure_ (i := 7) (N := some 31) (v := undef) (a' := ?_) #[true, true, true, true, true, true, true, true, false, false, false, false, false, false, false] rfl rfl (any_of HT_.out (by kernel_rfl)) (fun _ _ _ h => h) (Or.inr ⟨by rfl, rfl⟩) ?_ ?_
    rotate_left
    ·simp only [Act.put, xset_a, xset_z, xset_s, i64_w, i32_w]
     rfl
    refine pure_ (i := 8) (N := some 32) (v := undef) (a' := ?_) #[true, true, true, true, true, true, true, true, true, false, false, false, false, false, false] rfl rfl (any_of HT_.out (by kernel_rfl)) (fun _ _ _ h => h) (Or.inr ⟨by rfl, rfl⟩) ?_ ?_
    rotate_left
    ·simp only [Act.put, xset_a, xset_z, xset_s, i64_w, i32_w]
     rfl
    refine pure_ (i := 9) (N := some 33) (v := undef) (a' := ?_) #[true, true, true, true, true, true, true, true, true, true, false, false, false, false, false] rfl rfl (any_of HT_.out (by kernel_rfl)) (fun _ _ _ h => h) (Or.inr ⟨by rfl, rfl⟩) ?_ ?_
    rotate_left
    ·simp only [Act.put, xset_a, xset_z, xset_s, i64_w, i32_w]
     rfl
    refine pure_ (i := 10) (N := some 34) (v := undef) (a' := ?_) #[true, true, true, true, true, true, true, true, true, true, true, false, false, false, false] rfl rfl (any_of HT_.out (by kernel_rfl)) (fun _ _ _ h => h) (Or.inr ⟨by rfl, rfl⟩) ?_ ?_
    rotate_left
    ·simp only [Act.put, xset_a, xset_z, xset_s, i64_w, i32_w]
     rfl
    refine pure_ (i := 11) (N := some 35) (v := undef) (a' := ?_) #[true, true, true, true, true, true, true, true, true, true, true, true, false, false, false] rfl rfl (any_of HT_.out (by kernel_rfl)) (fun _ _ _ h => h) (Or.inr ⟨by rfl, rfl⟩) ?_ ?_
    rotate_left
    ·simp only [Act.put, xset_a, xset_z, xset_s, i64_w, i32_w]
     rfl
    refine pure_ (i := 12) (N := some 36) (v := undef) (a' := ?_) #[true, true, true, true, true, true, true, true, true, true, true, true, true, false, false] rfl rfl (any_of HT_.out (by kernel_rfl)) (fun _ _ _ h => h) (Or.inr ⟨by rfl, rfl⟩) ?_ ?_
    rotate_left
    ·simp only [Act.put, xset_a, xset_z, xset_s, i64_w, i32_w]
     rfl
    refine pure_ (i := 13) (N := some 37) (v := undef) (a' := ?_) #[true, true, true, true, true, true, true, true, true, true, true, true, true, true, false] rfl rfl (any_of HT_.out (by kernel_rfl)) (fun _ _ _ h => h) (Or.inr ⟨by rfl, rfl⟩) ?_ ?_
    rotate_left
    ·simp only [Act.put, xset_a, xset_z, xset_s, i64_w, i32_w]
     rfl
    refine pure_ (i := 14) (N := some 38) (v := ?_) (a' := ?_) #[true, true, true, true, true, true, true, true, true, true, true, true, true, true, true] rfl rfl (any_of HT_.out (by kernel_rfl)) (fun _ _ _ h => h) (Or.inl ⟨by rfl, ?_⟩) ?_ ?_
    rotate_left
    ·intro w'
     go_simp
     with_reducible rfl
    rotate_left
    ·simp only [Act.put, xset_a, xset_z, xset_s, i64_w, i32_w]
     rfl
    refine done_ (done_of HT_.out (by kernel_rfl)) ?_
    have HBq := Aside0.mk (below_step HB.out HBd.out)
    have BEq := Aside0.mk (BE.out.below HBd.out)
    go_wp2
    go_meet
    case rel => exact ⟨k, rfl, HK, ⟨by rw [HI.out, List.drop_eq_nil_of_le (show R.length ≤ k.toNat by have := HKE.out; omega)]; rfl⟩, BEq, HBq⟩
 case rest =>
  obtain ⟨k, rfl, HK, HI, BE3, HB3⟩ := hcut
  clear BE5 HB5
  obtain ⟨i0_, hi0, _, hsz_, _⟩ := info_parts info26
  obtain ⟨kn, hkn⟩ : ∃ kn, k.toNat = kn := ⟨_, rfl⟩
  have hct := cut_to (P := Tryd.prog) 34 26 .i64 Tryd.underlying34 hi0 A N c k HK.out.1 HK.out.2 HCN2.out
  have hcf := cut_from (P := Tryd.prog) 34 26 .i64 Tryd.underlying34 hi0 9 hsz_ A N c k HK.out.1 HK.out.2
  rw [hkn] at hct hcf
  have HI2 : Aside0 (insE e2 R = R.take kn ++ e2 :: R.drop kn) := ⟨by rw [← hkn]; exact HI.out⟩
  have HKK : Aside0 (kn ≤ N) := ⟨by have := HK.out; omega⟩
  have HT0 : Aside0 (∀ W, Below w.heap.size w W → Kd.C k26 W A kn (R.take kn)) := ⟨fun W hb => by
   have h1 := Kd.C_below HCN.out hb
   rw [← HN.out.1] at h1
   have h2 := Kd.C_take (m := kn) h1 (by rw [HN.out.1]; exact HKK.out)
   rwa [show (R.take kn).length = kn by rw [List.length_take, HN.out.1]; have := HKK.out; omega] at h2⟩
  obtain ⟨AD, hAD⟩ : ∃ AD, (if c = kn then A else A.map (·.add (kn * 9))) = AD := ⟨_, rfl⟩
  obtain ⟨nd, hnd⟩ : ∃ nd, N - kn = nd := ⟨_, rfl⟩
  obtain ⟨cd, hcd⟩ : ∃ cd, c - kn = cd := ⟨_, rfl⟩
  rw [hAD, hnd, hcd] at hcf
  have HT1 : Aside0 (∀ W, Below w.heap.size w W → Kd.C k26 W AD nd (R.drop kn)) := ⟨fun W hb => by
   have h1 := Kd.C_below HCN.out hb
   rw [← HN.out.1] at h1
   have h2 := Kd.C_drop (m := kn) (c := c) h1 (by rw [HN.out.1]; exact HKK.out) (by rw [HN.out.1]; exact HCN2.out)
   rw [← hAD, ← hnd]
   rwa [show (R.drop kn).length = N - kn by rw [List.length_drop, HN.out.1]] at h2⟩
  have HND : Aside0 (nd ≤ 1000) := ⟨by have := HN.out; omega⟩
  have pl : (k ≤ (N : Int)) = True := eq_true HK.out.2
  have p0 : (0 ≤ k) = True := eq_true HK.out.1
  clear hi0 hsz_ hkn hAD hnd hcd
  have z0 : wc.cell? ⟨w.heap.size, 0, none⟩ = some (.int .i64 e2.f0) := (blk_cell BE3.out 0).trans rfl
  have z1 : wc.cell? ⟨w.heap.size, 1, none⟩ = some (.int .i64 e2.f1.f0) := (blk_cell BE3.out 1).trans rfl
  have z2 : wc.cell? ⟨w.heap.size, 2, none⟩ = some (.int .i64 e2.f1.f1) := (blk_cell BE3.out 2).trans rfl
  have z3 : wc.cell? ⟨w.heap.size, 3, none⟩ = some (.int .i64 e2.f1.f2) := (blk_cell BE3.out 3).trans rfl
  have z4 : wc.cell? ⟨w.heap.size, 4, none⟩ = some (.int .i64 e2.f1.f3) := (blk_cell BE3.out 4).trans rfl
  have z5 : wc.cell? ⟨w.heap.size, 5, none⟩ = some (.string e2.f2) := (blk_cell BE3.out 5).trans rfl
  have z6 : wc.cell? ⟨w.heap.size, 6, none⟩ = some (.int .i64 e2.f3) := (blk_cell BE3.out 6).trans rfl
  have z7 : wc.cell? ⟨w.heap.size, 7, none⟩ = some (.string e2.f4) := (blk_cell BE3.out 7).trans rfl
  have z8 : wc.cell? ⟨w.heap.size, 8, none⟩ = some (.int .i64 e2.f5) := (blk_cell BE3.out 8).trans rfl
  go_wp2_with (first
   | ((with_reducible refine gate_builtin (b := .append) (xs := #[.tmp 41, .tmp 44]) rfl ?_); at_builtin; refine Kd.R_append_rows k26 (Rr := k26.K wc) (w0 := w) w.heap.size rfl (.tmp 41) (.tmp 44) 34 26 (.agg #[(.int .i64 0), (.int .i64 0), (.int .i64 0), (.int .i64 0), (.int .i64 0), (.string ⟨#[]⟩), (.int .i64 0), (.string ⟨#[]⟩), (.int .i64 0)]) 88 rfl Tryd.underlying34 info26 rfl (by decide) (by omega) (.slice none 0 0) ([] : List SE) (R.take kn) _ _ _ (fun k => k ≠ w.heap.size) (fun _ => False) rfl rfl ?aO ?aR ?aK (fun _ h => h.elim) ?aF ?aB ?aS ?aL ?_; (case aO => exact Kd.R_nil _ _ _ _ _); (case aR => exact HT0.out _ HB3.out); (case aK => exact fun _ _ h => entry_KM h); (case aF => exact Kd.freshB BE3.out); (case aB => exact HB3.out); (case aS => exact below_size HB3.out); (case aL => have := HKK.out; have := HN.out; simp only [List.length_nil]; omega); intro v4 w4 ho hb hg hat; clear hat; have BE4 : Aside0 (BoxE w4 w.heap.size e2) := ⟨blk_grown BE3.out hg (by simp [Value.ownBlock])⟩; have HB4 := Aside0.mk hb; have HR4 := Aside0.mk ho; clear ho hb hg; rw [List.nil_append] at HR4; have q0 : w4.cell? ⟨w.heap.size, 0, none⟩ = some (.int .i64 e2.f0) := (blk_cell BE4.out 0).trans rfl; have q1 : w4.cell? ⟨w.heap.size, 1, none⟩ = some (.int .i64 e2.f1.f0) := (blk_cell BE4.out 1).trans rfl; have q2 : w4.cell? ⟨w.heap.size, 2, none⟩ = some (.int .i64 e2.f1.f1) := (blk_cell BE4.out 2).trans rfl; have q3 : w4.cell? ⟨w.heap.size, 3, none⟩ = some (.int .i64 e2.f1.f2) := (blk_cell BE4.out 3).trans rfl; have q4 : w4.cell? ⟨w.heap.size, 4, none⟩ = some (.int .i64 e2.f1.f3) := (blk_cell BE4.out 4).trans rfl; have q5 : w4.cell? ⟨w.heap.size, 5, none⟩ = some (.string e2.f2) := (blk_cell BE4.out 5).trans rfl; have q6 : w4.cell? ⟨w.heap.size, 6, none⟩ = some (.int .i64 e2.f3) := (blk_cell BE4.out 6).trans rfl; have q7 : w4.cell? ⟨w.heap.size, 7, none⟩ = some (.string e2.f4) := (blk_cell BE4.out 7).trans rfl; have q8 : w4.cell? ⟨w.heap.size, 8, none⟩ = some (.int .i64 e2.f5) := (blk_cell BE4.out 8).trans rfl)
   | ((with_reducible refine gate_builtin (b := .append) (xs := #[.tmp 46, .tmp 48]) rfl ?_); at_builtin; refine Kd.R_append k26 (w0 := w) w.heap.size rfl (.tmp 46) (.tmp 48) 34 26 (.agg #[(.int .i64 0), (.int .i64 0), (.int .i64 0), (.int .i64 0), (.int .i64 0), (.string ⟨#[]⟩), (.int .i64 0), (.string ⟨#[]⟩), (.int .i64 0)]) 88 rfl Tryd.underlying34 info26 rfl (by decide) (by omega) v4 (R.take kn) e2 [.int .i64 e2.f0, .int .i64 e2.f1.f0, .int .i64 e2.f1.f1, .int .i64 e2.f1.f2, .int .i64 e2.f1.f3, .string e2.f2, .int .i64 e2.f3, .string e2.f4, .int .i64 e2.f5] (fun k => k ≠ w.heap.size) (fun _ => False) rfl rfl (k26_mkM _ _ _ e2) (fun _ hk => hk.elim) (Kd.freshB BE4.out) HR4.out HB4.out (below_size HB4.out) (by have := HKK.out; have := HN.out; rw [List.length_take]; omega) ?_; intro v5 w5 ho hb hg hat; clear hat; have BE5 : Aside0 (BoxE w5 w.heap.size e2) := ⟨blk_grown BE4.out hg (Kd.R_away HR4.out (fun _ hk => hk))⟩; have HB5 := Aside0.mk hb; have HR5 := Aside0.mk ho; clear ho hb hg)
   | ((with_reducible refine gate_builtin (b := .append) (xs := #[.tmp 50, .tmp 53]) rfl ?_); at_builtin; refine Kd.R_append_rows k26 (Rr := k26.K w5) (w0 := w) w.heap.size rfl (.tmp 50) (.tmp 53) 34 26 (.agg #[(.int .i64 0), (.int .i64 0), (.int .i64 0), (.int .i64 0), (.int .i64 0), (.string ⟨#[]⟩), (.int .i64 0), (.string ⟨#[]⟩), (.int .i64 0)]) 88 rfl Tryd.underlying34 info26 rfl (by decide) (by omega) v5 (R.take kn ++ [e2]) (R.drop kn) _ _ _ (fun k => k ≠ w.heap.size) (fun _ => False) rfl rfl ?aO ?aR ?aK (fun _ h => h.elim) ?aF ?aB ?aS ?aL ?_; (case aO => exact HR5.out); (case aR => exact HT1.out _ HB5.out); (case aK => exact fun _ _ h => entry_KM h); (case aF => exact Kd.freshB BE5.out); (case aB => exact HB5.out); (case aS => exact below_size HB5.out); (case aL => have := HKK.out; have := HN.out; have := HND.out; simp only [List.length_append, List.length_take, List.length_singleton]; omega); intro v6 w6 ho hb hg hat; clear hat; have BE6 : Aside0 (BoxE w6 w.heap.size e2) := ⟨blk_grown BE5.out hg (Kd.R_away HR5.out (fun _ hk => hk))⟩; have HB6 := Aside0.mk hb; have HR6 := Aside0.mk ho; clear ho hb hg))
  go_ret2
  exact ⟨_, rfl, by rw [HI2.out, show R.take kn ++ e2 :: R.drop kn = R.take kn ++ [e2] ++ R.drop kn by simp]; exact Kd.R_mono HR6.out (fun _ _ => trivial), HB6.out⟩
/-- The document's Add, told by the row that comes back. -/
theorem add14_run (e : SE) (R : List SE) {b : Nat} {P0 : Nat → Prop} {u : Value} {w : World} (hR : RE w b P0 u R) (hb : b ≤ w.heap.size) (hl : R.length ≤ 1000) :
  Calls Tryd.prog 23 #[u, ev e] w fun r w' => ∃ v, r = .returned (.tuple #[v, .int .i64 (addF R e)]) ∧ RE w' b (fun k => P0 k ∨ w.heap.size ≤ k) v (addRow R e) ∧ Below w.heap.size w w' := by
 obtain ⟨A, c, rfl⟩ := Kd.R_slice hR
 have hC := Kd.R_reads' hR
 have old : ∀ w', Below w.heap.size w w' → RE w' b (fun k => P0 k ∨ w.heap.size ≤ k) (.slice A R.length c) R := fun w' h => Kd.R_mono (Kd.R_below hR h) (fun _ hk => .inl hk)
 unfold addF addRow
 by_cases hm : mayE e
 ·rw [if_pos hm, if_pos hm]
  by_cases hf : 40 ≤ (atL e.f1 R).length
  ·rw [if_pos hf, if_pos hf]
   refine (add14_c_full A c R e w hC.2.2 hC.2.1 hl hm hf).mono ?_
   rintro r w' ⟨rfl, h⟩
   exact ⟨_, rfl, old w' h, h⟩
  ·rw [if_neg hf, if_neg hf]
   refine (add14_c_ok A c R e w hC.2.2 hC.2.1 hl hm hf).mono ?_
   rintro r w' ⟨v, rfl, h1, h⟩
   exact ⟨_, rfl, Kd.R_lower (Kd.R_mono (Kd.R_bound h1) (fun _ hk => .inr hk.2.1)) hb, h⟩
 ·rw [if_neg hm, if_neg hm]
  refine (add14_c_bad A c R e w hm).mono ?_
  rintro r w' ⟨rfl, h⟩
  exact ⟨_, rfl, old w' h, h⟩
end Go.Proofs.YtihknjmibnonjaaDoor.X
