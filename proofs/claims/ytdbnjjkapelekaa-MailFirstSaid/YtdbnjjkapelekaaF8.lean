/- Written by a program of this session over the kit's print: YtdbnjjkapelekaaF8. -/
import Derived.Test.YtdbnjjkapelekaaH
import Derived.Test.YtdbnjjkapelekaaE44
import Derived.Test.YtdbnjjkapelekaaF9
import Derived.Test.YtdbnjjkapelekaaF10
import Derived.Test.YtdbnjjkapelekaaF11
import Derived.Test.YtdbnjjkapelekaaF19
import Derived.Test.YtdbnjjkapelekaaF21
import Derived.Test.YtdbnjjkapelekaaF23
import Derived.Test.YtdbnjjkapelekaaF25
import Derived.Test.YtdbnjjkapelekaaMaxAt
namespace Go.Proofs.Ytdbnjjkapelekaa.X
open Go.RowKit Go.Proofs.YtdbnjjkapelekaaW.PrintWords Go.Proofs.YtdbnjjkapelekaaW.PrintLast Go.Proofs.YtdbnjjkapelekaaW.PrintMore Go.Proofs.Ytdbnjjkapelekaa.More
attribute [local go_sem] max2_int min2_int max_two min_two max_three min_three max_four min_four binOp_string_leq binOp_string_gtr   -- for this text's walks alone
set_option linter.unusedVariables false
set_option linter.unusedSimpArgs false

attribute [local go_sem high] eqA44
/-! ### donjonlaw18_MailFirst: function 8 -/
mutual
def donjonlaw18_MailFirst.j0 : Nat → Int → List (S44) → Int → Int → Int → Int → Int → Int → Int → Int → Option (Bool)
 | 0, _, _, _, _, _, _, _, _, _, _ => none
 | k + 1, x3, x9, x102000, x102001, x102002, x102003, x103000, x103001, x103002, x103003 => (some (([(⟨#[111, 110, 101]⟩ : ByteArray), (⟨#[116, 119, 111]⟩ : ByteArray), (⟨#[116, 104, 114, 101, 101]⟩ : ByteArray)] : List ByteArray) : List ByteArray)).bind fun y120 => ((donjonlaw18_within.f x3 3).bind fun t123 => (if 0 ≤ t123 then (if t123 < (y120.length : Int) then ((mail_Rule.f k x9 (⟨#[97]⟩ : ByteArray) x102000 x102001 x102002 x102003 (⟨#[98]⟩ : ByteArray) x103000 x103001 x103002 x103003 (rdOf ByteArray.empty y120 t123)).bind fun bt126 => ((mail_Send.f k x9 (⟨#[97]⟩ : ByteArray) x102000 x102001 x102002 x102003 (⟨#[98]⟩ : ByteArray) x103000 x103001 x103002 x103003 (rdOf ByteArray.empty y120 t123)).bind fun bt137 => (if 1 < (x9.length : Int) then (if (rdOf ByteArray.empty y120 t123).toList = ((rd_T44 x9 1).f2).toList then (donjonlaw18_MailFirst.j1 k x9 bt126.2.2.2.2.2.2.2.2.2 bt137.1 bt137.2 6 (⟨#[97]⟩ : ByteArray) x102000 x102001 x102002 x102003 (⟨#[98]⟩ : ByteArray) x103000 x103001 x103002 x103003 (rdOf ByteArray.empty y120 t123) bt126.1 bt126.2.1 bt126.2.2.1 bt126.2.2.2.1 bt126.2.2.2.2.1 bt126.2.2.2.2.2.1 bt126.2.2.2.2.2.2.1 bt126.2.2.2.2.2.2.2.1 bt126.2.2.2.2.2.2.2.2.1) else (donjonlaw18_MailFirst.j1 k x9 bt126.2.2.2.2.2.2.2.2.2 bt137.1 bt137.2 0 (⟨#[97]⟩ : ByteArray) x102000 x102001 x102002 x102003 (⟨#[98]⟩ : ByteArray) x103000 x103001 x103002 x103003 (rdOf ByteArray.empty y120 t123) bt126.1 bt126.2.1 bt126.2.2.1 bt126.2.2.2.1 bt126.2.2.2.2.1 bt126.2.2.2.2.2.1 bt126.2.2.2.2.2.2.1 bt126.2.2.2.2.2.2.2.1 bt126.2.2.2.2.2.2.2.2.1)) else (none)))) else (none)) else (none)))
def donjonlaw18_MailFirst.j1 : Nat → List (S44) → Bool → Int → Int → Int → ByteArray → Int → Int → Int → Int → ByteArray → Int → Int → Int → Int → ByteArray → Int → Int → Int → Int → Int → Int → Int → Int → ByteArray → Option (Bool)
 | 0, _, _, _, _, _, _, _, _, _, _, _, _, _, _, _, _, _, _, _, _, _, _, _, _, _ => none
 | k + 1, x9, x12, x13, x14, x15, x126000, x126001, x126002, x126003, x126004, x126005, x126006, x126007, x126008, x126009, x126010, x137000, x137001, x137002, x137003, x137004, x137005, x137006, x137007, x137008 => if x12 = true then (if 1 < (x9.length : Int) then (if ((x137000 == ((rd_T44 x9 1).f0.f0) && (x137001 == ((rd_T44 x9 1).f0.f1) && (x137002 == ((rd_T44 x9 1).f0.f2) && (x137003 == ((rd_T44 x9 1).f0.f3))))) && ((x137004 == ((rd_T44 x9 1).f1.f0) && (x137005 == ((rd_T44 x9 1).f1.f1) && (x137006 == ((rd_T44 x9 1).f1.f2) && (x137007 == ((rd_T44 x9 1).f1.f3))))) && (x137008.toList == (((rd_T44 x9 1).f2).toList)))) = true then (if x13 = 2 then (if x14 = 0 then ((mail_Release.f k x9 x126000 x126001 x126002 x126003 x126004 x126005 x126006 x126007 x126008 x126009 x126010).bind fun t141 => (some (t141 == x15))) else (some false)) else (some false)) else (some false)) else (none)) else (some false)
end
def donjonlaw18_MailFirst.f (k : Nat) (a0_0 : Int) (a0_1 : Int) (a0_2 : Int) (a0_3 : Int) (a1_0 : Int) (a1_1 : Int) (a1_2 : Int) (a1_3 : Int) (a2 : Bool) (a3 : Int) : Option (Bool) := (donjonlaw18_known.f k).bind fun t103 => (if t103 = true then ((donjonlaw4_Good.f a0_0 a0_1 a0_2 a0_3).bind fun bt104 => ((donjonlaw4_Good.f a1_0 a1_1 a1_2 a1_3).bind fun bt108 => ((donjonref4_Over.f bt108.1 bt108.2.1 bt108.2.2.1 bt108.2.2.2 bt104.1 bt104.2.1 bt104.2.2.1 bt104.2.2.2).bind fun t112 => (if t112 = true then (some true) else ((some (([(⟨(⟨bt108.1, bt108.2.1, bt108.2.2.1, bt108.2.2.2⟩ : S26), (⟨bt104.1, bt104.2.1, bt104.2.2.1, bt104.2.2.2⟩ : S26), (⟨#[111, 116, 104, 101, 114]⟩ : ByteArray)⟩ : S44), (⟨(⟨bt104.1, bt104.2.1, bt104.2.2.1, bt104.2.2.2⟩ : S26), (⟨bt108.1, bt108.2.1, bt108.2.2.1, bt108.2.2.2⟩ : S26), (⟨#[111, 110, 101]⟩ : ByteArray)⟩ : S44), (⟨(⟨bt104.1, bt104.2.1, bt104.2.2.1, bt104.2.2.2⟩ : S26), (⟨bt108.1, bt108.2.1, bt108.2.2.1, bt108.2.2.2⟩ : S26), (⟨#[116, 119, 111]⟩ : ByteArray)⟩ : S44)] : List (S44)) : List (S44))).bind fun y113 => (if a2 = true then (if 2 < (y113.length : Int) then (if 1 < (y113.length : Int) then (donjonlaw18_MailFirst.j0 k a3 ((y113.set (1 : Int).toNat (⟨(⟨(rd_T44 y113 2).f0.f0, (rd_T44 y113 2).f0.f1, (rd_T44 y113 2).f0.f2, (rd_T44 y113 2).f0.f3⟩ : S26), (⟨(rd_T44 y113 2).f1.f0, (rd_T44 y113 2).f1.f1, (rd_T44 y113 2).f1.f2, (rd_T44 y113 2).f1.f3⟩ : S26), (rd_T44 y113 2).f2⟩ : S44)).set (2 : Int).toNat (⟨(⟨(rd_T44 y113 1).f0.f0, (rd_T44 y113 1).f0.f1, (rd_T44 y113 1).f0.f2, (rd_T44 y113 1).f0.f3⟩ : S26), (⟨(rd_T44 y113 1).f1.f0, (rd_T44 y113 1).f1.f1, (rd_T44 y113 1).f1.f2, (rd_T44 y113 1).f1.f3⟩ : S26), (rd_T44 y113 1).f2⟩ : S44)) bt104.1 bt104.2.1 bt104.2.2.1 bt104.2.2.2 bt108.1 bt108.2.1 bt108.2.2.1 bt108.2.2.2) else (none)) else (none)) else (donjonlaw18_MailFirst.j0 k a3 y113 bt104.1 bt104.2.1 bt104.2.2.1 bt104.2.2.2 bt108.1 bt108.2.1 bt108.2.2.1 bt108.2.2.2))))))) else (some false))
theorem donjonlaw18_MailFirst.mono_l : ∀ k, (∀ y0 y1 y2 y3 y4 y5 y6 y7 y8 y9, LeO (donjonlaw18_MailFirst.j0 k y0 y1 y2 y3 y4 y5 y6 y7 y8 y9) (donjonlaw18_MailFirst.j0 (k + 1) y0 y1 y2 y3 y4 y5 y6 y7 y8 y9)) ∧ (∀ y0 y1 y2 y3 y4 y5 y6 y7 y8 y9 y10 y11 y12 y13 y14 y15 y16 y17 y18 y19 y20 y21 y22 y23 y24, LeO (donjonlaw18_MailFirst.j1 k y0 y1 y2 y3 y4 y5 y6 y7 y8 y9 y10 y11 y12 y13 y14 y15 y16 y17 y18 y19 y20 y21 y22 y23 y24) (donjonlaw18_MailFirst.j1 (k + 1) y0 y1 y2 y3 y4 y5 y6 y7 y8 y9 y10 y11 y12 y13 y14 y15 y16 y17 y18 y19 y20 y21 y22 y23 y24))
 | 0 => ⟨fun _ _ _ _ _ _ _ _ _ _ r h => by simp [donjonlaw18_MailFirst.j0] at h, fun _ _ _ _ _ _ _ _ _ _ _ _ _ _ _ _ _ _ _ _ _ _ _ _ _ r h => by simp [donjonlaw18_MailFirst.j1] at h⟩
 | k + 1 => by
  obtain ⟨ih0, ih1⟩ := donjonlaw18_MailFirst.mono_l k
  refine ⟨?_, ?_⟩
  ·intro y0 y1 y2 y3 y4 y5 y6 y7 y8 y9
   unfold donjonlaw18_MailFirst.j0
   repeat' first
   | (with_reducible exact ih0 _ _ _ _ _ _ _ _ _ _)
   | (with_reducible exact ih1 _ _ _ _ _ _ _ _ _ _ _ _ _ _ _ _ _ _ _ _ _ _ _ _ _)
   | (with_reducible exact donjonlaw18_known.mono _)
   | (with_reducible exact mail_Release.mono _ _ _ _ _ _ _ _ _ _ _ _ _)
   | (with_reducible exact mail_Rule.mono _ _ _ _ _ _ _ _ _ _ _ _ _)
   | (with_reducible exact mail_Send.mono _ _ _ _ _ _ _ _ _ _ _ _ _)
   | (with_reducible exact LeO.refl _)
   | (with_reducible exact LeO.none _)
   | (with_reducible refine LeO.ite ?_ ?_)
   | (with_reducible refine LeO.bind ?_ (fun _ => ?_))
   | exact ih0 _ _ _ _ _ _ _ _ _ _
   | exact ih1 _ _ _ _ _ _ _ _ _ _ _ _ _ _ _ _ _ _ _ _ _ _ _ _ _
   | exact donjonlaw18_known.mono _
   | exact mail_Release.mono _ _ _ _ _ _ _ _ _ _ _ _ _
   | exact mail_Rule.mono _ _ _ _ _ _ _ _ _ _ _ _ _
   | exact mail_Send.mono _ _ _ _ _ _ _ _ _ _ _ _ _
   | exact LeO.none _
   | refine LeO.ite ?_ ?_
   | refine LeO.bind ?_ (fun _ => ?_)
  ·intro y0 y1 y2 y3 y4 y5 y6 y7 y8 y9 y10 y11 y12 y13 y14 y15 y16 y17 y18 y19 y20 y21 y22 y23 y24
   unfold donjonlaw18_MailFirst.j1
   repeat' first
   | (with_reducible exact ih0 _ _ _ _ _ _ _ _ _ _)
   | (with_reducible exact ih1 _ _ _ _ _ _ _ _ _ _ _ _ _ _ _ _ _ _ _ _ _ _ _ _ _)
   | (with_reducible exact donjonlaw18_known.mono _)
   | (with_reducible exact mail_Release.mono _ _ _ _ _ _ _ _ _ _ _ _ _)
   | (with_reducible exact mail_Rule.mono _ _ _ _ _ _ _ _ _ _ _ _ _)
   | (with_reducible exact mail_Send.mono _ _ _ _ _ _ _ _ _ _ _ _ _)
   | (with_reducible exact LeO.refl _)
   | (with_reducible exact LeO.none _)
   | (with_reducible refine LeO.ite ?_ ?_)
   | (with_reducible refine LeO.bind ?_ (fun _ => ?_))
   | exact ih0 _ _ _ _ _ _ _ _ _ _
   | exact ih1 _ _ _ _ _ _ _ _ _ _ _ _ _ _ _ _ _ _ _ _ _ _ _ _ _
   | exact donjonlaw18_known.mono _
   | exact mail_Release.mono _ _ _ _ _ _ _ _ _ _ _ _ _
   | exact mail_Rule.mono _ _ _ _ _ _ _ _ _ _ _ _ _
   | exact mail_Send.mono _ _ _ _ _ _ _ _ _ _ _ _ _
   | exact LeO.none _
   | refine LeO.ite ?_ ?_
   | refine LeO.bind ?_ (fun _ => ?_)
theorem donjonlaw18_MailFirst.mono : ∀ a0 a1 a2 a3 a4 a5 a6 a7 a8 a9 k, LeO (donjonlaw18_MailFirst.f k a0 a1 a2 a3 a4 a5 a6 a7 a8 a9) (donjonlaw18_MailFirst.f (k + 1) a0 a1 a2 a3 a4 a5 a6 a7 a8 a9) := by
 intro a0 a1 a2 a3 a4 a5 a6 a7 a8 a9 k
 obtain ⟨ih0, ih1⟩ := donjonlaw18_MailFirst.mono_l k
 unfold donjonlaw18_MailFirst.f
 repeat' first
   | (with_reducible exact ih0 _ _ _ _ _ _ _ _ _ _)
   | (with_reducible exact ih1 _ _ _ _ _ _ _ _ _ _ _ _ _ _ _ _ _ _ _ _ _ _ _ _ _)
   | (with_reducible exact donjonlaw18_known.mono _)
   | (with_reducible exact mail_Release.mono _ _ _ _ _ _ _ _ _ _ _ _ _)
   | (with_reducible exact mail_Rule.mono _ _ _ _ _ _ _ _ _ _ _ _ _)
   | (with_reducible exact mail_Send.mono _ _ _ _ _ _ _ _ _ _ _ _ _)
   | (with_reducible exact LeO.refl _)
   | (with_reducible exact LeO.none _)
   | (with_reducible refine LeO.ite ?_ ?_)
   | (with_reducible refine LeO.bind ?_ (fun _ => ?_))
   | exact ih0 _ _ _ _ _ _ _ _ _ _
   | exact ih1 _ _ _ _ _ _ _ _ _ _ _ _ _ _ _ _ _ _ _ _ _ _ _ _ _
   | exact donjonlaw18_known.mono _
   | exact mail_Release.mono _ _ _ _ _ _ _ _ _ _ _ _ _
   | exact mail_Rule.mono _ _ _ _ _ _ _ _ _ _ _ _ _
   | exact mail_Send.mono _ _ _ _ _ _ _ _ _ _ _ _ _
   | exact LeO.none _
   | refine LeO.ite ?_ ?_
   | refine LeO.bind ?_ (fun _ => ?_)
def donjonlaw18_MailFirst.T8 : Bool × List (List Nat × List Nat) := (true, [([], []), ([], []), ([], []), ([2], [2]), ([3], [3]), ([], []), ([5], [5]), ([6], [6]), ([0, 0, 2, 3, 4, 7], [0]), ([8, 4, 0, 2, 3, 4, 7], [4, 8]), ([1, 0, 1, 2, 3, 4, 5, 6, 7, 8, 9], [1]), ([10, 7, 9, 0, 1, 2, 3, 4, 5, 6, 7, 8, 9], [7, 10])])
def donjonlaw18_MailFirst.B8 : List Nat := [0, 0, 0, 4, 12, 0, 32, 96, 253, 509, 1023, 2047]
theorem donjonlaw18_MailFirst.tab8 : rtab .any (opsOf Try.f8 8) = donjonlaw18_MailFirst.T8 := by kernel_rfl
theorem donjonlaw18_MailFirst.bits8 : waitsOk donjonlaw18_MailFirst.T8.2 donjonlaw18_MailFirst.B8 = true := by kernel_rfl
def donjonlaw18_MailFirst.T9 : Bool × List (List Nat × List Nat) := (true, [([], []), ([], []), ([], []), ([], []), ([3], [3]), ([2, 4], [2, 4]), ([5], [5]), ([0, 1, 6], [0, 1, 6]), ([], []), ([8, 7, 4, 0, 1, 2, 3, 4, 5, 6, 7, 8], [7, 8])])
def donjonlaw18_MailFirst.B9 : List Nat := [0, 0, 0, 0, 8, 28, 60, 127, 0, 511]
theorem donjonlaw18_MailFirst.tab9 : rtab .any (opsOf Try.f8 9) = donjonlaw18_MailFirst.T9 := by kernel_rfl
theorem donjonlaw18_MailFirst.bits9 : waitsOk donjonlaw18_MailFirst.T9.2 donjonlaw18_MailFirst.B9 = true := by kernel_rfl
def donjonlaw18_MailFirst.T15 : Bool × List (List Nat × List Nat) := (true, [([], []), ([0], [0]), ([1], [1]), ([1], [1]), ([3, 1], [1, 3]), ([4, 1], [1, 4]), ([2, 5, 1], [1, 2, 5]), ([1, 6], [1, 6]), ([7, 1], [7]), ([8], [8]), ([9, 8], [8, 9]), ([8, 10], [8, 10]), ([11, 8], [11]), ([12], [12]), ([13, 12], [12, 13]), ([12, 14], [12, 14]), ([15, 12], [15]), ([16], [16]), ([16], [16]), ([17, 18, 16, 16], [16, 17, 18]), ([16], [16]), ([19, 20, 16], [16, 19, 20]), ([16, 21], [16, 21]), ([22, 19, 0, 1, 2, 3, 4, 5, 6, 7, 8, 9, 10, 11, 12, 13, 14, 15, 16, 17, 18, 19, 20, 21, 22], [22])])
def donjonlaw18_MailFirst.B15 : List Nat := [0, 1, 3, 3, 11, 27, 63, 127, 255, 511, 1023, 2047, 4095, 8191, 16383, 32767, 65535, 131071, 131071, 524287, 131071, 2097151, 4194303, 8388607]
theorem donjonlaw18_MailFirst.tab15 : rtab .any (opsOf Try.f8 15) = donjonlaw18_MailFirst.T15 := by kernel_rfl
theorem donjonlaw18_MailFirst.bits15 : waitsOk donjonlaw18_MailFirst.T15.2 donjonlaw18_MailFirst.B15 = true := by kernel_rfl
set_option maxHeartbeats 8000000 in
set_option maxRecDepth 100000 in
theorem donjonlaw18_MailFirst.calls (k : Nat) (a0_0 : Int) (a0_1 : Int) (a0_2 : Int) (a0_3 : Int) (a1_0 : Int) (a1_1 : Int) (a1_2 : Int) (a1_3 : Int) (a2 : Bool) (a3 : Int) (r : Bool) (w : World) (hrt0 : r = true) (hG0 : MaxAt w) (h : donjonlaw18_MailFirst.f k a0_0 a0_1 a0_2 a0_3 a1_0 a1_1 a1_2 a1_3 a2 a3 = some r) :
  Calls Try.prog 8 #[.agg #[.int .i64 a0_0, .int .i64 a0_1, .int .i64 a0_2, .int .i64 a0_3], .agg #[.int .i64 a1_0, .int .i64 a1_1, .int .i64 a1_2, .int .i64 a1_3], .bool a2, .int .i64 a3] w fun e w' => e = .returned (.bool r) ∧ Below w.heap.size w w' := by
 have HRT := Aside0.mk hrt0
 clear hrt0
 have HG := Aside0.mk hG0
 clear hG0
 have hu26 := Try.underlying26
 have hu44 := Try.underlying44
 have hu28 := Try.underlying28
 have HB := Aside0.mk (Below.refl w.heap.size w)
 have H : ((donjonlaw18_known.f k).bind fun t103 => (if t103 = true then ((donjonlaw4_Good.f a0_0 a0_1 a0_2 a0_3).bind fun bt104 => ((donjonlaw4_Good.f a1_0 a1_1 a1_2 a1_3).bind fun bt108 => ((donjonref4_Over.f bt108.1 bt108.2.1 bt108.2.2.1 bt108.2.2.2 bt104.1 bt104.2.1 bt104.2.2.1 bt104.2.2.2).bind fun t112 => (if t112 = true then (some true) else ((some (([(⟨(⟨bt108.1, bt108.2.1, bt108.2.2.1, bt108.2.2.2⟩ : S26), (⟨bt104.1, bt104.2.1, bt104.2.2.1, bt104.2.2.2⟩ : S26), (⟨#[111, 116, 104, 101, 114]⟩ : ByteArray)⟩ : S44), (⟨(⟨bt104.1, bt104.2.1, bt104.2.2.1, bt104.2.2.2⟩ : S26), (⟨bt108.1, bt108.2.1, bt108.2.2.1, bt108.2.2.2⟩ : S26), (⟨#[111, 110, 101]⟩ : ByteArray)⟩ : S44), (⟨(⟨bt104.1, bt104.2.1, bt104.2.2.1, bt104.2.2.2⟩ : S26), (⟨bt108.1, bt108.2.1, bt108.2.2.1, bt108.2.2.2⟩ : S26), (⟨#[116, 119, 111]⟩ : ByteArray)⟩ : S44)] : List (S44)) : List (S44))).bind fun y113 => (if a2 = true then (if 2 < (y113.length : Int) then (if 1 < (y113.length : Int) then (donjonlaw18_MailFirst.j0 k a3 ((y113.set (1 : Int).toNat (⟨(⟨(rd_T44 y113 2).f0.f0, (rd_T44 y113 2).f0.f1, (rd_T44 y113 2).f0.f2, (rd_T44 y113 2).f0.f3⟩ : S26), (⟨(rd_T44 y113 2).f1.f0, (rd_T44 y113 2).f1.f1, (rd_T44 y113 2).f1.f2, (rd_T44 y113 2).f1.f3⟩ : S26), (rd_T44 y113 2).f2⟩ : S44)).set (2 : Int).toNat (⟨(⟨(rd_T44 y113 1).f0.f0, (rd_T44 y113 1).f0.f1, (rd_T44 y113 1).f0.f2, (rd_T44 y113 1).f0.f3⟩ : S26), (⟨(rd_T44 y113 1).f1.f0, (rd_T44 y113 1).f1.f1, (rd_T44 y113 1).f1.f2, (rd_T44 y113 1).f1.f3⟩ : S26), (rd_T44 y113 1).f2⟩ : S44)) bt104.1 bt104.2.1 bt104.2.2.1 bt104.2.2.2 bt108.1 bt108.2.1 bt108.2.2.1 bt108.2.2.2) else (none)) else (none)) else (donjonlaw18_MailFirst.j0 k a3 y113 bt104.1 bt104.2.1 bt104.2.2.1 bt104.2.2.2 bt108.1 bt108.2.1 bt108.2.2.1 bt108.2.2.2))))))) else (some false))) = some r := h
 clear h
 replace H := Option.bind_eq_some_iff.mp H
 obtain ⟨t103, A50, H⟩ := H
 replace H : (if t103 = true then ((donjonlaw4_Good.f a0_0 a0_1 a0_2 a0_3).bind fun bt104 => ((donjonlaw4_Good.f a1_0 a1_1 a1_2 a1_3).bind fun bt108 => ((donjonref4_Over.f bt108.1 bt108.2.1 bt108.2.2.1 bt108.2.2.2 bt104.1 bt104.2.1 bt104.2.2.1 bt104.2.2.2).bind fun t112 => (if t112 = true then (some true) else ((some (([(⟨(⟨bt108.1, bt108.2.1, bt108.2.2.1, bt108.2.2.2⟩ : S26), (⟨bt104.1, bt104.2.1, bt104.2.2.1, bt104.2.2.2⟩ : S26), (⟨#[111, 116, 104, 101, 114]⟩ : ByteArray)⟩ : S44), (⟨(⟨bt104.1, bt104.2.1, bt104.2.2.1, bt104.2.2.2⟩ : S26), (⟨bt108.1, bt108.2.1, bt108.2.2.1, bt108.2.2.2⟩ : S26), (⟨#[111, 110, 101]⟩ : ByteArray)⟩ : S44), (⟨(⟨bt104.1, bt104.2.1, bt104.2.2.1, bt104.2.2.2⟩ : S26), (⟨bt108.1, bt108.2.1, bt108.2.2.1, bt108.2.2.2⟩ : S26), (⟨#[116, 119, 111]⟩ : ByteArray)⟩ : S44)] : List (S44)) : List (S44))).bind fun y113 => (if a2 = true then (if 2 < (y113.length : Int) then (if 1 < (y113.length : Int) then (donjonlaw18_MailFirst.j0 k a3 ((y113.set (1 : Int).toNat (⟨(⟨(rd_T44 y113 2).f0.f0, (rd_T44 y113 2).f0.f1, (rd_T44 y113 2).f0.f2, (rd_T44 y113 2).f0.f3⟩ : S26), (⟨(rd_T44 y113 2).f1.f0, (rd_T44 y113 2).f1.f1, (rd_T44 y113 2).f1.f2, (rd_T44 y113 2).f1.f3⟩ : S26), (rd_T44 y113 2).f2⟩ : S44)).set (2 : Int).toNat (⟨(⟨(rd_T44 y113 1).f0.f0, (rd_T44 y113 1).f0.f1, (rd_T44 y113 1).f0.f2, (rd_T44 y113 1).f0.f3⟩ : S26), (⟨(rd_T44 y113 1).f1.f0, (rd_T44 y113 1).f1.f1, (rd_T44 y113 1).f1.f2, (rd_T44 y113 1).f1.f3⟩ : S26), (rd_T44 y113 1).f2⟩ : S44)) bt104.1 bt104.2.1 bt104.2.2.1 bt104.2.2.2 bt108.1 bt108.2.1 bt108.2.2.1 bt108.2.2.2) else (none)) else (none)) else (donjonlaw18_MailFirst.j0 k a3 y113 bt104.1 bt104.2.1 bt104.2.2.1 bt104.2.2.2 bt108.1 bt108.2.1 bt108.2.2.1 bt108.2.2.2))))))) else (some false)) = some r := H
 have A5 := Aside0.mk A50
 clear A50
 by_cases c6 : t103 = true
 ·subst c6
  have H1 : ((donjonlaw4_Good.f a0_0 a0_1 a0_2 a0_3).bind fun bt104 => ((donjonlaw4_Good.f a1_0 a1_1 a1_2 a1_3).bind fun bt108 => ((donjonref4_Over.f bt108.1 bt108.2.1 bt108.2.2.1 bt108.2.2.2 bt104.1 bt104.2.1 bt104.2.2.1 bt104.2.2.2).bind fun t112 => (if t112 = true then (some true) else ((some (([(⟨(⟨bt108.1, bt108.2.1, bt108.2.2.1, bt108.2.2.2⟩ : S26), (⟨bt104.1, bt104.2.1, bt104.2.2.1, bt104.2.2.2⟩ : S26), (⟨#[111, 116, 104, 101, 114]⟩ : ByteArray)⟩ : S44), (⟨(⟨bt104.1, bt104.2.1, bt104.2.2.1, bt104.2.2.2⟩ : S26), (⟨bt108.1, bt108.2.1, bt108.2.2.1, bt108.2.2.2⟩ : S26), (⟨#[111, 110, 101]⟩ : ByteArray)⟩ : S44), (⟨(⟨bt104.1, bt104.2.1, bt104.2.2.1, bt104.2.2.2⟩ : S26), (⟨bt108.1, bt108.2.1, bt108.2.2.1, bt108.2.2.2⟩ : S26), (⟨#[116, 119, 111]⟩ : ByteArray)⟩ : S44)] : List (S44)) : List (S44))).bind fun y113 => (if a2 = true then (if 2 < (y113.length : Int) then (if 1 < (y113.length : Int) then (donjonlaw18_MailFirst.j0 k a3 ((y113.set (1 : Int).toNat (⟨(⟨(rd_T44 y113 2).f0.f0, (rd_T44 y113 2).f0.f1, (rd_T44 y113 2).f0.f2, (rd_T44 y113 2).f0.f3⟩ : S26), (⟨(rd_T44 y113 2).f1.f0, (rd_T44 y113 2).f1.f1, (rd_T44 y113 2).f1.f2, (rd_T44 y113 2).f1.f3⟩ : S26), (rd_T44 y113 2).f2⟩ : S44)).set (2 : Int).toNat (⟨(⟨(rd_T44 y113 1).f0.f0, (rd_T44 y113 1).f0.f1, (rd_T44 y113 1).f0.f2, (rd_T44 y113 1).f0.f3⟩ : S26), (⟨(rd_T44 y113 1).f1.f0, (rd_T44 y113 1).f1.f1, (rd_T44 y113 1).f1.f2, (rd_T44 y113 1).f1.f3⟩ : S26), (rd_T44 y113 1).f2⟩ : S44)) bt104.1 bt104.2.1 bt104.2.2.1 bt104.2.2.2 bt108.1 bt108.2.1 bt108.2.2.1 bt108.2.2.2) else (none)) else (none)) else (donjonlaw18_MailFirst.j0 k a3 y113 bt104.1 bt104.2.1 bt104.2.2.1 bt104.2.2.2 bt108.1 bt108.2.1 bt108.2.2.1 bt108.2.2.2))))))) = some r := by rw [if_pos rfl] at H; exact H
  clear H
  have H := H1
  clear H1
  replace H := Option.bind_eq_some_iff.mp H
  obtain ⟨⟨t104, t105, t106, t107⟩, A70, H⟩ := H
  replace H : ((donjonlaw4_Good.f a1_0 a1_1 a1_2 a1_3).bind fun bt108 => ((donjonref4_Over.f bt108.1 bt108.2.1 bt108.2.2.1 bt108.2.2.2 t104 t105 t106 t107).bind fun t112 => (if t112 = true then (some true) else ((some (([(⟨(⟨bt108.1, bt108.2.1, bt108.2.2.1, bt108.2.2.2⟩ : S26), (⟨t104, t105, t106, t107⟩ : S26), (⟨#[111, 116, 104, 101, 114]⟩ : ByteArray)⟩ : S44), (⟨(⟨t104, t105, t106, t107⟩ : S26), (⟨bt108.1, bt108.2.1, bt108.2.2.1, bt108.2.2.2⟩ : S26), (⟨#[111, 110, 101]⟩ : ByteArray)⟩ : S44), (⟨(⟨t104, t105, t106, t107⟩ : S26), (⟨bt108.1, bt108.2.1, bt108.2.2.1, bt108.2.2.2⟩ : S26), (⟨#[116, 119, 111]⟩ : ByteArray)⟩ : S44)] : List (S44)) : List (S44))).bind fun y113 => (if a2 = true then (if 2 < (y113.length : Int) then (if 1 < (y113.length : Int) then (donjonlaw18_MailFirst.j0 k a3 ((y113.set (1 : Int).toNat (⟨(⟨(rd_T44 y113 2).f0.f0, (rd_T44 y113 2).f0.f1, (rd_T44 y113 2).f0.f2, (rd_T44 y113 2).f0.f3⟩ : S26), (⟨(rd_T44 y113 2).f1.f0, (rd_T44 y113 2).f1.f1, (rd_T44 y113 2).f1.f2, (rd_T44 y113 2).f1.f3⟩ : S26), (rd_T44 y113 2).f2⟩ : S44)).set (2 : Int).toNat (⟨(⟨(rd_T44 y113 1).f0.f0, (rd_T44 y113 1).f0.f1, (rd_T44 y113 1).f0.f2, (rd_T44 y113 1).f0.f3⟩ : S26), (⟨(rd_T44 y113 1).f1.f0, (rd_T44 y113 1).f1.f1, (rd_T44 y113 1).f1.f2, (rd_T44 y113 1).f1.f3⟩ : S26), (rd_T44 y113 1).f2⟩ : S44)) t104 t105 t106 t107 bt108.1 bt108.2.1 bt108.2.2.1 bt108.2.2.2) else (none)) else (none)) else (donjonlaw18_MailFirst.j0 k a3 y113 t104 t105 t106 t107 bt108.1 bt108.2.1 bt108.2.2.1 bt108.2.2.2)))))) = some r := H
  have A7 := Aside0.mk A70
  clear A70
  replace H := Option.bind_eq_some_iff.mp H
  obtain ⟨⟨t108, t109, t110, t111⟩, A80, H⟩ := H
  replace H : ((donjonref4_Over.f t108 t109 t110 t111 t104 t105 t106 t107).bind fun t112 => (if t112 = true then (some true) else ((some (([(⟨(⟨t108, t109, t110, t111⟩ : S26), (⟨t104, t105, t106, t107⟩ : S26), (⟨#[111, 116, 104, 101, 114]⟩ : ByteArray)⟩ : S44), (⟨(⟨t104, t105, t106, t107⟩ : S26), (⟨t108, t109, t110, t111⟩ : S26), (⟨#[111, 110, 101]⟩ : ByteArray)⟩ : S44), (⟨(⟨t104, t105, t106, t107⟩ : S26), (⟨t108, t109, t110, t111⟩ : S26), (⟨#[116, 119, 111]⟩ : ByteArray)⟩ : S44)] : List (S44)) : List (S44))).bind fun y113 => (if a2 = true then (if 2 < (y113.length : Int) then (if 1 < (y113.length : Int) then (donjonlaw18_MailFirst.j0 k a3 ((y113.set (1 : Int).toNat (⟨(⟨(rd_T44 y113 2).f0.f0, (rd_T44 y113 2).f0.f1, (rd_T44 y113 2).f0.f2, (rd_T44 y113 2).f0.f3⟩ : S26), (⟨(rd_T44 y113 2).f1.f0, (rd_T44 y113 2).f1.f1, (rd_T44 y113 2).f1.f2, (rd_T44 y113 2).f1.f3⟩ : S26), (rd_T44 y113 2).f2⟩ : S44)).set (2 : Int).toNat (⟨(⟨(rd_T44 y113 1).f0.f0, (rd_T44 y113 1).f0.f1, (rd_T44 y113 1).f0.f2, (rd_T44 y113 1).f0.f3⟩ : S26), (⟨(rd_T44 y113 1).f1.f0, (rd_T44 y113 1).f1.f1, (rd_T44 y113 1).f1.f2, (rd_T44 y113 1).f1.f3⟩ : S26), (rd_T44 y113 1).f2⟩ : S44)) t104 t105 t106 t107 t108 t109 t110 t111) else (none)) else (none)) else (donjonlaw18_MailFirst.j0 k a3 y113 t104 t105 t106 t107 t108 t109 t110 t111))))) = some r := H
  have A8 := Aside0.mk A80
  clear A80
  replace H := Option.bind_eq_some_iff.mp H
  obtain ⟨t112, A90, H⟩ := H
  replace H : (if t112 = true then (some true) else ((some (([(⟨(⟨t108, t109, t110, t111⟩ : S26), (⟨t104, t105, t106, t107⟩ : S26), (⟨#[111, 116, 104, 101, 114]⟩ : ByteArray)⟩ : S44), (⟨(⟨t104, t105, t106, t107⟩ : S26), (⟨t108, t109, t110, t111⟩ : S26), (⟨#[111, 110, 101]⟩ : ByteArray)⟩ : S44), (⟨(⟨t104, t105, t106, t107⟩ : S26), (⟨t108, t109, t110, t111⟩ : S26), (⟨#[116, 119, 111]⟩ : ByteArray)⟩ : S44)] : List (S44)) : List (S44))).bind fun y113 => (if a2 = true then (if 2 < (y113.length : Int) then (if 1 < (y113.length : Int) then (donjonlaw18_MailFirst.j0 k a3 ((y113.set (1 : Int).toNat (⟨(⟨(rd_T44 y113 2).f0.f0, (rd_T44 y113 2).f0.f1, (rd_T44 y113 2).f0.f2, (rd_T44 y113 2).f0.f3⟩ : S26), (⟨(rd_T44 y113 2).f1.f0, (rd_T44 y113 2).f1.f1, (rd_T44 y113 2).f1.f2, (rd_T44 y113 2).f1.f3⟩ : S26), (rd_T44 y113 2).f2⟩ : S44)).set (2 : Int).toNat (⟨(⟨(rd_T44 y113 1).f0.f0, (rd_T44 y113 1).f0.f1, (rd_T44 y113 1).f0.f2, (rd_T44 y113 1).f0.f3⟩ : S26), (⟨(rd_T44 y113 1).f1.f0, (rd_T44 y113 1).f1.f1, (rd_T44 y113 1).f1.f2, (rd_T44 y113 1).f1.f3⟩ : S26), (rd_T44 y113 1).f2⟩ : S44)) t104 t105 t106 t107 t108 t109 t110 t111) else (none)) else (none)) else (donjonlaw18_MailFirst.j0 k a3 y113 t104 t105 t106 t107 t108 t109 t110 t111)))) = some r := H
  have A9 := Aside0.mk A90
  clear A90
  by_cases c10 : t112 = true
  ·subst c10
   have H1 : (some true) = some r := by rw [if_pos rfl] at H; exact H
   clear H
   have H := H1
   clear H1
   obtain rfl := Option.some.inj H
   go_enter Try.func8, Try.ntmps8
   try go_wp2_with (first | ((with_reducible refine gate_dst (N := 4) rfl ?_); refine box_event ?hg (N := 4) ?hd (cs := #[.int .i64 a0_0, .int .i64 a0_1, .int .i64 a0_2, .int .i64 a0_3]) (t := 26) ?hr ?_; (case hd => rfl); (case hg => rfl); (case hr => first | (go_simp; done) | (go_simp; rfl)); intro gb101 hg w11 hbox hb; have n0_ := Aside0.mk (below_step (by repeat (first | (with_reducible first | exact HB.out | apply below_alloc | apply pw_below_drewN | apply below_drew1) | exact HB.out)) hb); have n1_ := Aside0.mk (hbox); have n2_ := Aside0.mk ((by rw [hg]; exact (below_size (by repeat (first | (with_reducible first | exact HB.out | apply below_alloc | apply pw_below_drewN | apply below_drew1) | exact HB.out))) : w.heap.size ≤ gb101)); have n3_ := Aside0.mk ((by rw [hg]; exact (below_size (by repeat (first | (with_reducible first | exact HB.out | apply below_alloc | apply pw_below_drewN | apply below_drew1) | exact HB.out))) : w.heap.size ≤ gb101)); clear HB; have HB := n0_; have BK101 := n1_; have GW101 := n2_; have GE101 := n3_; clear n0_ n1_ n2_ n3_; clear hb hbox hg) | ((with_reducible refine gate_dst (N := 5) rfl ?_); refine box_event ?hg (N := 5) ?hd (cs := #[.int .i64 a1_0, .int .i64 a1_1, .int .i64 a1_2, .int .i64 a1_3]) (t := 26) ?hr ?_; (case hd => rfl); (case hg => rfl); (case hr => first | (go_simp; done) | (go_simp; rfl)); intro gb102 hg w12 hbox hb; have n0_ := Aside0.mk (blk_below (g := gb101) (o := .cells #[.int .i64 a0_0, .int .i64 a0_1, .int .i64 a0_2, .int .i64 a0_3] 26 (0, 0)) (by (with_reducible repeat (first | refine blk_drewN ?_ _ | refine blk_drew ?_ | refine blk_alloc ?_ _)); exact BK101.out) hb); have n1_ := Aside0.mk (below_step (by repeat (first | (with_reducible first | exact HB.out | apply below_alloc | apply pw_below_drewN | apply below_drew1 | refine below_set ?_ GE101.out) | exact HB.out)) hb); have n2_ := Aside0.mk (hbox); have n3_ := Aside0.mk ((by rw [hg]; exact (below_size (by repeat (first | (with_reducible first | exact HB.out | apply below_alloc | apply pw_below_drewN | apply below_drew1 | refine below_set ?_ GE101.out) | exact HB.out))) : w.heap.size ≤ gb102)); have n4_ := Aside0.mk ((by rw [hg]; exact (below_size (by repeat (first | (with_reducible first | exact HB.out | apply below_alloc | apply pw_below_drewN | apply below_drew1 | refine below_set ?_ GE101.out) | exact HB.out))) : w.heap.size ≤ gb102)); have n5_ := Aside0.mk ((by rw [hg]; exact Nat.ne_of_lt (blk_lt (g := gb101) (o := .cells #[.int .i64 a0_0, .int .i64 a0_1, .int .i64 a0_2, .int .i64 a0_3] 26 (0, 0)) (by (with_reducible repeat (first | refine blk_drewN ?_ _ | refine blk_drew ?_ | refine blk_alloc ?_ _)); exact BK101.out)) : gb101 ≠ gb102)); have n6_ := Aside0.mk ((by rw [hg]; exact Nat.ne_of_gt (blk_lt (g := gb101) (o := .cells #[.int .i64 a0_0, .int .i64 a0_1, .int .i64 a0_2, .int .i64 a0_3] 26 (0, 0)) (by (with_reducible repeat (first | refine blk_drewN ?_ _ | refine blk_drew ?_ | refine blk_alloc ?_ _)); exact BK101.out)) : gb102 ≠ gb101)); clear BK101 HB; have BK101 := n0_; have HB := n1_; have BK102 := n2_; have GW102 := n3_; have GE102 := n4_; have NB101_102 := n5_; have NB102_101 := n6_; clear n0_ n1_ n2_ n3_ n4_ n5_ n6_; clear hb hbox hg) | ((with_reducible refine gate_callee (f := 9) rfl ?_); refine goesL_ (some 16) rfl rfl Try.func9 (by kernel_rfl) rfl #[] rfl (by (try simp only [List.map_toArray, List.map_cons, List.map_nil]); first | done | rfl | (simp only [List.length_drop, List.length_take]; rfl)) ?_; (with_reducible refine (donjonlaw18_known.calls k  true _ A5.out).mono ?_); rintro e w13 ⟨rfl, hb⟩; refine ⟨_, rfl, ?_⟩; have n0_ := Aside0.mk (blk_below (g := gb101) (o := .cells #[.int .i64 a0_0, .int .i64 a0_1, .int .i64 a0_2, .int .i64 a0_3] 26 (0, 0)) (by (with_reducible repeat (first | refine blk_drewN ?_ _ | refine blk_drew ?_ | refine blk_alloc ?_ _)); exact BK101.out) hb); have n1_ := Aside0.mk (blk_below (g := gb102) (o := .cells #[.int .i64 a1_0, .int .i64 a1_1, .int .i64 a1_2, .int .i64 a1_3] 26 (0, 0)) (by (with_reducible repeat (first | refine blk_drewN ?_ _ | refine blk_drew ?_ | refine blk_alloc ?_ _)); exact BK102.out) hb); have n2_ := Aside0.mk (below_step (by repeat (first | (with_reducible first | exact HB.out | apply below_alloc | apply pw_below_drewN | apply below_drew1 | refine below_set ?_ GE101.out | refine below_set ?_ GE102.out) | exact HB.out)) hb); clear BK101 BK102 HB; have BK101 := n0_; have BK102 := n1_; have HB := n2_; clear n0_ n1_ n2_; (try clear hb); (try clear hb2); (try clear hk); (try clear hi)))
   have n0_ := Aside0.mk (blk_drew BK101.out)
   have n1_ := Aside0.mk (blk_drew BK102.out)
   have n2_ := Aside0.mk (below_drew1 HB.out)
   clear BK101 BK102 HB
   have BK101 := n0_; have BK102 := n1_; have HB := n2_
   clear n0_ n1_ n2_
   refine start_ (n := 6) (S := fun w' => w'.cell? ⟨gb101, 0, none⟩ = some (.int .i64 a0_0) ∧ w'.cell? ⟨gb101, 1, none⟩ = some (.int .i64 a0_1) ∧ w'.cell? ⟨gb101, 2, none⟩ = some (.int .i64 a0_2) ∧ w'.cell? ⟨gb101, 3, none⟩ = some (.int .i64 a0_3) ∧ w'.cell? ⟨gb102, 0, none⟩ = some (.int .i64 a1_0) ∧ w'.cell? ⟨gb102, 1, none⟩ = some (.int .i64 a1_1) ∧ w'.cell? ⟨gb102, 2, none⟩ = some (.int .i64 a1_2) ∧ w'.cell? ⟨gb102, 3, none⟩ = some (.int .i64 a1_3)) (ds := [4, 5]) #[false, false, false, false, false, false] (by kernel_rfl) rfl rfl ⟨(blk_cell BK101.out 0).trans rfl, (blk_cell BK101.out 1).trans rfl, (blk_cell BK101.out 2).trans rfl, (blk_cell BK101.out 3).trans rfl, (blk_cell BK102.out 0).trans rfl, (blk_cell BK102.out 1).trans rfl, (blk_cell BK102.out 2).trans rfl, (blk_cell BK102.out 3).trans rfl⟩ (fun hHeld => ?_)
   generalize w13.drew = w14 at BK101 BK102 HB hHeld ⊢
   refine take_ (i := 0) (N := some 18) (v := ?_) (a' := ?_) #[true, false, false, false, false, false] rfl rfl (by kernel_rfl) (fun _ _ _ h => h) (Or.inl ⟨by rfl, ?_⟩) hHeld ?_ ?_
   rotate_left
   ·rintro w' ⟨s0, s1, s2, s3, s4, s5, s6, s7⟩
    go_simp
    with_reducible rfl
   rotate_left
   ·simp only [Act.put, xset_a, xset_z, xset_s, i64_w, i32_w]
    rfl
   refine take_ (i := 2) (N := some 20) (v := ?_) (a' := ?_) #[true, false, true, false, false, false] rfl rfl (by kernel_rfl) (fun _ _ _ h => h) (Or.inl ⟨by rfl, ?_⟩) hHeld ?_ ?_
   rotate_left
   ·rintro w' ⟨s0, s1, s2, s3, s4, s5, s6, s7⟩
    go_simp
    with_reducible rfl
   rotate_left
   ·simp only [Act.put, xset_a, xset_z, xset_s, i64_w, i32_w]
    rfl
   refine one_ (i := 1) (N := some 19) #[true, true, true, false, false, false] rfl rfl (by kernel_rfl) (by decide) (fun K hK => ?_)
   refine goes_ Try.func25 (by kernel_rfl) rfl #[.agg #[.int .i64 a0_0, .int .i64 a0_1, .int .i64 a0_2, .int .i64 a0_3]] (by rfl) rfl rfl (by (try simp only [List.map_toArray, List.map_cons, List.map_nil]); first | done | rfl | (simp only [List.length_drop, List.length_take]; rfl)) ?_
   with_reducible refine (donjonlaw4_Good.calls a0_0 a0_1 a0_2 a0_3 t104 t105 t106 t107 _ A7.out).mono ?_
   rintro e w15 ⟨rfl, hb⟩
   refine ⟨_, rfl, ?_⟩
   have n0_ := Aside0.mk (blk_below (g := gb101) (o := .cells #[.int .i64 a0_0, .int .i64 a0_1, .int .i64 a0_2, .int .i64 a0_3] 26 (0, 0)) (by (with_reducible repeat (first | refine blk_drewN ?_ _ | refine blk_drew ?_ | refine blk_alloc ?_ _)); exact BK101.out) hb)
   have n1_ := Aside0.mk (blk_below (g := gb102) (o := .cells #[.int .i64 a1_0, .int .i64 a1_1, .int .i64 a1_2, .int .i64 a1_3] 26 (0, 0)) (by (with_reducible repeat (first | refine blk_drewN ?_ _ | refine blk_drew ?_ | refine blk_alloc ?_ _)); exact BK102.out) hb)
   have n2_ := Aside0.mk (below_step (by repeat (first | (with_reducible first | exact HB.out | apply below_alloc | apply pw_below_drewN | apply below_drew1 | refine below_set ?_ GE101.out | refine below_set ?_ GE102.out) | exact HB.out)) hb)
   clear BK101 BK102 HB
   have BK101 := n0_; have BK102 := n1_; have HB := n2_
   clear n0_ n1_ n2_
   (try clear hb)
   (try clear hb2)
   (try clear hk)
   (try clear hi)
   refine hK.out _ _ ⟨(blk_cell BK101.out 0).trans rfl, (blk_cell BK101.out 1).trans rfl, (blk_cell BK101.out 2).trans rfl, (blk_cell BK101.out 3).trans rfl, (blk_cell BK102.out 0).trans rfl, (blk_cell BK102.out 1).trans rfl, (blk_cell BK102.out 2).trans rfl, (blk_cell BK102.out 3).trans rfl⟩ (fun hHeld => ?_)
   clear hK K
   refine norm_ (a' := ?_) ?_ ?_
   rotate_left
   ·show Act.put _ (some 19) _ = _
    simp only [Act.put, xset_a, xset_z, xset_s, i64_w, i32_w]
    rfl
   refine one_ (i := 3) (N := some 21) #[true, true, true, true, false, false] rfl rfl (by kernel_rfl) (by decide) (fun K hK => ?_)
   refine goes_ Try.func25 (by kernel_rfl) rfl #[.agg #[.int .i64 a1_0, .int .i64 a1_1, .int .i64 a1_2, .int .i64 a1_3]] (by rfl) rfl rfl (by (try simp only [List.map_toArray, List.map_cons, List.map_nil]); first | done | rfl | (simp only [List.length_drop, List.length_take]; rfl)) ?_
   with_reducible refine (donjonlaw4_Good.calls a1_0 a1_1 a1_2 a1_3 t108 t109 t110 t111 _ A8.out).mono ?_
   rintro e w16 ⟨rfl, hb⟩
   refine ⟨_, rfl, ?_⟩
   have n0_ := Aside0.mk (blk_below (g := gb101) (o := .cells #[.int .i64 a0_0, .int .i64 a0_1, .int .i64 a0_2, .int .i64 a0_3] 26 (0, 0)) (by (with_reducible repeat (first | refine blk_drewN ?_ _ | refine blk_drew ?_ | refine blk_alloc ?_ _)); exact BK101.out) hb)
   have n1_ := Aside0.mk (blk_below (g := gb102) (o := .cells #[.int .i64 a1_0, .int .i64 a1_1, .int .i64 a1_2, .int .i64 a1_3] 26 (0, 0)) (by (with_reducible repeat (first | refine blk_drewN ?_ _ | refine blk_drew ?_ | refine blk_alloc ?_ _)); exact BK102.out) hb)
   have n2_ := Aside0.mk (below_step (by repeat (first | (with_reducible first | exact HB.out | apply below_alloc | apply pw_below_drewN | apply below_drew1 | refine below_set ?_ GE101.out | refine below_set ?_ GE102.out) | exact HB.out)) hb)
   clear BK101 BK102 HB
   have BK101 := n0_; have BK102 := n1_; have HB := n2_
   clear n0_ n1_ n2_
   (try clear hb)
   (try clear hb2)
   (try clear hk)
   (try clear hi)
   refine hK.out _ _ ⟨(blk_cell BK101.out 0).trans rfl, (blk_cell BK101.out 1).trans rfl, (blk_cell BK101.out 2).trans rfl, (blk_cell BK101.out 3).trans rfl, (blk_cell BK102.out 0).trans rfl, (blk_cell BK102.out 1).trans rfl, (blk_cell BK102.out 2).trans rfl, (blk_cell BK102.out 3).trans rfl⟩ (fun hHeld => ?_)
   clear hK K
   refine norm_ (a' := ?_) ?_ ?_
   rotate_left
   ·show Act.put _ (some 21) _ = _
    simp only [Act.put, xset_a, xset_z, xset_s, i64_w, i32_w]
    rfl
   refine last_ (i := 4) (N := none) #[true, true, true, true, true, false] rfl rfl (by kernel_rfl) (by decide) (fun K hK => ?_)
   have hs17 : w16.cell? ⟨gb101, 0, none⟩ = some (.int .i64 a0_0) := (blk_cell BK101.out 0).trans rfl
   have hfs17 := blk_frozen BK101.out 0
   have hns17_1 := NB102_101.out
   have hms17_1 := NB101_102.out
   have hs18 : w16.cell? ⟨gb101, 1, none⟩ = some (.int .i64 a0_1) := (blk_cell BK101.out 1).trans rfl
   have hfs18 := blk_frozen BK101.out 1
   have hns18_1 := NB102_101.out
   have hms18_1 := NB101_102.out
   have hs19 : w16.cell? ⟨gb101, 2, none⟩ = some (.int .i64 a0_2) := (blk_cell BK101.out 2).trans rfl
   have hfs19 := blk_frozen BK101.out 2
   have hns19_1 := NB102_101.out
   have hms19_1 := NB101_102.out
   have hs20 : w16.cell? ⟨gb101, 3, none⟩ = some (.int .i64 a0_3) := (blk_cell BK101.out 3).trans rfl
   have hfs20 := blk_frozen BK101.out 3
   have hns20_1 := NB102_101.out
   have hms20_1 := NB101_102.out
   with_reducible refine skip_ (w1 := ?_) ?_ rfl ?_ ?_
   rotate_left
   ·rfl
   ·go_simp
    rfl
   refine hK.out _ _ ?_
   clear hK K
   refine last_ (i := 5) (N := none) #[true, true, true, true, true, true] rfl rfl (by kernel_rfl) (by decide) (fun K hK => ?_)
   have hs21 : w16.cell? ⟨gb102, 0, none⟩ = some (.int .i64 a1_0) := (blk_cell BK102.out 0).trans rfl
   have hfs21 := blk_frozen BK102.out 0
   have hns21_0 := NB101_102.out
   have hms21_0 := NB102_101.out
   have hs22 : w16.cell? ⟨gb102, 1, none⟩ = some (.int .i64 a1_1) := (blk_cell BK102.out 1).trans rfl
   have hfs22 := blk_frozen BK102.out 1
   have hns22_0 := NB101_102.out
   have hms22_0 := NB102_101.out
   have hs23 : w16.cell? ⟨gb102, 2, none⟩ = some (.int .i64 a1_2) := (blk_cell BK102.out 2).trans rfl
   have hfs23 := blk_frozen BK102.out 2
   have hns23_0 := NB101_102.out
   have hms23_0 := NB102_101.out
   have hs24 : w16.cell? ⟨gb102, 3, none⟩ = some (.int .i64 a1_3) := (blk_cell BK102.out 3).trans rfl
   have hfs24 := blk_frozen BK102.out 3
   have hns24_0 := NB101_102.out
   have hms24_0 := NB102_101.out
   with_reducible refine skip_ (w1 := ?_) ?_ rfl ?_ ?_
   rotate_left
   ·rfl
   ·go_simp
    rfl
   refine hK.out _ _ ?_
   clear hK K
   refine done_ (by kernel_rfl) ?_
   have hnb25 := NB102_101.out
   have hnc25 := NB101_102.out
   have hcz26_0 : w16.cell? ⟨gb102, 0, none⟩ = some (.int .i64 a1_0) := (blk_cell BK102.out 0).trans rfl
   have hcz26_1 : w16.cell? ⟨gb102, 1, none⟩ = some (.int .i64 a1_1) := (blk_cell BK102.out 1).trans rfl
   have hcz26_2 : w16.cell? ⟨gb102, 2, none⟩ = some (.int .i64 a1_2) := (blk_cell BK102.out 2).trans rfl
   have hcz26_3 : w16.cell? ⟨gb102, 3, none⟩ = some (.int .i64 a1_3) := (blk_cell BK102.out 3).trans rfl
   have hfz26_0 := blk_frozen BK102.out 0
   have hfz26_1 := blk_frozen BK102.out 1
   have hfz26_2 := blk_frozen BK102.out 2
   have hfz26_3 := blk_frozen BK102.out 3
   have hcz27_0 : w16.cell? ⟨gb101, 0, none⟩ = some (.int .i64 a0_0) := (blk_cell BK101.out 0).trans rfl
   have hcz27_1 : w16.cell? ⟨gb101, 1, none⟩ = some (.int .i64 a0_1) := (blk_cell BK101.out 1).trans rfl
   have hcz27_2 : w16.cell? ⟨gb101, 2, none⟩ = some (.int .i64 a0_2) := (blk_cell BK101.out 2).trans rfl
   have hcz27_3 : w16.cell? ⟨gb101, 3, none⟩ = some (.int .i64 a0_3) := (blk_cell BK101.out 3).trans rfl
   have hfz27_0 := blk_frozen BK101.out 0
   have hfz27_1 := blk_frozen BK101.out 1
   have hfz27_2 := blk_frozen BK101.out 2
   have hfz27_3 := blk_frozen BK101.out 3
   try go_wp2_with (first | ((with_reducible refine gate_callee (f := 23) rfl ?_); refine goesL_ (some 24) rfl rfl Try.func23 (by kernel_rfl) rfl #[.agg #[.int .i64 t108, .int .i64 t109, .int .i64 t110, .int .i64 t111], .agg #[.int .i64 t104, .int .i64 t105, .int .i64 t106, .int .i64 t107]] rfl (by (try simp only [List.map_toArray, List.map_cons, List.map_nil]); first | done | rfl | (simp only [List.length_drop, List.length_take]; rfl)) ?_; (with_reducible refine (donjonref4_Over.calls t108 t109 t110 t111 t104 t105 t106 t107 true _ A9.out).mono ?_); rintro e w28 ⟨rfl, hb⟩; refine ⟨_, rfl, ?_⟩; have n0_ := Aside0.mk (blk_below (g := gb101) (o := .cells #[.int .i64 t104, .int .i64 t105, .int .i64 t106, .int .i64 t107] 26 (0, 0)) (by (iterate 4 ((with_reducible repeat (first | refine blk_drewN ?_ _ | refine blk_drew ?_ | refine blk_alloc ?_ _)); refine blk_far ?_ NB101_102.out _)); (with_reducible repeat (first | refine blk_drewN ?_ _ | refine blk_drew ?_ | refine blk_alloc ?_ _)); refine blk_put (cs := #[.int .i64 t104, .int .i64 t105, .int .i64 t106, .int .i64 a0_3]) ?_ 3 _ rfl; (with_reducible repeat (first | refine blk_drewN ?_ _ | refine blk_drew ?_ | refine blk_alloc ?_ _)); refine blk_put (cs := #[.int .i64 t104, .int .i64 t105, .int .i64 a0_2, .int .i64 a0_3]) ?_ 2 _ rfl; (with_reducible repeat (first | refine blk_drewN ?_ _ | refine blk_drew ?_ | refine blk_alloc ?_ _)); refine blk_put (cs := #[.int .i64 t104, .int .i64 a0_1, .int .i64 a0_2, .int .i64 a0_3]) ?_ 1 _ rfl; (with_reducible repeat (first | refine blk_drewN ?_ _ | refine blk_drew ?_ | refine blk_alloc ?_ _)); refine blk_put (cs := #[.int .i64 a0_0, .int .i64 a0_1, .int .i64 a0_2, .int .i64 a0_3]) ?_ 0 _ rfl; (with_reducible repeat (first | refine blk_drewN ?_ _ | refine blk_drew ?_ | refine blk_alloc ?_ _)); exact BK101.out) hb); have n1_ := Aside0.mk (blk_below (g := gb102) (o := .cells #[.int .i64 t108, .int .i64 t109, .int .i64 t110, .int .i64 t111] 26 (0, 0)) (by (with_reducible repeat (first | refine blk_drewN ?_ _ | refine blk_drew ?_ | refine blk_alloc ?_ _)); refine blk_put (cs := #[.int .i64 t108, .int .i64 t109, .int .i64 t110, .int .i64 a1_3]) ?_ 3 _ rfl; (with_reducible repeat (first | refine blk_drewN ?_ _ | refine blk_drew ?_ | refine blk_alloc ?_ _)); refine blk_put (cs := #[.int .i64 t108, .int .i64 t109, .int .i64 a1_2, .int .i64 a1_3]) ?_ 2 _ rfl; (with_reducible repeat (first | refine blk_drewN ?_ _ | refine blk_drew ?_ | refine blk_alloc ?_ _)); refine blk_put (cs := #[.int .i64 t108, .int .i64 a1_1, .int .i64 a1_2, .int .i64 a1_3]) ?_ 1 _ rfl; (with_reducible repeat (first | refine blk_drewN ?_ _ | refine blk_drew ?_ | refine blk_alloc ?_ _)); refine blk_put (cs := #[.int .i64 a1_0, .int .i64 a1_1, .int .i64 a1_2, .int .i64 a1_3]) ?_ 0 _ rfl; (iterate 4 ((with_reducible repeat (first | refine blk_drewN ?_ _ | refine blk_drew ?_ | refine blk_alloc ?_ _)); refine blk_far ?_ NB102_101.out _)); (with_reducible repeat (first | refine blk_drewN ?_ _ | refine blk_drew ?_ | refine blk_alloc ?_ _)); exact BK102.out) hb); have n2_ := Aside0.mk (below_step (by repeat (first | (with_reducible first | exact HB.out | apply below_alloc | apply pw_below_drewN | apply below_drew1 | refine below_set ?_ GE101.out | refine below_set ?_ GE102.out) | exact HB.out)) hb); clear BK101 BK102 HB; have BK101 := n0_; have BK102 := n1_; have HB := n2_; clear n0_ n1_ n2_; (try clear hb); (try clear hb2); (try clear hk); (try clear hi)))
   go_ret
   exact ⟨by first | rfl | (simp [errW_none, errW_some] <;> rfl) | (simp [*, errW_none, errW_some] <;> rfl), by repeat (first | (with_reducible first | exact HB.out | apply below_alloc | apply pw_below_drewN | apply below_drew1 | refine below_set ?_ GE101.out | refine below_set ?_ GE102.out) | exact HB.out)⟩
  ·replace c10 := Bool.eq_false_iff.mpr c10
   subst c10
   have H1 : ((some (([(⟨(⟨t108, t109, t110, t111⟩ : S26), (⟨t104, t105, t106, t107⟩ : S26), (⟨#[111, 116, 104, 101, 114]⟩ : ByteArray)⟩ : S44), (⟨(⟨t104, t105, t106, t107⟩ : S26), (⟨t108, t109, t110, t111⟩ : S26), (⟨#[111, 110, 101]⟩ : ByteArray)⟩ : S44), (⟨(⟨t104, t105, t106, t107⟩ : S26), (⟨t108, t109, t110, t111⟩ : S26), (⟨#[116, 119, 111]⟩ : ByteArray)⟩ : S44)] : List (S44)) : List (S44))).bind fun y113 => (if a2 = true then (if 2 < (y113.length : Int) then (if 1 < (y113.length : Int) then (donjonlaw18_MailFirst.j0 k a3 ((y113.set (1 : Int).toNat (⟨(⟨(rd_T44 y113 2).f0.f0, (rd_T44 y113 2).f0.f1, (rd_T44 y113 2).f0.f2, (rd_T44 y113 2).f0.f3⟩ : S26), (⟨(rd_T44 y113 2).f1.f0, (rd_T44 y113 2).f1.f1, (rd_T44 y113 2).f1.f2, (rd_T44 y113 2).f1.f3⟩ : S26), (rd_T44 y113 2).f2⟩ : S44)).set (2 : Int).toNat (⟨(⟨(rd_T44 y113 1).f0.f0, (rd_T44 y113 1).f0.f1, (rd_T44 y113 1).f0.f2, (rd_T44 y113 1).f0.f3⟩ : S26), (⟨(rd_T44 y113 1).f1.f0, (rd_T44 y113 1).f1.f1, (rd_T44 y113 1).f1.f2, (rd_T44 y113 1).f1.f3⟩ : S26), (rd_T44 y113 1).f2⟩ : S44)) t104 t105 t106 t107 t108 t109 t110 t111) else (none)) else (none)) else (donjonlaw18_MailFirst.j0 k a3 y113 t104 t105 t106 t107 t108 t109 t110 t111))) = some r := by rw [if_neg (show ¬ (false = true) by decide)] at H; exact H
   clear H
   have H := H1
   clear H1
   obtain ⟨y113, hy113⟩ : ∃ y_ : List (S44), y_ = (([(⟨(⟨t108, t109, t110, t111⟩ : S26), (⟨t104, t105, t106, t107⟩ : S26), (⟨#[111, 116, 104, 101, 114]⟩ : ByteArray)⟩ : S44), (⟨(⟨t104, t105, t106, t107⟩ : S26), (⟨t108, t109, t110, t111⟩ : S26), (⟨#[111, 110, 101]⟩ : ByteArray)⟩ : S44), (⟨(⟨t104, t105, t106, t107⟩ : S26), (⟨t108, t109, t110, t111⟩ : S26), (⟨#[116, 119, 111]⟩ : ByteArray)⟩ : S44)] : List (S44))) := ⟨_, rfl⟩
   replace H : (if a2 = true then (if 2 < (y113.length : Int) then (if 1 < (y113.length : Int) then (donjonlaw18_MailFirst.j0 k a3 ((y113.set (1 : Int).toNat (⟨(⟨(rd_T44 y113 2).f0.f0, (rd_T44 y113 2).f0.f1, (rd_T44 y113 2).f0.f2, (rd_T44 y113 2).f0.f3⟩ : S26), (⟨(rd_T44 y113 2).f1.f0, (rd_T44 y113 2).f1.f1, (rd_T44 y113 2).f1.f2, (rd_T44 y113 2).f1.f3⟩ : S26), (rd_T44 y113 2).f2⟩ : S44)).set (2 : Int).toNat (⟨(⟨(rd_T44 y113 1).f0.f0, (rd_T44 y113 1).f0.f1, (rd_T44 y113 1).f0.f2, (rd_T44 y113 1).f0.f3⟩ : S26), (⟨(rd_T44 y113 1).f1.f0, (rd_T44 y113 1).f1.f1, (rd_T44 y113 1).f1.f2, (rd_T44 y113 1).f1.f3⟩ : S26), (rd_T44 y113 1).f2⟩ : S44)) t104 t105 t106 t107 t108 t109 t110 t111) else (none)) else (none)) else (donjonlaw18_MailFirst.j0 k a3 y113 t104 t105 t106 t107 t108 t109 t110 t111)) = some r := by first | (rw [hy113]; with_reducible exact H) | (have H2_ := (Option.bind_some _ _).symm.trans H; rw [hy113]; with_reducible exact H2_) | (have H2_ := (Option.bind_some _ _).symm.trans H; with_reducible exact H2_) | with_reducible exact H | (rw [hy113]; exact H) | exact H
   have Ny113 := Aside0.mk hy113
   clear hy113
   have HC29 := Aside0.mk H
   clear H
   go_enter Try.func8, Try.ntmps8
   try go_wp2_with (first | ((with_reducible refine gate_dst (N := 4) rfl ?_); refine box_event ?hg (N := 4) ?hd (cs := #[.int .i64 a0_0, .int .i64 a0_1, .int .i64 a0_2, .int .i64 a0_3]) (t := 26) ?hr ?_; (case hd => rfl); (case hg => rfl); (case hr => first | (go_simp; done) | (go_simp; rfl)); intro gb101 hg w30 hbox hb; have n0_ := Aside0.mk (below_step (by repeat (first | (with_reducible first | exact HB.out | apply below_alloc | apply pw_below_drewN | apply below_drew1) | exact HB.out)) hb); have n1_ := Aside0.mk (hbox); have n2_ := Aside0.mk ((by rw [hg]; exact (below_size (by repeat (first | (with_reducible first | exact HB.out | apply below_alloc | apply pw_below_drewN | apply below_drew1) | exact HB.out))) : w.heap.size ≤ gb101)); have n3_ := Aside0.mk ((by rw [hg]; exact (below_size (by repeat (first | (with_reducible first | exact HB.out | apply below_alloc | apply pw_below_drewN | apply below_drew1) | exact HB.out))) : w.heap.size ≤ gb101)); clear HB; have HB := n0_; have BK101 := n1_; have GW101 := n2_; have GE101 := n3_; clear n0_ n1_ n2_ n3_; clear hb hbox hg) | ((with_reducible refine gate_dst (N := 5) rfl ?_); refine box_event ?hg (N := 5) ?hd (cs := #[.int .i64 a1_0, .int .i64 a1_1, .int .i64 a1_2, .int .i64 a1_3]) (t := 26) ?hr ?_; (case hd => rfl); (case hg => rfl); (case hr => first | (go_simp; done) | (go_simp; rfl)); intro gb102 hg w31 hbox hb; have n0_ := Aside0.mk (blk_below (g := gb101) (o := .cells #[.int .i64 a0_0, .int .i64 a0_1, .int .i64 a0_2, .int .i64 a0_3] 26 (0, 0)) (by (with_reducible repeat (first | refine blk_drewN ?_ _ | refine blk_drew ?_ | refine blk_alloc ?_ _)); exact BK101.out) hb); have n1_ := Aside0.mk (below_step (by repeat (first | (with_reducible first | exact HB.out | apply below_alloc | apply pw_below_drewN | apply below_drew1 | refine below_set ?_ GE101.out) | exact HB.out)) hb); have n2_ := Aside0.mk (hbox); have n3_ := Aside0.mk ((by rw [hg]; exact (below_size (by repeat (first | (with_reducible first | exact HB.out | apply below_alloc | apply pw_below_drewN | apply below_drew1 | refine below_set ?_ GE101.out) | exact HB.out))) : w.heap.size ≤ gb102)); have n4_ := Aside0.mk ((by rw [hg]; exact (below_size (by repeat (first | (with_reducible first | exact HB.out | apply below_alloc | apply pw_below_drewN | apply below_drew1 | refine below_set ?_ GE101.out) | exact HB.out))) : w.heap.size ≤ gb102)); have n5_ := Aside0.mk ((by rw [hg]; exact Nat.ne_of_lt (blk_lt (g := gb101) (o := .cells #[.int .i64 a0_0, .int .i64 a0_1, .int .i64 a0_2, .int .i64 a0_3] 26 (0, 0)) (by (with_reducible repeat (first | refine blk_drewN ?_ _ | refine blk_drew ?_ | refine blk_alloc ?_ _)); exact BK101.out)) : gb101 ≠ gb102)); have n6_ := Aside0.mk ((by rw [hg]; exact Nat.ne_of_gt (blk_lt (g := gb101) (o := .cells #[.int .i64 a0_0, .int .i64 a0_1, .int .i64 a0_2, .int .i64 a0_3] 26 (0, 0)) (by (with_reducible repeat (first | refine blk_drewN ?_ _ | refine blk_drew ?_ | refine blk_alloc ?_ _)); exact BK101.out)) : gb102 ≠ gb101)); clear BK101 HB; have BK101 := n0_; have HB := n1_; have BK102 := n2_; have GW102 := n3_; have GE102 := n4_; have NB101_102 := n5_; have NB102_101 := n6_; clear n0_ n1_ n2_ n3_ n4_ n5_ n6_; clear hb hbox hg) | ((with_reducible refine gate_callee (f := 9) rfl ?_); refine goesL_ (some 16) rfl rfl Try.func9 (by kernel_rfl) rfl #[] rfl (by (try simp only [List.map_toArray, List.map_cons, List.map_nil]); first | done | rfl | (simp only [List.length_drop, List.length_take]; rfl)) ?_; (with_reducible refine (donjonlaw18_known.calls k  true _ A5.out).mono ?_); rintro e w32 ⟨rfl, hb⟩; refine ⟨_, rfl, ?_⟩; have n0_ := Aside0.mk (blk_below (g := gb101) (o := .cells #[.int .i64 a0_0, .int .i64 a0_1, .int .i64 a0_2, .int .i64 a0_3] 26 (0, 0)) (by (with_reducible repeat (first | refine blk_drewN ?_ _ | refine blk_drew ?_ | refine blk_alloc ?_ _)); exact BK101.out) hb); have n1_ := Aside0.mk (blk_below (g := gb102) (o := .cells #[.int .i64 a1_0, .int .i64 a1_1, .int .i64 a1_2, .int .i64 a1_3] 26 (0, 0)) (by (with_reducible repeat (first | refine blk_drewN ?_ _ | refine blk_drew ?_ | refine blk_alloc ?_ _)); exact BK102.out) hb); have n2_ := Aside0.mk (below_step (by repeat (first | (with_reducible first | exact HB.out | apply below_alloc | apply pw_below_drewN | apply below_drew1 | refine below_set ?_ GE101.out | refine below_set ?_ GE102.out) | exact HB.out)) hb); clear BK101 BK102 HB; have BK101 := n0_; have BK102 := n1_; have HB := n2_; clear n0_ n1_ n2_; (try clear hb); (try clear hb2); (try clear hk); (try clear hi)))
   have n0_ := Aside0.mk (blk_drew BK101.out)
   have n1_ := Aside0.mk (blk_drew BK102.out)
   have n2_ := Aside0.mk (below_drew1 HB.out)
   clear BK101 BK102 HB
   have BK101 := n0_; have BK102 := n1_; have HB := n2_
   clear n0_ n1_ n2_
   refine start_ (n := 6) (S := fun w' => w'.cell? ⟨gb101, 0, none⟩ = some (.int .i64 a0_0) ∧ w'.cell? ⟨gb101, 1, none⟩ = some (.int .i64 a0_1) ∧ w'.cell? ⟨gb101, 2, none⟩ = some (.int .i64 a0_2) ∧ w'.cell? ⟨gb101, 3, none⟩ = some (.int .i64 a0_3) ∧ w'.cell? ⟨gb102, 0, none⟩ = some (.int .i64 a1_0) ∧ w'.cell? ⟨gb102, 1, none⟩ = some (.int .i64 a1_1) ∧ w'.cell? ⟨gb102, 2, none⟩ = some (.int .i64 a1_2) ∧ w'.cell? ⟨gb102, 3, none⟩ = some (.int .i64 a1_3)) (ds := [4, 5]) #[false, false, false, false, false, false] (by kernel_rfl) rfl rfl ⟨(blk_cell BK101.out 0).trans rfl, (blk_cell BK101.out 1).trans rfl, (blk_cell BK101.out 2).trans rfl, (blk_cell BK101.out 3).trans rfl, (blk_cell BK102.out 0).trans rfl, (blk_cell BK102.out 1).trans rfl, (blk_cell BK102.out 2).trans rfl, (blk_cell BK102.out 3).trans rfl⟩ (fun hHeld => ?_)
   generalize w32.drew = w33 at BK101 BK102 HB hHeld ⊢
   refine take_ (i := 0) (N := some 18) (v := ?_) (a' := ?_) #[true, false, false, false, false, false] rfl rfl (by kernel_rfl) (fun _ _ _ h => h) (Or.inl ⟨by rfl, ?_⟩) hHeld ?_ ?_
   rotate_left
   ·rintro w' ⟨s0, s1, s2, s3, s4, s5, s6, s7⟩
    go_simp
    with_reducible rfl
   rotate_left
   ·simp only [Act.put, xset_a, xset_z, xset_s, i64_w, i32_w]
    rfl
   refine take_ (i := 2) (N := some 20) (v := ?_) (a' := ?_) #[true, false, true, false, false, false] rfl rfl (by kernel_rfl) (fun _ _ _ h => h) (Or.inl ⟨by rfl, ?_⟩) hHeld ?_ ?_
   rotate_left
   ·rintro w' ⟨s0, s1, s2, s3, s4, s5, s6, s7⟩
    go_simp
    with_reducible rfl
   rotate_left
   ·simp only [Act.put, xset_a, xset_z, xset_s, i64_w, i32_w]
    rfl
   refine one_ (i := 1) (N := some 19) #[true, true, true, false, false, false] rfl rfl (by kernel_rfl) (by decide) (fun K hK => ?_)
   refine goes_ Try.func25 (by kernel_rfl) rfl #[.agg #[.int .i64 a0_0, .int .i64 a0_1, .int .i64 a0_2, .int .i64 a0_3]] (by rfl) rfl rfl (by (try simp only [List.map_toArray, List.map_cons, List.map_nil]); first | done | rfl | (simp only [List.length_drop, List.length_take]; rfl)) ?_
   with_reducible refine (donjonlaw4_Good.calls a0_0 a0_1 a0_2 a0_3 t104 t105 t106 t107 _ A7.out).mono ?_
   rintro e w34 ⟨rfl, hb⟩
   refine ⟨_, rfl, ?_⟩
   have n0_ := Aside0.mk (blk_below (g := gb101) (o := .cells #[.int .i64 a0_0, .int .i64 a0_1, .int .i64 a0_2, .int .i64 a0_3] 26 (0, 0)) (by (with_reducible repeat (first | refine blk_drewN ?_ _ | refine blk_drew ?_ | refine blk_alloc ?_ _)); exact BK101.out) hb)
   have n1_ := Aside0.mk (blk_below (g := gb102) (o := .cells #[.int .i64 a1_0, .int .i64 a1_1, .int .i64 a1_2, .int .i64 a1_3] 26 (0, 0)) (by (with_reducible repeat (first | refine blk_drewN ?_ _ | refine blk_drew ?_ | refine blk_alloc ?_ _)); exact BK102.out) hb)
   have n2_ := Aside0.mk (below_step (by repeat (first | (with_reducible first | exact HB.out | apply below_alloc | apply pw_below_drewN | apply below_drew1 | refine below_set ?_ GE101.out | refine below_set ?_ GE102.out) | exact HB.out)) hb)
   clear BK101 BK102 HB
   have BK101 := n0_; have BK102 := n1_; have HB := n2_
   clear n0_ n1_ n2_
   (try clear hb)
   (try clear hb2)
   (try clear hk)
   (try clear hi)
   refine hK.out _ _ ⟨(blk_cell BK101.out 0).trans rfl, (blk_cell BK101.out 1).trans rfl, (blk_cell BK101.out 2).trans rfl, (blk_cell BK101.out 3).trans rfl, (blk_cell BK102.out 0).trans rfl, (blk_cell BK102.out 1).trans rfl, (blk_cell BK102.out 2).trans rfl, (blk_cell BK102.out 3).trans rfl⟩ (fun hHeld => ?_)
   clear hK K
   refine norm_ (a' := ?_) ?_ ?_
   rotate_left
   ·show Act.put _ (some 19) _ = _
    simp only [Act.put, xset_a, xset_z, xset_s, i64_w, i32_w]
    rfl
   refine one_ (i := 3) (N := some 21) #[true, true, true, true, false, false] rfl rfl (by kernel_rfl) (by decide) (fun K hK => ?_)
   refine goes_ Try.func25 (by kernel_rfl) rfl #[.agg #[.int .i64 a1_0, .int .i64 a1_1, .int .i64 a1_2, .int .i64 a1_3]] (by rfl) rfl rfl (by (try simp only [List.map_toArray, List.map_cons, List.map_nil]); first | done | rfl | (simp only [List.length_drop, List.length_take]; rfl)) ?_
   with_reducible refine (donjonlaw4_Good.calls a1_0 a1_1 a1_2 a1_3 t108 t109 t110 t111 _ A8.out).mono ?_
   rintro e w35 ⟨rfl, hb⟩
   refine ⟨_, rfl, ?_⟩
   have n0_ := Aside0.mk (blk_below (g := gb101) (o := .cells #[.int .i64 a0_0, .int .i64 a0_1, .int .i64 a0_2, .int .i64 a0_3] 26 (0, 0)) (by (with_reducible repeat (first | refine blk_drewN ?_ _ | refine blk_drew ?_ | refine blk_alloc ?_ _)); exact BK101.out) hb)
   have n1_ := Aside0.mk (blk_below (g := gb102) (o := .cells #[.int .i64 a1_0, .int .i64 a1_1, .int .i64 a1_2, .int .i64 a1_3] 26 (0, 0)) (by (with_reducible repeat (first | refine blk_drewN ?_ _ | refine blk_drew ?_ | refine blk_alloc ?_ _)); exact BK102.out) hb)
   have n2_ := Aside0.mk (below_step (by repeat (first | (with_reducible first | exact HB.out | apply below_alloc | apply pw_below_drewN | apply below_drew1 | refine below_set ?_ GE101.out | refine below_set ?_ GE102.out) | exact HB.out)) hb)
   clear BK101 BK102 HB
   have BK101 := n0_; have BK102 := n1_; have HB := n2_
   clear n0_ n1_ n2_
   (try clear hb)
   (try clear hb2)
   (try clear hk)
   (try clear hi)
   refine hK.out _ _ ⟨(blk_cell BK101.out 0).trans rfl, (blk_cell BK101.out 1).trans rfl, (blk_cell BK101.out 2).trans rfl, (blk_cell BK101.out 3).trans rfl, (blk_cell BK102.out 0).trans rfl, (blk_cell BK102.out 1).trans rfl, (blk_cell BK102.out 2).trans rfl, (blk_cell BK102.out 3).trans rfl⟩ (fun hHeld => ?_)
   clear hK K
   refine norm_ (a' := ?_) ?_ ?_
   rotate_left
   ·show Act.put _ (some 21) _ = _
    simp only [Act.put, xset_a, xset_z, xset_s, i64_w, i32_w]
    rfl
   refine last_ (i := 4) (N := none) #[true, true, true, true, true, false] rfl rfl (by kernel_rfl) (by decide) (fun K hK => ?_)
   have hs36 : w35.cell? ⟨gb101, 0, none⟩ = some (.int .i64 a0_0) := (blk_cell BK101.out 0).trans rfl
   have hfs36 := blk_frozen BK101.out 0
   have hns36_1 := NB102_101.out
   have hms36_1 := NB101_102.out
   have hs37 : w35.cell? ⟨gb101, 1, none⟩ = some (.int .i64 a0_1) := (blk_cell BK101.out 1).trans rfl
   have hfs37 := blk_frozen BK101.out 1
   have hns37_1 := NB102_101.out
   have hms37_1 := NB101_102.out
   have hs38 : w35.cell? ⟨gb101, 2, none⟩ = some (.int .i64 a0_2) := (blk_cell BK101.out 2).trans rfl
   have hfs38 := blk_frozen BK101.out 2
   have hns38_1 := NB102_101.out
   have hms38_1 := NB101_102.out
   have hs39 : w35.cell? ⟨gb101, 3, none⟩ = some (.int .i64 a0_3) := (blk_cell BK101.out 3).trans rfl
   have hfs39 := blk_frozen BK101.out 3
   have hns39_1 := NB102_101.out
   have hms39_1 := NB101_102.out
   with_reducible refine skip_ (w1 := ?_) ?_ rfl ?_ ?_
   rotate_left
   ·rfl
   ·go_simp
    rfl
   refine hK.out _ _ ?_
   clear hK K
   refine last_ (i := 5) (N := none) #[true, true, true, true, true, true] rfl rfl (by kernel_rfl) (by decide) (fun K hK => ?_)
   have hs40 : w35.cell? ⟨gb102, 0, none⟩ = some (.int .i64 a1_0) := (blk_cell BK102.out 0).trans rfl
   have hfs40 := blk_frozen BK102.out 0
   have hns40_0 := NB101_102.out
   have hms40_0 := NB102_101.out
   have hs41 : w35.cell? ⟨gb102, 1, none⟩ = some (.int .i64 a1_1) := (blk_cell BK102.out 1).trans rfl
   have hfs41 := blk_frozen BK102.out 1
   have hns41_0 := NB101_102.out
   have hms41_0 := NB102_101.out
   have hs42 : w35.cell? ⟨gb102, 2, none⟩ = some (.int .i64 a1_2) := (blk_cell BK102.out 2).trans rfl
   have hfs42 := blk_frozen BK102.out 2
   have hns42_0 := NB101_102.out
   have hms42_0 := NB102_101.out
   have hs43 : w35.cell? ⟨gb102, 3, none⟩ = some (.int .i64 a1_3) := (blk_cell BK102.out 3).trans rfl
   have hfs43 := blk_frozen BK102.out 3
   have hns43_0 := NB101_102.out
   have hms43_0 := NB102_101.out
   with_reducible refine skip_ (w1 := ?_) ?_ rfl ?_ ?_
   rotate_left
   ·rfl
   ·go_simp
    rfl
   refine hK.out _ _ ?_
   clear hK K
   refine done_ (by kernel_rfl) ?_
   have hnb44 := NB102_101.out
   have hnc44 := NB101_102.out
   have hcz45_0 : w35.cell? ⟨gb102, 0, none⟩ = some (.int .i64 a1_0) := (blk_cell BK102.out 0).trans rfl
   have hcz45_1 : w35.cell? ⟨gb102, 1, none⟩ = some (.int .i64 a1_1) := (blk_cell BK102.out 1).trans rfl
   have hcz45_2 : w35.cell? ⟨gb102, 2, none⟩ = some (.int .i64 a1_2) := (blk_cell BK102.out 2).trans rfl
   have hcz45_3 : w35.cell? ⟨gb102, 3, none⟩ = some (.int .i64 a1_3) := (blk_cell BK102.out 3).trans rfl
   have hfz45_0 := blk_frozen BK102.out 0
   have hfz45_1 := blk_frozen BK102.out 1
   have hfz45_2 := blk_frozen BK102.out 2
   have hfz45_3 := blk_frozen BK102.out 3
   have hcz46_0 : w35.cell? ⟨gb101, 0, none⟩ = some (.int .i64 a0_0) := (blk_cell BK101.out 0).trans rfl
   have hcz46_1 : w35.cell? ⟨gb101, 1, none⟩ = some (.int .i64 a0_1) := (blk_cell BK101.out 1).trans rfl
   have hcz46_2 : w35.cell? ⟨gb101, 2, none⟩ = some (.int .i64 a0_2) := (blk_cell BK101.out 2).trans rfl
   have hcz46_3 : w35.cell? ⟨gb101, 3, none⟩ = some (.int .i64 a0_3) := (blk_cell BK101.out 3).trans rfl
   have hfz46_0 := blk_frozen BK101.out 0
   have hfz46_1 := blk_frozen BK101.out 1
   have hfz46_2 := blk_frozen BK101.out 2
   have hfz46_3 := blk_frozen BK101.out 3
   go_upto_if 35 with (first | ((with_reducible refine gate_callee (f := 23) rfl ?_); refine goesL_ (some 24) rfl rfl Try.func23 (by kernel_rfl) rfl #[.agg #[.int .i64 t108, .int .i64 t109, .int .i64 t110, .int .i64 t111], .agg #[.int .i64 t104, .int .i64 t105, .int .i64 t106, .int .i64 t107]] rfl (by (try simp only [List.map_toArray, List.map_cons, List.map_nil]); first | done | rfl | (simp only [List.length_drop, List.length_take]; rfl)) ?_; (with_reducible refine (donjonref4_Over.calls t108 t109 t110 t111 t104 t105 t106 t107 false _ A9.out).mono ?_); rintro e w47 ⟨rfl, hb⟩; refine ⟨_, rfl, ?_⟩; have n0_ := Aside0.mk (blk_below (g := gb101) (o := .cells #[.int .i64 t104, .int .i64 t105, .int .i64 t106, .int .i64 t107] 26 (0, 0)) (by (iterate 4 ((with_reducible repeat (first | refine blk_drewN ?_ _ | refine blk_drew ?_ | refine blk_alloc ?_ _)); refine blk_far ?_ NB101_102.out _)); (with_reducible repeat (first | refine blk_drewN ?_ _ | refine blk_drew ?_ | refine blk_alloc ?_ _)); refine blk_put (cs := #[.int .i64 t104, .int .i64 t105, .int .i64 t106, .int .i64 a0_3]) ?_ 3 _ rfl; (with_reducible repeat (first | refine blk_drewN ?_ _ | refine blk_drew ?_ | refine blk_alloc ?_ _)); refine blk_put (cs := #[.int .i64 t104, .int .i64 t105, .int .i64 a0_2, .int .i64 a0_3]) ?_ 2 _ rfl; (with_reducible repeat (first | refine blk_drewN ?_ _ | refine blk_drew ?_ | refine blk_alloc ?_ _)); refine blk_put (cs := #[.int .i64 t104, .int .i64 a0_1, .int .i64 a0_2, .int .i64 a0_3]) ?_ 1 _ rfl; (with_reducible repeat (first | refine blk_drewN ?_ _ | refine blk_drew ?_ | refine blk_alloc ?_ _)); refine blk_put (cs := #[.int .i64 a0_0, .int .i64 a0_1, .int .i64 a0_2, .int .i64 a0_3]) ?_ 0 _ rfl; (with_reducible repeat (first | refine blk_drewN ?_ _ | refine blk_drew ?_ | refine blk_alloc ?_ _)); exact BK101.out) hb); have n1_ := Aside0.mk (blk_below (g := gb102) (o := .cells #[.int .i64 t108, .int .i64 t109, .int .i64 t110, .int .i64 t111] 26 (0, 0)) (by (with_reducible repeat (first | refine blk_drewN ?_ _ | refine blk_drew ?_ | refine blk_alloc ?_ _)); refine blk_put (cs := #[.int .i64 t108, .int .i64 t109, .int .i64 t110, .int .i64 a1_3]) ?_ 3 _ rfl; (with_reducible repeat (first | refine blk_drewN ?_ _ | refine blk_drew ?_ | refine blk_alloc ?_ _)); refine blk_put (cs := #[.int .i64 t108, .int .i64 t109, .int .i64 a1_2, .int .i64 a1_3]) ?_ 2 _ rfl; (with_reducible repeat (first | refine blk_drewN ?_ _ | refine blk_drew ?_ | refine blk_alloc ?_ _)); refine blk_put (cs := #[.int .i64 t108, .int .i64 a1_1, .int .i64 a1_2, .int .i64 a1_3]) ?_ 1 _ rfl; (with_reducible repeat (first | refine blk_drewN ?_ _ | refine blk_drew ?_ | refine blk_alloc ?_ _)); refine blk_put (cs := #[.int .i64 a1_0, .int .i64 a1_1, .int .i64 a1_2, .int .i64 a1_3]) ?_ 0 _ rfl; (iterate 4 ((with_reducible repeat (first | refine blk_drewN ?_ _ | refine blk_drew ?_ | refine blk_alloc ?_ _)); refine blk_far ?_ NB102_101.out _)); (with_reducible repeat (first | refine blk_drewN ?_ _ | refine blk_drew ?_ | refine blk_alloc ?_ _)); exact BK102.out) hb); have n2_ := Aside0.mk (below_step (by repeat (first | (with_reducible first | exact HB.out | apply below_alloc | apply pw_below_drewN | apply below_drew1 | refine below_set ?_ GE101.out | refine below_set ?_ GE102.out) | exact HB.out)) hb); clear BK101 BK102 HB; have BK101 := n0_; have BK102 := n1_; have HB := n2_; clear n0_ n1_ n2_; (try clear hb); (try clear hb2); (try clear hk); (try clear hi); have hcz48_0 : w47.cell? ⟨gb102, 0, none⟩ = some (.int .i64 t108) := (blk_cell BK102.out 0).trans rfl; have hcz48_1 : w47.cell? ⟨gb102, 1, none⟩ = some (.int .i64 t109) := (blk_cell BK102.out 1).trans rfl; have hcz48_2 : w47.cell? ⟨gb102, 2, none⟩ = some (.int .i64 t110) := (blk_cell BK102.out 2).trans rfl; have hcz48_3 : w47.cell? ⟨gb102, 3, none⟩ = some (.int .i64 t111) := (blk_cell BK102.out 3).trans rfl; have hfz48_0 := blk_frozen BK102.out 0; have hfz48_1 := blk_frozen BK102.out 1; have hfz48_2 := blk_frozen BK102.out 2; have hfz48_3 := blk_frozen BK102.out 3; have hcz49_0 : w47.cell? ⟨gb101, 0, none⟩ = some (.int .i64 t104) := (blk_cell BK101.out 0).trans rfl; have hcz49_1 : w47.cell? ⟨gb101, 1, none⟩ = some (.int .i64 t105) := (blk_cell BK101.out 1).trans rfl; have hcz49_2 : w47.cell? ⟨gb101, 2, none⟩ = some (.int .i64 t106) := (blk_cell BK101.out 2).trans rfl; have hcz49_3 : w47.cell? ⟨gb101, 3, none⟩ = some (.int .i64 t107) := (blk_cell BK101.out 3).trans rfl; have hfz49_0 := blk_frozen BK101.out 0; have hfz49_1 := blk_frozen BK101.out 1; have hfz49_2 := blk_frozen BK101.out 2; have hfz49_3 := blk_frozen BK101.out 3) | ((with_reducible refine gate_dst (N := 34) rfl ?_); refine Kd.R_lit k44 _ 44 ?hg (N := 34) ?hd (xs := ([(⟨(⟨t108, t109, t110, t111⟩ : S26), (⟨t104, t105, t106, t107⟩ : S26), (⟨#[111, 116, 104, 101, 114]⟩ : ByteArray)⟩ : S44), (⟨(⟨t104, t105, t106, t107⟩ : S26), (⟨t108, t109, t110, t111⟩ : S26), (⟨#[111, 110, 101]⟩ : ByteArray)⟩ : S44), (⟨(⟨t104, t105, t106, t107⟩ : S26), (⟨t108, t109, t110, t111⟩ : S26), (⟨#[116, 119, 111]⟩ : ByteArray)⟩ : S44)] : List (S44))) (inner := [.int .i64 t108, .int .i64 t109, .int .i64 t110, .int .i64 t111, .int .i64 t104, .int .i64 t105, .int .i64 t106, .int .i64 t107, .string ⟨#[111, 116, 104, 101, 114]⟩, .int .i64 t104, .int .i64 t105, .int .i64 t106, .int .i64 t107, .int .i64 t108, .int .i64 t109, .int .i64 t110, .int .i64 t111, .string ⟨#[111, 110, 101]⟩, .int .i64 t104, .int .i64 t105, .int .i64 t106, .int .i64 t107, .int .i64 t108, .int .i64 t109, .int .i64 t110, .int .i64 t111, .string ⟨#[116, 119, 111]⟩]) (ok := fun _ => True) (okp := fun _ => True) ?hr ?hp (fun _ hk => hk) trivial (Below.refl _ _) (Nat.le_refl _) (by simp) ?_; (case hd => rfl); (case hg => rfl); (case hr => first | (go_simp; done) | (go_simp; rfl)); (case hp => exact (Reps.c9 (show Kd.M k44 _ _ _ (⟨(⟨t108, t109, t110, t111⟩ : S26), (⟨t104, t105, t106, t107⟩ : S26), (⟨#[111, 116, 104, 101, 114]⟩ : ByteArray)⟩ : S44) [.int .i64 t108, .int .i64 t109, .int .i64 t110, .int .i64 t111, .int .i64 t104, .int .i64 t105, .int .i64 t106, .int .i64 t107, .string ⟨#[111, 116, 104, 101, 114]⟩] from (k44_mkM _ _ _ (⟨(⟨t108, t109, t110, t111⟩ : S26), (⟨t104, t105, t106, t107⟩ : S26), (⟨#[111, 116, 104, 101, 114]⟩ : ByteArray)⟩ : S44) )) (Reps.c9 (show Kd.M k44 _ _ _ (⟨(⟨t104, t105, t106, t107⟩ : S26), (⟨t108, t109, t110, t111⟩ : S26), (⟨#[111, 110, 101]⟩ : ByteArray)⟩ : S44) [.int .i64 t104, .int .i64 t105, .int .i64 t106, .int .i64 t107, .int .i64 t108, .int .i64 t109, .int .i64 t110, .int .i64 t111, .string ⟨#[111, 110, 101]⟩] from (k44_mkM _ _ _ (⟨(⟨t104, t105, t106, t107⟩ : S26), (⟨t108, t109, t110, t111⟩ : S26), (⟨#[111, 110, 101]⟩ : ByteArray)⟩ : S44) )) (Reps.c9 (show Kd.M k44 _ _ _ (⟨(⟨t104, t105, t106, t107⟩ : S26), (⟨t108, t109, t110, t111⟩ : S26), (⟨#[116, 119, 111]⟩ : ByteArray)⟩ : S44) [.int .i64 t104, .int .i64 t105, .int .i64 t106, .int .i64 t107, .int .i64 t108, .int .i64 t109, .int .i64 t110, .int .i64 t111, .string ⟨#[116, 119, 111]⟩] from (k44_mkM _ _ _ (⟨(⟨t104, t105, t106, t107⟩ : S26), (⟨t108, t109, t110, t111⟩ : S26), (⟨#[116, 119, 111]⟩ : ByteArray)⟩ : S44) )) (Reps.none _ _))))); intro v114 w50 ho51 hb hg_ hnew_; clear hg_ hnew_; (first | rw [← Ny113.out] at ho51 | (simp only [Int.reduceToNat] at ho51; rw [← Ny113.out] at ho51)); have n0_ := Aside0.mk (Kd.R_lower ho51 (below_size (by repeat (first | (with_reducible first | exact HB.out | apply below_alloc | apply pw_below_drewN | apply below_drew1 | refine below_set ?_ GE101.out | refine below_set ?_ GE102.out) | exact HB.out)))); have n1_ := Aside0.mk (blk_below (g := gb101) (o := .cells #[.int .i64 t104, .int .i64 t105, .int .i64 t106, .int .i64 t107] 26 (0, 0)) (by (with_reducible repeat (first | refine blk_drewN ?_ _ | refine blk_drew ?_ | refine blk_alloc ?_ _)); exact BK101.out) hb); have n2_ := Aside0.mk (blk_below (g := gb102) (o := .cells #[.int .i64 t108, .int .i64 t109, .int .i64 t110, .int .i64 t111] 26 (0, 0)) (by (with_reducible repeat (first | refine blk_drewN ?_ _ | refine blk_drew ?_ | refine blk_alloc ?_ _)); exact BK102.out) hb); have n3_ := Aside0.mk (below_step (by repeat (first | (with_reducible first | exact HB.out | apply below_alloc | apply pw_below_drewN | apply below_drew1 | refine below_set ?_ GE101.out | refine below_set ?_ GE102.out) | exact HB.out)) hb); clear BK101 BK102 HB; have HO115 := n0_; have BK101 := n1_; have BK102 := n2_; have HB := n3_; clear n0_ n1_ n2_ n3_; clear hb ho51))
   (try simp only [Act.put, xset_a, xset_z, xset_s])
   go_cut [] (fun wc => ∃ (kq : Nat) (x9_28 : List (S44)), Aside0 (donjonlaw18_MailFirst.j0 kq a3 x9_28 t104 t105 t106 t107 t108 t109 t110 t111 = some r) ∧ Aside0 (kq ≤ k) ∧ Aside0 (Kd.R k44 44 wc w.heap.size (fun _ => True) v114 x9_28) ∧ Aside0 (wc.heap[gb101]? = some (.cells #[.int .i64 t104, .int .i64 t105, .int .i64 t106, .int .i64 t107] 26 (0, 0))) ∧ Aside0 (wc.heap[gb102]? = some (.cells #[.int .i64 t108, .int .i64 t109, .int .i64 t110, .int .i64 t111] 26 (0, 0))) ∧ Aside0 (Below w.heap.size w wc))
   case first =>
    have H := HC29.out
    clear HC29
    by_cases c52 : a2 = true
    ·subst c52
     have H1 : (if 2 < (y113.length : Int) then (if 1 < (y113.length : Int) then (donjonlaw18_MailFirst.j0 k a3 ((y113.set (1 : Int).toNat (⟨(⟨(rd_T44 y113 2).f0.f0, (rd_T44 y113 2).f0.f1, (rd_T44 y113 2).f0.f2, (rd_T44 y113 2).f0.f3⟩ : S26), (⟨(rd_T44 y113 2).f1.f0, (rd_T44 y113 2).f1.f1, (rd_T44 y113 2).f1.f2, (rd_T44 y113 2).f1.f3⟩ : S26), (rd_T44 y113 2).f2⟩ : S44)).set (2 : Int).toNat (⟨(⟨(rd_T44 y113 1).f0.f0, (rd_T44 y113 1).f0.f1, (rd_T44 y113 1).f0.f2, (rd_T44 y113 1).f0.f3⟩ : S26), (⟨(rd_T44 y113 1).f1.f0, (rd_T44 y113 1).f1.f1, (rd_T44 y113 1).f1.f2, (rd_T44 y113 1).f1.f3⟩ : S26), (rd_T44 y113 1).f2⟩ : S44)) t104 t105 t106 t107 t108 t109 t110 t111) else (none)) else (none)) = some r := by rw [if_pos rfl] at H; exact H
     clear H
     have H := H1
     clear H1
     by_cases c53 : 2 < (y113.length : Int)
     ·rw [if_pos c53] at H
      have c53b0 : decide (2 < (y113.length : Int)) = true := decide_eq_true c53
      have c53b1 : decide (2 < y113.length) = true := decide_eq_true (by omega)
      clear c53
      (first | rw [c53b0] | (simp only [i64_w, i32_w]; rw [c53b0]) | skip)
      by_cases c54 : 1 < (y113.length : Int)
      ·rw [if_pos c54] at H
       have c54b0 : decide (1 < (y113.length : Int)) = true := decide_eq_true c54
       have c54b1 : decide (1 < y113.length) = true := decide_eq_true (by omega)
       clear c54
       obtain ⟨y118, hy118⟩ : ∃ y_ : List (S44), y_ = (y113.set (1 : Int).toNat (⟨(⟨(rd_T44 y113 2).f0.f0, (rd_T44 y113 2).f0.f1, (rd_T44 y113 2).f0.f2, (rd_T44 y113 2).f0.f3⟩ : S26), (⟨(rd_T44 y113 2).f1.f0, (rd_T44 y113 2).f1.f1, (rd_T44 y113 2).f1.f2, (rd_T44 y113 2).f1.f3⟩ : S26), (rd_T44 y113 2).f2⟩ : S44)) := ⟨_, rfl⟩
       replace H : (donjonlaw18_MailFirst.j0 k a3 (y118.set (2 : Int).toNat (⟨(⟨(rd_T44 y113 1).f0.f0, (rd_T44 y113 1).f0.f1, (rd_T44 y113 1).f0.f2, (rd_T44 y113 1).f0.f3⟩ : S26), (⟨(rd_T44 y113 1).f1.f0, (rd_T44 y113 1).f1.f1, (rd_T44 y113 1).f1.f2, (rd_T44 y113 1).f1.f3⟩ : S26), (rd_T44 y113 1).f2⟩ : S44)) t104 t105 t106 t107 t108 t109 t110 t111) = some r := by first | (rw [hy118]; with_reducible exact H) | (have H2_ := (Option.bind_some _ _).symm.trans H; rw [hy118]; with_reducible exact H2_) | (have H2_ := (Option.bind_some _ _).symm.trans H; with_reducible exact H2_) | with_reducible exact H | (rw [hy118]; exact H) | exact H
       have Ny118 := Aside0.mk hy118
       clear hy118
       obtain ⟨y119, hy119⟩ : ∃ y_ : List (S44), y_ = (y118.set (2 : Int).toNat (⟨(⟨(rd_T44 y113 1).f0.f0, (rd_T44 y113 1).f0.f1, (rd_T44 y113 1).f0.f2, (rd_T44 y113 1).f0.f3⟩ : S26), (⟨(rd_T44 y113 1).f1.f0, (rd_T44 y113 1).f1.f1, (rd_T44 y113 1).f1.f2, (rd_T44 y113 1).f1.f3⟩ : S26), (rd_T44 y113 1).f2⟩ : S44)) := ⟨_, rfl⟩
       replace H : (donjonlaw18_MailFirst.j0 k a3 y119 t104 t105 t106 t107 t108 t109 t110 t111) = some r := by first | (rw [hy119]; with_reducible exact H) | (have H2_ := (Option.bind_some _ _).symm.trans H; rw [hy119]; with_reducible exact H2_) | (have H2_ := (Option.bind_some _ _).symm.trans H; with_reducible exact H2_) | with_reducible exact H | (rw [hy119]; exact H) | exact H
       have Ny119 := Aside0.mk hy119
       clear hy119
       have H' := Aside0.mk H
       clear H
       try go_wp2
       have n0_ := Aside0.mk (Kd.R_drew HO115.out)
       have n1_ := Aside0.mk (blk_drew BK101.out)
       have n2_ := Aside0.mk (blk_drew BK102.out)
       have n3_ := Aside0.mk (below_drew1 HB.out)
       clear HO115 BK101 BK102 HB
       have HO115 := n0_; have BK101 := n1_; have BK102 := n2_; have HB := n3_
       clear n0_ n1_ n2_ n3_
       obtain ⟨Ao58, co58, eo58⟩ := Kd.R_slice HO115.out
       (first | subst eo58 | (injection eo58 with f1_ f2_ f3_; have f4_ := f1_.symm; have f5_ := f3_.symm; clear f1_ f2_ f3_; subst f4_; subst f5_))
       have p116 : 0 ≤ (2 : Int) := (by omega)
       have q116 : 2 < (y113.length : Int) := of_decide_eq_true (by first | (with_reducible assumption) | assumption)
       obtain ⟨ad116, e116, hx116_0, hx116_1, hx116_2, hx116_3, hx116_4, hx116_5, hx116_6, hx116_7, hx116_8⟩ := at_T44 (Kd.R_reads' HO115.out).2.2 2 p116 q116
       cases e116
       (try simp only [show (2 : Int).toNat = 2 from rfl, Nat.reduceMul, Nat.reduceEqDiff, Go.Addr.add, ↓reduceIte] at hx116_0)
       (try simp only [show (2 : Int).toNat = 2 from rfl, Nat.reduceMul, Nat.reduceEqDiff, Go.Addr.add, ↓reduceIte] at hx116_1)
       (try simp only [show (2 : Int).toNat = 2 from rfl, Nat.reduceMul, Nat.reduceEqDiff, Go.Addr.add, ↓reduceIte] at hx116_2)
       (try simp only [show (2 : Int).toNat = 2 from rfl, Nat.reduceMul, Nat.reduceEqDiff, Go.Addr.add, ↓reduceIte] at hx116_3)
       (try simp only [show (2 : Int).toNat = 2 from rfl, Nat.reduceMul, Nat.reduceEqDiff, Go.Addr.add, ↓reduceIte] at hx116_4)
       (try simp only [show (2 : Int).toNat = 2 from rfl, Nat.reduceMul, Nat.reduceEqDiff, Go.Addr.add, ↓reduceIte] at hx116_5)
       (try simp only [show (2 : Int).toNat = 2 from rfl, Nat.reduceMul, Nat.reduceEqDiff, Go.Addr.add, ↓reduceIte] at hx116_6)
       (try simp only [show (2 : Int).toNat = 2 from rfl, Nat.reduceMul, Nat.reduceEqDiff, Go.Addr.add, ↓reduceIte] at hx116_7)
       (try simp only [show (2 : Int).toNat = 2 from rfl, Nat.reduceMul, Nat.reduceEqDiff, Go.Addr.add, ↓reduceIte] at hx116_8)
       have qi116 : (2 < y113.length) = True := eq_true (by omega)
       (try rw [show ((2 : Int)).toNat = 2 from rfl] at hx116_0)
       (try rw [show 2 * 9 = 18 from rfl] at hx116_0)
       (try rw [show ((2 : Int)).toNat = 2 from rfl] at hx116_1)
       (try rw [show 2 * 9 = 18 from rfl] at hx116_1)
       (try rw [show ((2 : Int)).toNat = 2 from rfl] at hx116_2)
       (try rw [show 2 * 9 = 18 from rfl] at hx116_2)
       (try rw [show ((2 : Int)).toNat = 2 from rfl] at hx116_3)
       (try rw [show 2 * 9 = 18 from rfl] at hx116_3)
       (try rw [show ((2 : Int)).toNat = 2 from rfl] at hx116_4)
       (try rw [show 2 * 9 = 18 from rfl] at hx116_4)
       (try rw [show ((2 : Int)).toNat = 2 from rfl] at hx116_5)
       (try rw [show 2 * 9 = 18 from rfl] at hx116_5)
       (try rw [show ((2 : Int)).toNat = 2 from rfl] at hx116_6)
       (try rw [show 2 * 9 = 18 from rfl] at hx116_6)
       (try rw [show ((2 : Int)).toNat = 2 from rfl] at hx116_7)
       (try rw [show 2 * 9 = 18 from rfl] at hx116_7)
       (try rw [show ((2 : Int)).toNat = 2 from rfl] at hx116_8)
       (try rw [show 2 * 9 = 18 from rfl] at hx116_8)
       replace p116 := eq_true p116
       replace q116 := eq_true q116
       have p117 : 0 ≤ (1 : Int) := (by omega)
       have q117 : 1 < (y113.length : Int) := of_decide_eq_true (by first | (with_reducible assumption) | assumption)
       obtain ⟨ad117, e117, hx117_0, hx117_1, hx117_2, hx117_3, hx117_4, hx117_5, hx117_6, hx117_7, hx117_8⟩ := at_T44 (Kd.R_reads' HO115.out).2.2 1 p117 q117
       obtain rfl : ad116 = ad117 := (by injection e117)
       (try simp only [show (1 : Int).toNat = 1 from rfl, Nat.reduceMul, Nat.reduceEqDiff, Go.Addr.add, ↓reduceIte] at hx117_0)
       (try simp only [show (1 : Int).toNat = 1 from rfl, Nat.reduceMul, Nat.reduceEqDiff, Go.Addr.add, ↓reduceIte] at hx117_1)
       (try simp only [show (1 : Int).toNat = 1 from rfl, Nat.reduceMul, Nat.reduceEqDiff, Go.Addr.add, ↓reduceIte] at hx117_2)
       (try simp only [show (1 : Int).toNat = 1 from rfl, Nat.reduceMul, Nat.reduceEqDiff, Go.Addr.add, ↓reduceIte] at hx117_3)
       (try simp only [show (1 : Int).toNat = 1 from rfl, Nat.reduceMul, Nat.reduceEqDiff, Go.Addr.add, ↓reduceIte] at hx117_4)
       (try simp only [show (1 : Int).toNat = 1 from rfl, Nat.reduceMul, Nat.reduceEqDiff, Go.Addr.add, ↓reduceIte] at hx117_5)
       (try simp only [show (1 : Int).toNat = 1 from rfl, Nat.reduceMul, Nat.reduceEqDiff, Go.Addr.add, ↓reduceIte] at hx117_6)
       (try simp only [show (1 : Int).toNat = 1 from rfl, Nat.reduceMul, Nat.reduceEqDiff, Go.Addr.add, ↓reduceIte] at hx117_7)
       (try simp only [show (1 : Int).toNat = 1 from rfl, Nat.reduceMul, Nat.reduceEqDiff, Go.Addr.add, ↓reduceIte] at hx117_8)
       have qi117 : (1 < y113.length) = True := eq_true (by omega)
       (try rw [show ((1 : Int)).toNat = 1 from rfl] at hx117_0)
       (try rw [show 1 * 9 = 9 from rfl] at hx117_0)
       (try rw [show ((1 : Int)).toNat = 1 from rfl] at hx117_1)
       (try rw [show 1 * 9 = 9 from rfl] at hx117_1)
       (try rw [show ((1 : Int)).toNat = 1 from rfl] at hx117_2)
       (try rw [show 1 * 9 = 9 from rfl] at hx117_2)
       (try rw [show ((1 : Int)).toNat = 1 from rfl] at hx117_3)
       (try rw [show 1 * 9 = 9 from rfl] at hx117_3)
       (try rw [show ((1 : Int)).toNat = 1 from rfl] at hx117_4)
       (try rw [show 1 * 9 = 9 from rfl] at hx117_4)
       (try rw [show ((1 : Int)).toNat = 1 from rfl] at hx117_5)
       (try rw [show 1 * 9 = 9 from rfl] at hx117_5)
       (try rw [show ((1 : Int)).toNat = 1 from rfl] at hx117_6)
       (try rw [show 1 * 9 = 9 from rfl] at hx117_6)
       (try rw [show ((1 : Int)).toNat = 1 from rfl] at hx117_7)
       (try rw [show 1 * 9 = 9 from rfl] at hx117_7)
       (try rw [show ((1 : Int)).toNat = 1 from rfl] at hx117_8)
       (try rw [show 1 * 9 = 9 from rfl] at hx117_8)
       replace p117 := eq_true p117
       replace q117 := eq_true q117
       have p55 : 0 ≤ (1 : Int) := (by omega)
       have q55 : (1 : Int) < ((y113.length : Int) : Int) := of_decide_eq_true (by first | (with_reducible assumption) | assumption)
       have qi55 : (1 < y113.length) = True := eq_true (by omega)
       obtain ⟨go55, co55, eo55, gb55, gl55, cl55, HG55⟩ := Kd.R_form HO115.out (by omega)
       (first | cases eo55 | (injection eo55 with ea_ en_ ec_; (first | subst ea_ | (injection ea_ with ea_; subst ea_)); subst ec_; clear en_))
       have GB55 := Aside0.mk gb55
       have GG55 := Aside0.mk HG55
       clear gb55 gl55 HG55
       (first | simp only [add_plain] at hx116_0 | skip)
       (first | simp only [add_plain] at hx116_1 | skip)
       (first | simp only [add_plain] at hx116_2 | skip)
       (first | simp only [add_plain] at hx116_3 | skip)
       (first | simp only [add_plain] at hx116_4 | skip)
       (first | simp only [add_plain] at hx116_5 | skip)
       (first | simp only [add_plain] at hx116_6 | skip)
       (first | simp only [add_plain] at hx116_7 | skip)
       (first | simp only [add_plain] at hx116_8 | skip)
       (first | simp only [add_plain] at hx117_0 | skip)
       (first | simp only [add_plain] at hx117_1 | skip)
       (first | simp only [add_plain] at hx117_2 | skip)
       (first | simp only [add_plain] at hx117_3 | skip)
       (first | simp only [add_plain] at hx117_4 | skip)
       (first | simp only [add_plain] at hx117_5 | skip)
       (first | simp only [add_plain] at hx117_6 | skip)
       (first | simp only [add_plain] at hx117_7 | skip)
       (first | simp only [add_plain] at hx117_8 | skip)
       obtain ⟨ce55, hcl55, hM55, hcc55, hfr55⟩ := Kd.R_elem HO115.out z44 (1 : Int) p55 q55
       obtain rfl := k44_openM hM55
       have hx55_0 : World.cell? _ ⟨go55, (1 : Int).toNat * 9, none⟩ = some (.int .i64 ((rd_T44 y113 1).f0.f0)) := hcc55 0 _ rfl
       have hx55_1 : World.cell? _ ⟨go55, (1 : Int).toNat * 9 + 1, none⟩ = some (.int .i64 ((rd_T44 y113 1).f0.f1)) := hcc55 1 _ rfl
       have hx55_2 : World.cell? _ ⟨go55, (1 : Int).toNat * 9 + 2, none⟩ = some (.int .i64 ((rd_T44 y113 1).f0.f2)) := hcc55 2 _ rfl
       have hx55_3 : World.cell? _ ⟨go55, (1 : Int).toNat * 9 + 3, none⟩ = some (.int .i64 ((rd_T44 y113 1).f0.f3)) := hcc55 3 _ rfl
       have hx55_4 : World.cell? _ ⟨go55, (1 : Int).toNat * 9 + 4, none⟩ = some (.int .i64 ((rd_T44 y113 1).f1.f0)) := hcc55 4 _ rfl
       have hx55_5 : World.cell? _ ⟨go55, (1 : Int).toNat * 9 + 5, none⟩ = some (.int .i64 ((rd_T44 y113 1).f1.f1)) := hcc55 5 _ rfl
       have hx55_6 : World.cell? _ ⟨go55, (1 : Int).toNat * 9 + 6, none⟩ = some (.int .i64 ((rd_T44 y113 1).f1.f2)) := hcc55 6 _ rfl
       have hx55_7 : World.cell? _ ⟨go55, (1 : Int).toNat * 9 + 7, none⟩ = some (.int .i64 ((rd_T44 y113 1).f1.f3)) := hcc55 7 _ rfl
       have hx55_8 : World.cell? _ ⟨go55, (1 : Int).toNat * 9 + 8, none⟩ = some (.string ((rd_T44 y113 1).f2)) := hcc55 8 _ rfl
       have hf55_0 : World.frozen? _ ⟨go55, (1 : Int).toNat * 9, none⟩ = false := hfr55 0
       (try rw [World.frozen?_setCells] at hf55_0)
       have hf55_1 : World.frozen? _ ⟨go55, (1 : Int).toNat * 9 + 1, none⟩ = false := hfr55 1
       (try rw [World.frozen?_setCells] at hf55_1)
       have hf55_2 : World.frozen? _ ⟨go55, (1 : Int).toNat * 9 + 2, none⟩ = false := hfr55 2
       (try rw [World.frozen?_setCells] at hf55_2)
       have hf55_3 : World.frozen? _ ⟨go55, (1 : Int).toNat * 9 + 3, none⟩ = false := hfr55 3
       (try rw [World.frozen?_setCells] at hf55_3)
       have hf55_4 : World.frozen? _ ⟨go55, (1 : Int).toNat * 9 + 4, none⟩ = false := hfr55 4
       (try rw [World.frozen?_setCells] at hf55_4)
       have hf55_5 : World.frozen? _ ⟨go55, (1 : Int).toNat * 9 + 5, none⟩ = false := hfr55 5
       (try rw [World.frozen?_setCells] at hf55_5)
       have hf55_6 : World.frozen? _ ⟨go55, (1 : Int).toNat * 9 + 6, none⟩ = false := hfr55 6
       (try rw [World.frozen?_setCells] at hf55_6)
       have hf55_7 : World.frozen? _ ⟨go55, (1 : Int).toNat * 9 + 7, none⟩ = false := hfr55 7
       (try rw [World.frozen?_setCells] at hf55_7)
       have hf55_8 : World.frozen? _ ⟨go55, (1 : Int).toNat * 9 + 8, none⟩ = false := hfr55 8
       (try rw [World.frozen?_setCells] at hf55_8)
       clear hcl55 hcc55 hfr55 hM55
       (try rw [show ((1 : Int)).toNat = 1 from rfl] at hx55_0)
       (try simp only [Nat.reduceMul, Nat.zero_mul, Nat.zero_add, Nat.reduceAdd] at hx55_0)
       (try rw [show ((1 : Int)).toNat = 1 from rfl] at hf55_0)
       (try simp only [Nat.reduceMul, Nat.zero_mul, Nat.zero_add, Nat.reduceAdd] at hf55_0)
       (try rw [show ((1 : Int)).toNat = 1 from rfl] at hx55_1)
       (try simp only [Nat.reduceMul, Nat.zero_mul, Nat.zero_add, Nat.reduceAdd] at hx55_1)
       (try rw [show ((1 : Int)).toNat = 1 from rfl] at hf55_1)
       (try simp only [Nat.reduceMul, Nat.zero_mul, Nat.zero_add, Nat.reduceAdd] at hf55_1)
       (try rw [show ((1 : Int)).toNat = 1 from rfl] at hx55_2)
       (try simp only [Nat.reduceMul, Nat.zero_mul, Nat.zero_add, Nat.reduceAdd] at hx55_2)
       (try rw [show ((1 : Int)).toNat = 1 from rfl] at hf55_2)
       (try simp only [Nat.reduceMul, Nat.zero_mul, Nat.zero_add, Nat.reduceAdd] at hf55_2)
       (try rw [show ((1 : Int)).toNat = 1 from rfl] at hx55_3)
       (try simp only [Nat.reduceMul, Nat.zero_mul, Nat.zero_add, Nat.reduceAdd] at hx55_3)
       (try rw [show ((1 : Int)).toNat = 1 from rfl] at hf55_3)
       (try simp only [Nat.reduceMul, Nat.zero_mul, Nat.zero_add, Nat.reduceAdd] at hf55_3)
       (try rw [show ((1 : Int)).toNat = 1 from rfl] at hx55_4)
       (try simp only [Nat.reduceMul, Nat.zero_mul, Nat.zero_add, Nat.reduceAdd] at hx55_4)
       (try rw [show ((1 : Int)).toNat = 1 from rfl] at hf55_4)
       (try simp only [Nat.reduceMul, Nat.zero_mul, Nat.zero_add, Nat.reduceAdd] at hf55_4)
       (try rw [show ((1 : Int)).toNat = 1 from rfl] at hx55_5)
       (try simp only [Nat.reduceMul, Nat.zero_mul, Nat.zero_add, Nat.reduceAdd] at hx55_5)
       (try rw [show ((1 : Int)).toNat = 1 from rfl] at hf55_5)
       (try simp only [Nat.reduceMul, Nat.zero_mul, Nat.zero_add, Nat.reduceAdd] at hf55_5)
       (try rw [show ((1 : Int)).toNat = 1 from rfl] at hx55_6)
       (try simp only [Nat.reduceMul, Nat.zero_mul, Nat.zero_add, Nat.reduceAdd] at hx55_6)
       (try rw [show ((1 : Int)).toNat = 1 from rfl] at hf55_6)
       (try simp only [Nat.reduceMul, Nat.zero_mul, Nat.zero_add, Nat.reduceAdd] at hf55_6)
       (try rw [show ((1 : Int)).toNat = 1 from rfl] at hx55_7)
       (try simp only [Nat.reduceMul, Nat.zero_mul, Nat.zero_add, Nat.reduceAdd] at hx55_7)
       (try rw [show ((1 : Int)).toNat = 1 from rfl] at hf55_7)
       (try simp only [Nat.reduceMul, Nat.zero_mul, Nat.zero_add, Nat.reduceAdd] at hf55_7)
       (try rw [show ((1 : Int)).toNat = 1 from rfl] at hx55_8)
       (try simp only [Nat.reduceMul, Nat.zero_mul, Nat.zero_add, Nat.reduceAdd] at hx55_8)
       (try rw [show ((1 : Int)).toNat = 1 from rfl] at hf55_8)
       (try simp only [Nat.reduceMul, Nat.zero_mul, Nat.zero_add, Nat.reduceAdd] at hf55_8)
       replace p55 := eq_true p55
       replace q55 := eq_true q55
       obtain ⟨ce59, hcl59, hM59, hcc59, hfr59⟩ := Kd.R_elem HO115.out z44 (1 : Int) (by omega) (by have h_ : (1 : Int) < ((y113.length : Int) : Int) := of_decide_eq_true (by first | (with_reducible assumption) | assumption); first | exact h_ | (have e_ := (Kd.R_reads' HO115.out).1; omega) | simpa using h_)
       obtain rfl := k44_openM hM59
       have HP59 := (Kd.R_seg HO115.out (1 : Int) (by omega) (by have h_ : (1 : Int) < ((y113.length : Int) : Int) := of_decide_eq_true (by first | (with_reducible assumption) | assumption); first | exact h_ | (have e_ := (Kd.R_reads' HO115.out).1; omega) | simpa using h_) (seg := [.int .i64 ((rd_T44 y113 2).f0.f0), .int .i64 ((rd_T44 y113 2).f0.f1), .int .i64 ((rd_T44 y113 2).f0.f2), .int .i64 ((rd_T44 y113 2).f0.f3), .int .i64 ((rd_T44 y113 2).f1.f0), .int .i64 ((rd_T44 y113 2).f1.f1), .int .i64 ((rd_T44 y113 2).f1.f2), .int .i64 ((rd_T44 y113 2).f1.f3), .string ((rd_T44 y113 2).f2)]) (j := 0) hcl59 hcc59 (show 9 ≤ 9 from by decide) (x' := (⟨(⟨(rd_T44 y113 2).f0.f0, (rd_T44 y113 2).f0.f1, (rd_T44 y113 2).f0.f2, (rd_T44 y113 2).f0.f3⟩ : S26), (⟨(rd_T44 y113 2).f1.f0, (rd_T44 y113 2).f1.f1, (rd_T44 y113 2).f1.f2, (rd_T44 y113 2).f1.f3⟩ : S26), (rd_T44 y113 2).f2⟩ : S44)) (k44_mkM _ _ _ (⟨(⟨(rd_T44 y113 2).f0.f0, (rd_T44 y113 2).f0.f1, (rd_T44 y113 2).f0.f2, (rd_T44 y113 2).f0.f3⟩ : S26), (⟨(rd_T44 y113 2).f1.f0, (rd_T44 y113 2).f1.f1, (rd_T44 y113 2).f1.f2, (rd_T44 y113 2).f1.f3⟩ : S26), (rd_T44 y113 2).f2⟩ : S44) ) (fun _ hk => hk)).1
       rw [← Ny118.out] at HP59
       have HQ59 := Aside0.mk HP59
       clear hcl59 hcc59 hfr59 hM59 HP59
       have p56 : 0 ≤ (2 : Int) := (by omega)
       have q56 : (2 : Int) < ((y113.length : Int) : Int) := of_decide_eq_true (by first | (with_reducible assumption) | assumption)
       have qi56 : (2 < y113.length) = True := eq_true (by omega)
       obtain ⟨ce56, hcl56, hM56, hcc56, hfr56⟩ := Kd.R_elem HQ59.out z44 (2 : Int) p56 q56
       obtain rfl := k44_openM hM56
       have hx56_0 : World.cell? _ ⟨go55, (2 : Int).toNat * 9, none⟩ = some (.int .i64 ((rd_T44 y118 2).f0.f0)) := hcc56 0 _ rfl
       have hx56_1 : World.cell? _ ⟨go55, (2 : Int).toNat * 9 + 1, none⟩ = some (.int .i64 ((rd_T44 y118 2).f0.f1)) := hcc56 1 _ rfl
       have hx56_2 : World.cell? _ ⟨go55, (2 : Int).toNat * 9 + 2, none⟩ = some (.int .i64 ((rd_T44 y118 2).f0.f2)) := hcc56 2 _ rfl
       have hx56_3 : World.cell? _ ⟨go55, (2 : Int).toNat * 9 + 3, none⟩ = some (.int .i64 ((rd_T44 y118 2).f0.f3)) := hcc56 3 _ rfl
       have hx56_4 : World.cell? _ ⟨go55, (2 : Int).toNat * 9 + 4, none⟩ = some (.int .i64 ((rd_T44 y118 2).f1.f0)) := hcc56 4 _ rfl
       have hx56_5 : World.cell? _ ⟨go55, (2 : Int).toNat * 9 + 5, none⟩ = some (.int .i64 ((rd_T44 y118 2).f1.f1)) := hcc56 5 _ rfl
       have hx56_6 : World.cell? _ ⟨go55, (2 : Int).toNat * 9 + 6, none⟩ = some (.int .i64 ((rd_T44 y118 2).f1.f2)) := hcc56 6 _ rfl
       have hx56_7 : World.cell? _ ⟨go55, (2 : Int).toNat * 9 + 7, none⟩ = some (.int .i64 ((rd_T44 y118 2).f1.f3)) := hcc56 7 _ rfl
       have hx56_8 : World.cell? _ ⟨go55, (2 : Int).toNat * 9 + 8, none⟩ = some (.string ((rd_T44 y118 2).f2)) := hcc56 8 _ rfl
       have hf56_0 : World.frozen? _ ⟨go55, (2 : Int).toNat * 9, none⟩ = false := hfr56 0
       (try rw [World.frozen?_setCells] at hf56_0)
       have hf56_1 : World.frozen? _ ⟨go55, (2 : Int).toNat * 9 + 1, none⟩ = false := hfr56 1
       (try rw [World.frozen?_setCells] at hf56_1)
       have hf56_2 : World.frozen? _ ⟨go55, (2 : Int).toNat * 9 + 2, none⟩ = false := hfr56 2
       (try rw [World.frozen?_setCells] at hf56_2)
       have hf56_3 : World.frozen? _ ⟨go55, (2 : Int).toNat * 9 + 3, none⟩ = false := hfr56 3
       (try rw [World.frozen?_setCells] at hf56_3)
       have hf56_4 : World.frozen? _ ⟨go55, (2 : Int).toNat * 9 + 4, none⟩ = false := hfr56 4
       (try rw [World.frozen?_setCells] at hf56_4)
       have hf56_5 : World.frozen? _ ⟨go55, (2 : Int).toNat * 9 + 5, none⟩ = false := hfr56 5
       (try rw [World.frozen?_setCells] at hf56_5)
       have hf56_6 : World.frozen? _ ⟨go55, (2 : Int).toNat * 9 + 6, none⟩ = false := hfr56 6
       (try rw [World.frozen?_setCells] at hf56_6)
       have hf56_7 : World.frozen? _ ⟨go55, (2 : Int).toNat * 9 + 7, none⟩ = false := hfr56 7
       (try rw [World.frozen?_setCells] at hf56_7)
       have hf56_8 : World.frozen? _ ⟨go55, (2 : Int).toNat * 9 + 8, none⟩ = false := hfr56 8
       (try rw [World.frozen?_setCells] at hf56_8)
       clear hcl56 hcc56 hfr56 hM56
       (try rw [show ((2 : Int)).toNat = 2 from rfl] at hx56_0)
       (try simp only [Nat.reduceMul, Nat.zero_mul, Nat.zero_add, Nat.reduceAdd] at hx56_0)
       (try rw [show ((2 : Int)).toNat = 2 from rfl] at hf56_0)
       (try simp only [Nat.reduceMul, Nat.zero_mul, Nat.zero_add, Nat.reduceAdd] at hf56_0)
       (try rw [show ((2 : Int)).toNat = 2 from rfl] at hx56_1)
       (try simp only [Nat.reduceMul, Nat.zero_mul, Nat.zero_add, Nat.reduceAdd] at hx56_1)
       (try rw [show ((2 : Int)).toNat = 2 from rfl] at hf56_1)
       (try simp only [Nat.reduceMul, Nat.zero_mul, Nat.zero_add, Nat.reduceAdd] at hf56_1)
       (try rw [show ((2 : Int)).toNat = 2 from rfl] at hx56_2)
       (try simp only [Nat.reduceMul, Nat.zero_mul, Nat.zero_add, Nat.reduceAdd] at hx56_2)
       (try rw [show ((2 : Int)).toNat = 2 from rfl] at hf56_2)
       (try simp only [Nat.reduceMul, Nat.zero_mul, Nat.zero_add, Nat.reduceAdd] at hf56_2)
       (try rw [show ((2 : Int)).toNat = 2 from rfl] at hx56_3)
       (try simp only [Nat.reduceMul, Nat.zero_mul, Nat.zero_add, Nat.reduceAdd] at hx56_3)
       (try rw [show ((2 : Int)).toNat = 2 from rfl] at hf56_3)
       (try simp only [Nat.reduceMul, Nat.zero_mul, Nat.zero_add, Nat.reduceAdd] at hf56_3)
       (try rw [show ((2 : Int)).toNat = 2 from rfl] at hx56_4)
       (try simp only [Nat.reduceMul, Nat.zero_mul, Nat.zero_add, Nat.reduceAdd] at hx56_4)
       (try rw [show ((2 : Int)).toNat = 2 from rfl] at hf56_4)
       (try simp only [Nat.reduceMul, Nat.zero_mul, Nat.zero_add, Nat.reduceAdd] at hf56_4)
       (try rw [show ((2 : Int)).toNat = 2 from rfl] at hx56_5)
       (try simp only [Nat.reduceMul, Nat.zero_mul, Nat.zero_add, Nat.reduceAdd] at hx56_5)
       (try rw [show ((2 : Int)).toNat = 2 from rfl] at hf56_5)
       (try simp only [Nat.reduceMul, Nat.zero_mul, Nat.zero_add, Nat.reduceAdd] at hf56_5)
       (try rw [show ((2 : Int)).toNat = 2 from rfl] at hx56_6)
       (try simp only [Nat.reduceMul, Nat.zero_mul, Nat.zero_add, Nat.reduceAdd] at hx56_6)
       (try rw [show ((2 : Int)).toNat = 2 from rfl] at hf56_6)
       (try simp only [Nat.reduceMul, Nat.zero_mul, Nat.zero_add, Nat.reduceAdd] at hf56_6)
       (try rw [show ((2 : Int)).toNat = 2 from rfl] at hx56_7)
       (try simp only [Nat.reduceMul, Nat.zero_mul, Nat.zero_add, Nat.reduceAdd] at hx56_7)
       (try rw [show ((2 : Int)).toNat = 2 from rfl] at hf56_7)
       (try simp only [Nat.reduceMul, Nat.zero_mul, Nat.zero_add, Nat.reduceAdd] at hf56_7)
       (try rw [show ((2 : Int)).toNat = 2 from rfl] at hx56_8)
       (try simp only [Nat.reduceMul, Nat.zero_mul, Nat.zero_add, Nat.reduceAdd] at hx56_8)
       (try rw [show ((2 : Int)).toNat = 2 from rfl] at hf56_8)
       (try simp only [Nat.reduceMul, Nat.zero_mul, Nat.zero_add, Nat.reduceAdd] at hf56_8)
       replace p56 := eq_true p56
       replace q56 := eq_true q56
       obtain ⟨ce60, hcl60, hM60, hcc60, hfr60⟩ := Kd.R_elem HQ59.out z44 (2 : Int) (by omega) (by have h_ : (2 : Int) < ((y113.length : Int) : Int) := of_decide_eq_true (by first | (with_reducible assumption) | assumption); first | exact h_ | (have e_ := (Kd.R_reads' HO115.out).1; omega) | simpa using h_)
       obtain rfl := k44_openM hM60
       have HP60 := (Kd.R_seg HQ59.out (2 : Int) (by omega) (by have h_ : (2 : Int) < ((y113.length : Int) : Int) := of_decide_eq_true (by first | (with_reducible assumption) | assumption); first | exact h_ | (have e_ := (Kd.R_reads' HO115.out).1; omega) | simpa using h_) (seg := [.int .i64 ((rd_T44 y113 1).f0.f0), .int .i64 ((rd_T44 y113 1).f0.f1), .int .i64 ((rd_T44 y113 1).f0.f2), .int .i64 ((rd_T44 y113 1).f0.f3), .int .i64 ((rd_T44 y113 1).f1.f0), .int .i64 ((rd_T44 y113 1).f1.f1), .int .i64 ((rd_T44 y113 1).f1.f2), .int .i64 ((rd_T44 y113 1).f1.f3), .string ((rd_T44 y113 1).f2)]) (j := 0) hcl60 hcc60 (show 9 ≤ 9 from by decide) (x' := (⟨(⟨(rd_T44 y113 1).f0.f0, (rd_T44 y113 1).f0.f1, (rd_T44 y113 1).f0.f2, (rd_T44 y113 1).f0.f3⟩ : S26), (⟨(rd_T44 y113 1).f1.f0, (rd_T44 y113 1).f1.f1, (rd_T44 y113 1).f1.f2, (rd_T44 y113 1).f1.f3⟩ : S26), (rd_T44 y113 1).f2⟩ : S44)) (k44_mkM _ _ _ (⟨(⟨(rd_T44 y113 1).f0.f0, (rd_T44 y113 1).f0.f1, (rd_T44 y113 1).f0.f2, (rd_T44 y113 1).f0.f3⟩ : S26), (⟨(rd_T44 y113 1).f1.f0, (rd_T44 y113 1).f1.f1, (rd_T44 y113 1).f1.f2, (rd_T44 y113 1).f1.f3⟩ : S26), (rd_T44 y113 1).f2⟩ : S44) ) (fun _ hk => hk)).1
       rw [← Ny119.out] at HP60
       have HQ60 := Aside0.mk HP60
       clear hcl60 hcc60 hfr60 hM60 HP60
       refine start_ (n := 12) (S := fun w' => w'.cell? ⟨go55, 18, none⟩ = some (.int .i64 ((rd_T44 y113 2).f0.f0)) ∧ w'.cell? ⟨go55, 19, none⟩ = some (.int .i64 ((rd_T44 y113 2).f0.f1)) ∧ w'.cell? ⟨go55, 20, none⟩ = some (.int .i64 ((rd_T44 y113 2).f0.f2)) ∧ w'.cell? ⟨go55, 21, none⟩ = some (.int .i64 ((rd_T44 y113 2).f0.f3)) ∧ w'.cell? ⟨go55, 22, none⟩ = some (.int .i64 ((rd_T44 y113 2).f1.f0)) ∧ w'.cell? ⟨go55, 23, none⟩ = some (.int .i64 ((rd_T44 y113 2).f1.f1)) ∧ w'.cell? ⟨go55, 24, none⟩ = some (.int .i64 ((rd_T44 y113 2).f1.f2)) ∧ w'.cell? ⟨go55, 25, none⟩ = some (.int .i64 ((rd_T44 y113 2).f1.f3)) ∧ w'.cell? ⟨go55, 26, none⟩ = some (.string ((rd_T44 y113 2).f2)) ∧ w'.cell? ⟨go55, 9, none⟩ = some (.int .i64 ((rd_T44 y113 1).f0.f0)) ∧ w'.cell? ⟨go55, 10, none⟩ = some (.int .i64 ((rd_T44 y113 1).f0.f1)) ∧ w'.cell? ⟨go55, 11, none⟩ = some (.int .i64 ((rd_T44 y113 1).f0.f2)) ∧ w'.cell? ⟨go55, 12, none⟩ = some (.int .i64 ((rd_T44 y113 1).f0.f3)) ∧ w'.cell? ⟨go55, 13, none⟩ = some (.int .i64 ((rd_T44 y113 1).f1.f0)) ∧ w'.cell? ⟨go55, 14, none⟩ = some (.int .i64 ((rd_T44 y113 1).f1.f1)) ∧ w'.cell? ⟨go55, 15, none⟩ = some (.int .i64 ((rd_T44 y113 1).f1.f2)) ∧ w'.cell? ⟨go55, 16, none⟩ = some (.int .i64 ((rd_T44 y113 1).f1.f3)) ∧ w'.cell? ⟨go55, 17, none⟩ = some (.string ((rd_T44 y113 1).f2))) (ds := [9, 11]) #[false, false, false, false, false, false, false, false, false, false, false, false] (by kernel_rfl) rfl rfl ⟨hx116_0, hx116_1, hx116_2, hx116_3, hx116_4, hx116_5, hx116_6, hx116_7, hx116_8, hx117_0, hx117_1, hx117_2, hx117_3, hx117_4, hx117_5, hx117_6, hx117_7, hx117_8⟩ (fun hHeld => ?_); refine with_tabW donjonlaw18_MailFirst.tab8 donjonlaw18_MailFirst.bits8 (fun HT_ HW_ => ?_)
       generalize w50.drew = w57 at HO115 BK101 BK102 HB GG55 HQ59 HQ60 hf55_0 hf55_1 hf55_2 hf55_3 hf55_4 hf55_5 hf55_6 hf55_7 hf55_8 hf56_0 hf56_1 hf56_2 hf56_3 hf56_4 hf56_5 hf56_6 hf56_7 hf56_8 hx116_0 hx116_1 hx116_2 hx116_3 hx116_4 hx116_5 hx116_6 hx116_7 hx116_8 hx117_0 hx117_1 hx117_2 hx117_3 hx117_4 hx117_5 hx117_6 hx117_7 hx117_8 hx55_0 hx55_1 hx55_2 hx55_3 hx55_4 hx55_5 hx55_6 hx55_7 hx55_8 hx56_0 hx56_1 hx56_2 hx56_3 hx56_4 hx56_5 hx56_6 hx56_7 hx56_8 hHeld ⊢
       refine pure_ (i := 0) (N := some 36) (v := ?_) (a' := ?_) #[true, false, false, false, false, false, false, false, false, false, false, false] rfl rfl (any_of HT_.out (by kernel_rfl)) (fun _ _ _ h => h) (Or.inl ⟨by rfl, ?_⟩) ?_ ?_
       rotate_left
       ·intro w'
        go_simp
        with_reducible rfl
       rotate_left
       ·simp only [Act.put, xset_a, xset_z, xset_s, i64_w, i32_w]
        rfl
       refine pure_ (i := 1) (N := some 37) (v := ?_) (a' := ?_) #[true, true, false, false, false, false, false, false, false, false, false, false] rfl rfl (any_of HT_.out (by kernel_rfl)) (fun _ _ _ h => h) (Or.inl ⟨by rfl, ?_⟩) ?_ ?_
       rotate_left
       ·intro w'
        go_simp
        with_reducible rfl
       rotate_left
       ·simp only [Act.put, xset_a, xset_z, xset_s, i64_w, i32_w]
        rfl
       refine pure_ (i := 2) (N := some 38) (v := ?_) (a' := ?_) #[true, true, true, false, false, false, false, false, false, false, false, false] rfl rfl (any_of HT_.out (by kernel_rfl)) (fun _ _ _ h => h) (Or.inl ⟨by rfl, ?_⟩) ?_ ?_
       rotate_left
       ·intro w'
        go_simp
        with_reducible rfl
       rotate_left
       ·simp only [Act.put, xset_a, xset_z, xset_s, i64_w, i32_w]
        rfl
       refine pure_ (i := 3) (N := some 39) (v := ?_) (a' := ?_) #[true, true, true, true, false, false, false, false, false, false, false, false] rfl rfl (any_of HT_.out (by kernel_rfl)) (fun _ _ _ h => h) (Or.inl ⟨by rfl, ?_⟩) ?_ ?_
       rotate_left
       ·intro w'
        go_simp
        with_reducible rfl
       rotate_left
       ·simp only [Act.put, xset_a, xset_z, xset_s, i64_w, i32_w]
        rfl
       refine pure_ (i := 5) (N := some 41) (v := ?_) (a' := ?_) #[true, true, true, true, false, true, false, false, false, false, false, false] rfl rfl (any_of HT_.out (by kernel_rfl)) (fun _ _ _ h => h) (Or.inl ⟨by rfl, ?_⟩) ?_ ?_
       rotate_left
       ·intro w'
        go_simp
        with_reducible rfl
       rotate_left
       ·simp only [Act.put, xset_a, xset_z, xset_s, i64_w, i32_w]
        rfl
       refine pure_ (i := 6) (N := some 42) (v := ?_) (a' := ?_) #[true, true, true, true, false, true, true, false, false, false, false, false] rfl rfl (any_of HT_.out (by kernel_rfl)) (fun _ _ _ h => h) (Or.inl ⟨by rfl, ?_⟩) ?_ ?_
       rotate_left
       ·intro w'
        go_simp
        with_reducible rfl
       rotate_left
       ·simp only [Act.put, xset_a, xset_z, xset_s, i64_w, i32_w]
        rfl
       refine take_ (i := 4) (N := some 40) (v := ?_) (a' := ?_) #[true, true, true, true, true, true, true, false, false, false, false, false] rfl rfl (take_ofW HT_.out HW_.out (by kernel_rfl)) (fun _ _ _ h => h) (Or.inl ⟨by rfl, ?_⟩) hHeld ?_ ?_
       rotate_left
       ·rintro w' ⟨s0, s1, s2, s3, s4, s5, s6, s7, s8, s9, s10, s11, s12, s13, s14, s15, s16, s17⟩
        go_simp
        with_reducible rfl
       rotate_left
       ·simp only [Act.put, xset_a, xset_z, xset_s, i64_w, i32_w]
        rfl
       refine take_ (i := 7) (N := some 43) (v := ?_) (a' := ?_) #[true, true, true, true, true, true, true, true, false, false, false, false] rfl rfl (take_ofW HT_.out HW_.out (by kernel_rfl)) (fun _ _ _ h => h) (Or.inl ⟨by rfl, ?_⟩) hHeld ?_ ?_
       rotate_left
       ·rintro w' ⟨s0, s1, s2, s3, s4, s5, s6, s7, s8, s9, s10, s11, s12, s13, s14, s15, s16, s17⟩
        go_simp
        with_reducible rfl
       rotate_left
       ·simp only [Act.put, xset_a, xset_z, xset_s, i64_w, i32_w]
        rfl
       refine pure_ (i := 8) (N := some 44) (v := ?_) (a' := ?_) #[true, true, true, true, true, true, true, true, true, false, false, false] rfl rfl (any_of HT_.out (by kernel_rfl)) (fun _ _ _ h => h) (Or.inl ⟨by rfl, ?_⟩) ?_ ?_
       rotate_left
       ·intro w'
        go_simp
        with_reducible rfl
       rotate_left
       ·simp only [Act.put, xset_a, xset_z, xset_s, i64_w, i32_w]
        rfl
       refine last_ (i := 9) (N := none) #[true, true, true, true, true, true, true, true, true, true, false, false] rfl rfl (one_of HT_.out (by kernel_rfl)) (by decide) (fun K hK => ?_)
       with_reducible refine skip_ (w1 := ?_) ?_ rfl ?_ ?_
       rotate_left
       ·rfl
       ·go_simp
        rfl
       refine hK.out _ _ ?_
       clear hK K
       refine pure_ (i := 10) (N := some 45) (v := ?_) (a' := ?_) #[true, true, true, true, true, true, true, true, true, true, true, false] rfl rfl (any_of HT_.out (by kernel_rfl)) (fun _ _ _ h => h) (Or.inl ⟨by rfl, ?_⟩) ?_ ?_
       rotate_left
       ·intro w'
        go_simp
        with_reducible rfl
       rotate_left
       ·simp only [Act.put, xset_a, xset_z, xset_s, i64_w, i32_w]
        rfl
       refine last_ (i := 11) (N := none) #[true, true, true, true, true, true, true, true, true, true, true, true] rfl rfl (one_of HT_.out (by kernel_rfl)) (by decide) (fun K hK => ?_)
       with_reducible refine skip_ (w1 := ?_) ?_ rfl ?_ ?_
       rotate_left
       ·rfl
       ·go_simp
        rfl
       refine hK.out _ _ ?_
       clear hK K
       refine done_ (done_of HT_.out (by kernel_rfl)) ?_
       try go_wp2
       go_meet
       case rel => exact ⟨_, (y119), H', ⟨by first | omega | exact Nat.le_refl _⟩, ⟨by (with_reducible repeat (first | apply Kd.R_alloc | apply Kd.R_drewN | apply Kd.R_drew)); exact HQ60.out⟩, ⟨by (with_reducible repeat (first | refine blk_drewN ?_ _ | refine blk_drew ?_ | refine blk_alloc ?_ _)); refine blk_far ?_ (by have h_ := Kd.R_ne HO115.out BK101.out (by decide); intro e_; exact h_ (by rw [e_]; rfl)) _; (with_reducible repeat (first | refine blk_drewN ?_ _ | refine blk_drew ?_ | refine blk_alloc ?_ _)); refine blk_far ?_ (by have h_ := Kd.R_ne HO115.out BK101.out (by decide); intro e_; exact h_ (by rw [e_]; rfl)) _; (with_reducible repeat (first | refine blk_drewN ?_ _ | refine blk_drew ?_ | refine blk_alloc ?_ _)); refine blk_far ?_ (by have h_ := Kd.R_ne HO115.out BK101.out (by decide); intro e_; exact h_ (by rw [e_]; rfl)) _; (with_reducible repeat (first | refine blk_drewN ?_ _ | refine blk_drew ?_ | refine blk_alloc ?_ _)); refine blk_far ?_ (by have h_ := Kd.R_ne HO115.out BK101.out (by decide); intro e_; exact h_ (by rw [e_]; rfl)) _; (with_reducible repeat (first | refine blk_drewN ?_ _ | refine blk_drew ?_ | refine blk_alloc ?_ _)); refine blk_far ?_ (by have h_ := Kd.R_ne HO115.out BK101.out (by decide); intro e_; exact h_ (by rw [e_]; rfl)) _; (with_reducible repeat (first | refine blk_drewN ?_ _ | refine blk_drew ?_ | refine blk_alloc ?_ _)); refine blk_far ?_ (by have h_ := Kd.R_ne HO115.out BK101.out (by decide); intro e_; exact h_ (by rw [e_]; rfl)) _; (with_reducible repeat (first | refine blk_drewN ?_ _ | refine blk_drew ?_ | refine blk_alloc ?_ _)); refine blk_far ?_ (by have h_ := Kd.R_ne HO115.out BK101.out (by decide); intro e_; exact h_ (by rw [e_]; rfl)) _; (with_reducible repeat (first | refine blk_drewN ?_ _ | refine blk_drew ?_ | refine blk_alloc ?_ _)); refine blk_far ?_ (by have h_ := Kd.R_ne HO115.out BK101.out (by decide); intro e_; exact h_ (by rw [e_]; rfl)) _; (with_reducible repeat (first | refine blk_drewN ?_ _ | refine blk_drew ?_ | refine blk_alloc ?_ _)); refine blk_far ?_ (by have h_ := Kd.R_ne HO115.out BK101.out (by decide); intro e_; exact h_ (by rw [e_]; rfl)) _; (with_reducible repeat (first | refine blk_drewN ?_ _ | refine blk_drew ?_ | refine blk_alloc ?_ _)); refine blk_far ?_ (by have h_ := Kd.R_ne HO115.out BK101.out (by decide); intro e_; exact h_ (by rw [e_]; rfl)) _; (with_reducible repeat (first | refine blk_drewN ?_ _ | refine blk_drew ?_ | refine blk_alloc ?_ _)); refine blk_far ?_ (by have h_ := Kd.R_ne HO115.out BK101.out (by decide); intro e_; exact h_ (by rw [e_]; rfl)) _; (with_reducible repeat (first | refine blk_drewN ?_ _ | refine blk_drew ?_ | refine blk_alloc ?_ _)); refine blk_far ?_ (by have h_ := Kd.R_ne HO115.out BK101.out (by decide); intro e_; exact h_ (by rw [e_]; rfl)) _; (with_reducible repeat (first | refine blk_drewN ?_ _ | refine blk_drew ?_ | refine blk_alloc ?_ _)); refine blk_far ?_ (by have h_ := Kd.R_ne HO115.out BK101.out (by decide); intro e_; exact h_ (by rw [e_]; rfl)) _; (with_reducible repeat (first | refine blk_drewN ?_ _ | refine blk_drew ?_ | refine blk_alloc ?_ _)); refine blk_far ?_ (by have h_ := Kd.R_ne HO115.out BK101.out (by decide); intro e_; exact h_ (by rw [e_]; rfl)) _; (with_reducible repeat (first | refine blk_drewN ?_ _ | refine blk_drew ?_ | refine blk_alloc ?_ _)); refine blk_far ?_ (by have h_ := Kd.R_ne HO115.out BK101.out (by decide); intro e_; exact h_ (by rw [e_]; rfl)) _; (with_reducible repeat (first | refine blk_drewN ?_ _ | refine blk_drew ?_ | refine blk_alloc ?_ _)); refine blk_far ?_ (by have h_ := Kd.R_ne HO115.out BK101.out (by decide); intro e_; exact h_ (by rw [e_]; rfl)) _; (with_reducible repeat (first | refine blk_drewN ?_ _ | refine blk_drew ?_ | refine blk_alloc ?_ _)); refine blk_far ?_ (by have h_ := Kd.R_ne HO115.out BK101.out (by decide); intro e_; exact h_ (by rw [e_]; rfl)) _; (with_reducible repeat (first | refine blk_drewN ?_ _ | refine blk_drew ?_ | refine blk_alloc ?_ _)); refine blk_far ?_ (by have h_ := Kd.R_ne HO115.out BK101.out (by decide); intro e_; exact h_ (by rw [e_]; rfl)) _; (with_reducible repeat (first | refine blk_drewN ?_ _ | refine blk_drew ?_ | refine blk_alloc ?_ _)); exact BK101.out⟩, ⟨by (with_reducible repeat (first | refine blk_drewN ?_ _ | refine blk_drew ?_ | refine blk_alloc ?_ _)); refine blk_far ?_ (by have h_ := Kd.R_ne HO115.out BK102.out (by decide); intro e_; exact h_ (by rw [e_]; rfl)) _; (with_reducible repeat (first | refine blk_drewN ?_ _ | refine blk_drew ?_ | refine blk_alloc ?_ _)); refine blk_far ?_ (by have h_ := Kd.R_ne HO115.out BK102.out (by decide); intro e_; exact h_ (by rw [e_]; rfl)) _; (with_reducible repeat (first | refine blk_drewN ?_ _ | refine blk_drew ?_ | refine blk_alloc ?_ _)); refine blk_far ?_ (by have h_ := Kd.R_ne HO115.out BK102.out (by decide); intro e_; exact h_ (by rw [e_]; rfl)) _; (with_reducible repeat (first | refine blk_drewN ?_ _ | refine blk_drew ?_ | refine blk_alloc ?_ _)); refine blk_far ?_ (by have h_ := Kd.R_ne HO115.out BK102.out (by decide); intro e_; exact h_ (by rw [e_]; rfl)) _; (with_reducible repeat (first | refine blk_drewN ?_ _ | refine blk_drew ?_ | refine blk_alloc ?_ _)); refine blk_far ?_ (by have h_ := Kd.R_ne HO115.out BK102.out (by decide); intro e_; exact h_ (by rw [e_]; rfl)) _; (with_reducible repeat (first | refine blk_drewN ?_ _ | refine blk_drew ?_ | refine blk_alloc ?_ _)); refine blk_far ?_ (by have h_ := Kd.R_ne HO115.out BK102.out (by decide); intro e_; exact h_ (by rw [e_]; rfl)) _; (with_reducible repeat (first | refine blk_drewN ?_ _ | refine blk_drew ?_ | refine blk_alloc ?_ _)); refine blk_far ?_ (by have h_ := Kd.R_ne HO115.out BK102.out (by decide); intro e_; exact h_ (by rw [e_]; rfl)) _; (with_reducible repeat (first | refine blk_drewN ?_ _ | refine blk_drew ?_ | refine blk_alloc ?_ _)); refine blk_far ?_ (by have h_ := Kd.R_ne HO115.out BK102.out (by decide); intro e_; exact h_ (by rw [e_]; rfl)) _; (with_reducible repeat (first | refine blk_drewN ?_ _ | refine blk_drew ?_ | refine blk_alloc ?_ _)); refine blk_far ?_ (by have h_ := Kd.R_ne HO115.out BK102.out (by decide); intro e_; exact h_ (by rw [e_]; rfl)) _; (with_reducible repeat (first | refine blk_drewN ?_ _ | refine blk_drew ?_ | refine blk_alloc ?_ _)); refine blk_far ?_ (by have h_ := Kd.R_ne HO115.out BK102.out (by decide); intro e_; exact h_ (by rw [e_]; rfl)) _; (with_reducible repeat (first | refine blk_drewN ?_ _ | refine blk_drew ?_ | refine blk_alloc ?_ _)); refine blk_far ?_ (by have h_ := Kd.R_ne HO115.out BK102.out (by decide); intro e_; exact h_ (by rw [e_]; rfl)) _; (with_reducible repeat (first | refine blk_drewN ?_ _ | refine blk_drew ?_ | refine blk_alloc ?_ _)); refine blk_far ?_ (by have h_ := Kd.R_ne HO115.out BK102.out (by decide); intro e_; exact h_ (by rw [e_]; rfl)) _; (with_reducible repeat (first | refine blk_drewN ?_ _ | refine blk_drew ?_ | refine blk_alloc ?_ _)); refine blk_far ?_ (by have h_ := Kd.R_ne HO115.out BK102.out (by decide); intro e_; exact h_ (by rw [e_]; rfl)) _; (with_reducible repeat (first | refine blk_drewN ?_ _ | refine blk_drew ?_ | refine blk_alloc ?_ _)); refine blk_far ?_ (by have h_ := Kd.R_ne HO115.out BK102.out (by decide); intro e_; exact h_ (by rw [e_]; rfl)) _; (with_reducible repeat (first | refine blk_drewN ?_ _ | refine blk_drew ?_ | refine blk_alloc ?_ _)); refine blk_far ?_ (by have h_ := Kd.R_ne HO115.out BK102.out (by decide); intro e_; exact h_ (by rw [e_]; rfl)) _; (with_reducible repeat (first | refine blk_drewN ?_ _ | refine blk_drew ?_ | refine blk_alloc ?_ _)); refine blk_far ?_ (by have h_ := Kd.R_ne HO115.out BK102.out (by decide); intro e_; exact h_ (by rw [e_]; rfl)) _; (with_reducible repeat (first | refine blk_drewN ?_ _ | refine blk_drew ?_ | refine blk_alloc ?_ _)); refine blk_far ?_ (by have h_ := Kd.R_ne HO115.out BK102.out (by decide); intro e_; exact h_ (by rw [e_]; rfl)) _; (with_reducible repeat (first | refine blk_drewN ?_ _ | refine blk_drew ?_ | refine blk_alloc ?_ _)); refine blk_far ?_ (by have h_ := Kd.R_ne HO115.out BK102.out (by decide); intro e_; exact h_ (by rw [e_]; rfl)) _; (with_reducible repeat (first | refine blk_drewN ?_ _ | refine blk_drew ?_ | refine blk_alloc ?_ _)); exact BK102.out⟩, ⟨by repeat (first | (with_reducible first | exact HB.out | apply below_alloc | apply pw_below_drewN | apply below_drew1 | refine below_set ?_ GB55.out | refine below_set ?_ GB55.out | refine below_set ?_ GB55.out | refine below_set ?_ GB55.out | refine below_set ?_ GB55.out | refine below_set ?_ GB55.out | refine below_set ?_ GB55.out | refine below_set ?_ GB55.out | refine below_set ?_ GB55.out | refine below_set ?_ GB55.out | refine below_set ?_ GB55.out | refine below_set ?_ GB55.out | refine below_set ?_ GB55.out | refine below_set ?_ GB55.out | refine below_set ?_ GB55.out | refine below_set ?_ GB55.out | refine below_set ?_ GB55.out | refine below_set ?_ GB55.out | refine below_set ?_ GE101.out | refine below_set ?_ GE102.out) | exact HB.out)⟩⟩
      ·rw [if_neg c54] at H
       exact absurd H (by simp)
     ·rw [if_neg c53] at H
      exact absurd H (by simp)
    ·replace c52 := Bool.eq_false_iff.mpr c52
     subst c52
     have H1 : (donjonlaw18_MailFirst.j0 k a3 y113 t104 t105 t106 t107 t108 t109 t110 t111) = some r := by rw [if_neg (show ¬ (false = true) by decide)] at H; exact H
     clear H
     have H := H1
     clear H1
     have H' := Aside0.mk H
     clear H
     go_wp2
     go_meet
     case rel => exact ⟨_, (y113), H', ⟨by first | omega | exact Nat.le_refl _⟩, ⟨by (with_reducible repeat (first | apply Kd.R_alloc | apply Kd.R_drewN | apply Kd.R_drew)); exact HO115.out⟩, ⟨by (with_reducible repeat (first | refine blk_drewN ?_ _ | refine blk_drew ?_ | refine blk_alloc ?_ _)); exact BK101.out⟩, ⟨by (with_reducible repeat (first | refine blk_drewN ?_ _ | refine blk_drew ?_ | refine blk_alloc ?_ _)); exact BK102.out⟩, ⟨by repeat (first | (with_reducible first | exact HB.out | apply below_alloc | apply pw_below_drewN | apply below_drew1 | refine below_set ?_ GE101.out | refine below_set ?_ GE102.out) | exact HB.out)⟩⟩
   case rest =>
    clear HC29
    try clear c1
    try clear p1
    try clear q1
    try clear hx1
    try clear qi1
    try clear c2
    try clear p2
    try clear c4
    try clear c5
    try clear p5
    try clear q5
    try clear hx5
    try clear qi5
    try clear hf5
    try clear c6
    try clear c8
    try clear c9
    try clear c10
    try clear p11
    try clear q11
    try clear hx11
    try clear qi11
    try clear c23
    try clear c25
    try clear c44
    try clear c52
    try clear c53
    try clear c53b0
    try clear c53b1
    try clear c54
    try clear c54b0
    try clear c54b1
    try clear c55
    try clear p55
    try clear q55
    try clear hx55
    try clear qi55
    try clear hf55
    try clear c56
    try clear p56
    try clear q56
    try clear hx56
    try clear qi56
    try clear hf56
    try clear c59
    try clear c60
    try clear hcz26_0
    try clear hcz26_1
    try clear hcz26_2
    try clear hcz26_3
    try clear hcz27_0
    try clear hcz27_1
    try clear hcz27_2
    try clear hcz27_3
    try clear hcz45_0
    try clear hcz45_1
    try clear hcz45_2
    try clear hcz45_3
    try clear hcz46_0
    try clear hcz46_1
    try clear hcz46_2
    try clear hcz46_3
    try clear hcz48_0
    try clear hcz48_1
    try clear hcz48_2
    try clear hcz48_3
    try clear hcz49_0
    try clear hcz49_1
    try clear hcz49_2
    try clear hcz49_3
    try clear hfz26_0
    try clear hfz26_1
    try clear hfz26_2
    try clear hfz26_3
    try clear hfz27_0
    try clear hfz27_1
    try clear hfz27_2
    try clear hfz27_3
    try clear hfz45_0
    try clear hfz45_1
    try clear hfz45_2
    try clear hfz45_3
    try clear hfz46_0
    try clear hfz46_1
    try clear hfz46_2
    try clear hfz46_3
    try clear hfz48_0
    try clear hfz48_1
    try clear hfz48_2
    try clear hfz48_3
    try clear hfz49_0
    try clear hfz49_1
    try clear hfz49_2
    try clear hfz49_3
    try clear hx116_0
    try clear hx116_1
    try clear hx116_2
    try clear hx116_3
    try clear hx116_4
    try clear hx116_5
    try clear hx116_6
    try clear hx116_7
    try clear hx116_8
    try clear hx117_0
    try clear hx117_1
    try clear hx117_2
    try clear hx117_3
    try clear hx117_4
    try clear hx117_5
    try clear hx117_6
    try clear hx117_7
    try clear hx117_8
    try clear hx55_0
    try clear hx55_1
    try clear hx55_2
    try clear hx55_3
    try clear hx55_4
    try clear hx55_5
    try clear hx55_6
    try clear hx55_7
    try clear hx55_8
    try clear hx56_0
    try clear hx56_1
    try clear hx56_2
    try clear hx56_3
    try clear hx56_4
    try clear hx56_5
    try clear hx56_6
    try clear hx56_7
    try clear hx56_8
    try clear p116
    try clear p117
    try clear p55
    try clear p56
    try clear q116
    try clear q117
    try clear q55
    try clear q56
    obtain ⟨kq, x9_28, HA, HJ28, HO_9, BK101, BK102, HB⟩ := hcut
    cases kq with
    | zero => exact absurd HA.out (by simp [donjonlaw18_MailFirst.j0])
    | succ kj28 =>
     have H := HA.out
     clear HA
     simp only [donjonlaw18_MailFirst.j0] at H
     obtain ⟨y120, hy120⟩ : ∃ y_ : List ByteArray, y_ = (([(⟨#[111, 110, 101]⟩ : ByteArray), (⟨#[116, 119, 111]⟩ : ByteArray), (⟨#[116, 104, 114, 101, 101]⟩ : ByteArray)] : List ByteArray)) := ⟨_, rfl⟩
     replace H : ((donjonlaw18_within.f a3 3).bind fun t123 => (if 0 ≤ t123 then (if t123 < (y120.length : Int) then ((mail_Rule.f kj28 x9_28 (⟨#[97]⟩ : ByteArray) t104 t105 t106 t107 (⟨#[98]⟩ : ByteArray) t108 t109 t110 t111 (rdOf ByteArray.empty y120 t123)).bind fun bt126 => ((mail_Send.f kj28 x9_28 (⟨#[97]⟩ : ByteArray) t104 t105 t106 t107 (⟨#[98]⟩ : ByteArray) t108 t109 t110 t111 (rdOf ByteArray.empty y120 t123)).bind fun bt137 => (if 1 < (x9_28.length : Int) then (if (rdOf ByteArray.empty y120 t123).toList = ((rd_T44 x9_28 1).f2).toList then (donjonlaw18_MailFirst.j1 kj28 x9_28 bt126.2.2.2.2.2.2.2.2.2 bt137.1 bt137.2 6 (⟨#[97]⟩ : ByteArray) t104 t105 t106 t107 (⟨#[98]⟩ : ByteArray) t108 t109 t110 t111 (rdOf ByteArray.empty y120 t123) bt126.1 bt126.2.1 bt126.2.2.1 bt126.2.2.2.1 bt126.2.2.2.2.1 bt126.2.2.2.2.2.1 bt126.2.2.2.2.2.2.1 bt126.2.2.2.2.2.2.2.1 bt126.2.2.2.2.2.2.2.2.1) else (donjonlaw18_MailFirst.j1 kj28 x9_28 bt126.2.2.2.2.2.2.2.2.2 bt137.1 bt137.2 0 (⟨#[97]⟩ : ByteArray) t104 t105 t106 t107 (⟨#[98]⟩ : ByteArray) t108 t109 t110 t111 (rdOf ByteArray.empty y120 t123) bt126.1 bt126.2.1 bt126.2.2.1 bt126.2.2.2.1 bt126.2.2.2.2.1 bt126.2.2.2.2.2.1 bt126.2.2.2.2.2.2.1 bt126.2.2.2.2.2.2.2.1 bt126.2.2.2.2.2.2.2.2.1)) else (none)))) else (none)) else (none))) = some r := by first | (rw [hy120]; with_reducible exact H) | (have H2_ := (Option.bind_some _ _).symm.trans H; rw [hy120]; with_reducible exact H2_) | (have H2_ := (Option.bind_some _ _).symm.trans H; with_reducible exact H2_) | with_reducible exact H | (rw [hy120]; exact H) | exact H
     have Ny120 := Aside0.mk hy120
     clear hy120
     replace H := Option.bind_eq_some_iff.mp H
     obtain ⟨t123, A610, H⟩ := H
     replace H : (if 0 ≤ t123 then (if t123 < (y120.length : Int) then ((mail_Rule.f kj28 x9_28 (⟨#[97]⟩ : ByteArray) t104 t105 t106 t107 (⟨#[98]⟩ : ByteArray) t108 t109 t110 t111 (rdOf ByteArray.empty y120 t123)).bind fun bt126 => ((mail_Send.f kj28 x9_28 (⟨#[97]⟩ : ByteArray) t104 t105 t106 t107 (⟨#[98]⟩ : ByteArray) t108 t109 t110 t111 (rdOf ByteArray.empty y120 t123)).bind fun bt137 => (if 1 < (x9_28.length : Int) then (if (rdOf ByteArray.empty y120 t123).toList = ((rd_T44 x9_28 1).f2).toList then (donjonlaw18_MailFirst.j1 kj28 x9_28 bt126.2.2.2.2.2.2.2.2.2 bt137.1 bt137.2 6 (⟨#[97]⟩ : ByteArray) t104 t105 t106 t107 (⟨#[98]⟩ : ByteArray) t108 t109 t110 t111 (rdOf ByteArray.empty y120 t123) bt126.1 bt126.2.1 bt126.2.2.1 bt126.2.2.2.1 bt126.2.2.2.2.1 bt126.2.2.2.2.2.1 bt126.2.2.2.2.2.2.1 bt126.2.2.2.2.2.2.2.1 bt126.2.2.2.2.2.2.2.2.1) else (donjonlaw18_MailFirst.j1 kj28 x9_28 bt126.2.2.2.2.2.2.2.2.2 bt137.1 bt137.2 0 (⟨#[97]⟩ : ByteArray) t104 t105 t106 t107 (⟨#[98]⟩ : ByteArray) t108 t109 t110 t111 (rdOf ByteArray.empty y120 t123) bt126.1 bt126.2.1 bt126.2.2.1 bt126.2.2.2.1 bt126.2.2.2.2.1 bt126.2.2.2.2.2.1 bt126.2.2.2.2.2.2.1 bt126.2.2.2.2.2.2.2.1 bt126.2.2.2.2.2.2.2.2.1)) else (none)))) else (none)) else (none)) = some r := H
     have A61 := Aside0.mk A610
     clear A610
     by_cases c62 : 0 ≤ t123
     ·rw [if_pos c62] at H
      have c62b0 : decide (0 ≤ t123) = true := decide_eq_true c62
      clear c62
      by_cases c63 : t123 < (y120.length : Int)
      ·rw [if_pos c63] at H
       have c63b0 : decide (t123 < (y120.length : Int)) = true := decide_eq_true c63
       clear c63
       replace H := Option.bind_eq_some_iff.mp H
       obtain ⟨⟨t126, t127, t128, t129, t130, t131, t132, t133, t134, t135⟩, A640, H⟩ := H
       replace H : ((mail_Send.f kj28 x9_28 (⟨#[97]⟩ : ByteArray) t104 t105 t106 t107 (⟨#[98]⟩ : ByteArray) t108 t109 t110 t111 (rdOf ByteArray.empty y120 t123)).bind fun bt137 => (if 1 < (x9_28.length : Int) then (if (rdOf ByteArray.empty y120 t123).toList = ((rd_T44 x9_28 1).f2).toList then (donjonlaw18_MailFirst.j1 kj28 x9_28 t135 bt137.1 bt137.2 6 (⟨#[97]⟩ : ByteArray) t104 t105 t106 t107 (⟨#[98]⟩ : ByteArray) t108 t109 t110 t111 (rdOf ByteArray.empty y120 t123) t126 t127 t128 t129 t130 t131 t132 t133 t134) else (donjonlaw18_MailFirst.j1 kj28 x9_28 t135 bt137.1 bt137.2 0 (⟨#[97]⟩ : ByteArray) t104 t105 t106 t107 (⟨#[98]⟩ : ByteArray) t108 t109 t110 t111 (rdOf ByteArray.empty y120 t123) t126 t127 t128 t129 t130 t131 t132 t133 t134)) else (none))) = some r := H
       have A64 := Aside0.mk A640
       clear A640
       replace H := Option.bind_eq_some_iff.mp H
       obtain ⟨⟨t137, t138⟩, A650, H⟩ := H
       replace H : (if 1 < (x9_28.length : Int) then (if (rdOf ByteArray.empty y120 t123).toList = ((rd_T44 x9_28 1).f2).toList then (donjonlaw18_MailFirst.j1 kj28 x9_28 t135 t137 t138 6 (⟨#[97]⟩ : ByteArray) t104 t105 t106 t107 (⟨#[98]⟩ : ByteArray) t108 t109 t110 t111 (rdOf ByteArray.empty y120 t123) t126 t127 t128 t129 t130 t131 t132 t133 t134) else (donjonlaw18_MailFirst.j1 kj28 x9_28 t135 t137 t138 0 (⟨#[97]⟩ : ByteArray) t104 t105 t106 t107 (⟨#[98]⟩ : ByteArray) t108 t109 t110 t111 (rdOf ByteArray.empty y120 t123) t126 t127 t128 t129 t130 t131 t132 t133 t134)) else (none)) = some r := H
       have A65 := Aside0.mk A650
       clear A650
       by_cases c66 : 1 < (x9_28.length : Int)
       ·rw [if_pos c66] at H
        have c66b0 : decide (1 < (x9_28.length : Int)) = true := decide_eq_true c66
        have c66b1 : decide (1 < x9_28.length) = true := decide_eq_true (by omega)
        clear c66
        have HC67 := Aside0.mk H
        clear H
        try go_wp2
        have pi124 : (0 ≤ (t123 : Int)) = True := eq_true (of_decide_eq_true (by first | (with_reducible assumption) | assumption))
        have qi124 : (t123 < (y120.length : Int)) = True := eq_true (of_decide_eq_true (by first | (with_reducible assumption) | assumption))
        have n0_ := Aside0.mk (Kd.R_drew HO_9.out)
        have n1_ := Aside0.mk (blk_drew BK101.out)
        have n2_ := Aside0.mk (blk_drew BK102.out)
        have n3_ := Aside0.mk (below_drew1 HB.out)
        clear HO_9 BK101 BK102 HB
        have HO_9 := n0_; have BK101 := n1_; have BK102 := n2_; have HB := n3_
        clear n0_ n1_ n2_ n3_
        refine start_ (n := 10) (S := fun w' => w'.cell? ⟨gb101, 0, none⟩ = some (.int .i64 t104) ∧ w'.cell? ⟨gb101, 1, none⟩ = some (.int .i64 t105) ∧ w'.cell? ⟨gb101, 2, none⟩ = some (.int .i64 t106) ∧ w'.cell? ⟨gb101, 3, none⟩ = some (.int .i64 t107) ∧ w'.cell? ⟨gb102, 0, none⟩ = some (.int .i64 t108) ∧ w'.cell? ⟨gb102, 1, none⟩ = some (.int .i64 t109) ∧ w'.cell? ⟨gb102, 2, none⟩ = some (.int .i64 t110) ∧ w'.cell? ⟨gb102, 3, none⟩ = some (.int .i64 t111)) (ds := []) #[false, false, false, false, false, false, false, false, false, false] (by kernel_rfl) rfl rfl ⟨(blk_cell BK101.out 0).trans rfl, (blk_cell BK101.out 1).trans rfl, (blk_cell BK101.out 2).trans rfl, (blk_cell BK101.out 3).trans rfl, (blk_cell BK102.out 0).trans rfl, (blk_cell BK102.out 1).trans rfl, (blk_cell BK102.out 2).trans rfl, (blk_cell BK102.out 3).trans rfl⟩ (fun hHeld => ?_); refine with_tabW donjonlaw18_MailFirst.tab9 donjonlaw18_MailFirst.bits9 (fun HT_ HW_ => ?_)
        generalize wc.drew = w68 at HO_9 BK101 BK102 HB hHeld ⊢
        refine pure_ (i := 3) (N := some 49) (v := ?_) (a' := ?_) #[false, false, false, true, false, false, false, false, false, false] rfl rfl (any_of HT_.out (by kernel_rfl)) (fun _ _ _ h => h) (Or.inl ⟨by rfl, ?_⟩) ?_ ?_
        rotate_left
        ·intro w'
         go_simp
         with_reducible rfl
        rotate_left
        ·simp only [Act.put, xset_a, xset_z, xset_s, i64_w, i32_w]
         rfl
        refine take_ (i := 0) (N := some 46) (v := ?_) (a' := ?_) #[true, false, false, true, false, false, false, false, false, false] rfl rfl (take_ofW HT_.out HW_.out (by kernel_rfl)) (fun _ _ _ h => h) (Or.inl ⟨by rfl, ?_⟩) hHeld ?_ ?_
        rotate_left
        ·rintro w' ⟨s0, s1, s2, s3, s4, s5, s6, s7⟩
         go_simp
         with_reducible rfl
        rotate_left
        ·simp only [Act.put, xset_a, xset_z, xset_s, i64_w, i32_w]
         rfl
        refine take_ (i := 1) (N := some 47) (v := ?_) (a' := ?_) #[true, true, false, true, false, false, false, false, false, false] rfl rfl (take_ofW HT_.out HW_.out (by kernel_rfl)) (fun _ _ _ h => h) (Or.inl ⟨by rfl, ?_⟩) hHeld ?_ ?_
        rotate_left
        ·rintro w' ⟨s0, s1, s2, s3, s4, s5, s6, s7⟩
         go_simp
         with_reducible rfl
        rotate_left
        ·simp only [Act.put, xset_a, xset_z, xset_s, i64_w, i32_w]
         rfl
        refine join_ (σ := Value × Addr × Nat) 1 #[true, true, true, true, true, true, true, true, true, false] (fun s_ => [(48, s_.1), (50, .int .i64 t123), (52, .string (rdOf ByteArray.empty y120 t123)), (10, .pointer (some ⟨s_.2.2, 0, none⟩)), (51, .pointer (some (s_.2.1.add (t123).toNat))), (53, .agg #[.string ⟨#[97]⟩, .int .i64 t104, .int .i64 t105, .int .i64 t106, .int .i64 t107, .string ⟨#[98]⟩, .int .i64 t108, .int .i64 t109, .int .i64 t110, .int .i64 t111, .string (rdOf ByteArray.empty y120 t123)])]) (fun s_ w' => (w'.cell? ⟨gb101, 0, none⟩ = some (.int .i64 t104) ∧ w'.cell? ⟨gb101, 1, none⟩ = some (.int .i64 t105) ∧ w'.cell? ⟨gb101, 2, none⟩ = some (.int .i64 t106) ∧ w'.cell? ⟨gb101, 3, none⟩ = some (.int .i64 t107) ∧ w'.cell? ⟨gb102, 0, none⟩ = some (.int .i64 t108) ∧ w'.cell? ⟨gb102, 1, none⟩ = some (.int .i64 t109) ∧ w'.cell? ⟨gb102, 2, none⟩ = some (.int .i64 t110) ∧ w'.cell? ⟨gb102, 3, none⟩ = some (.int .i64 t111)) ∧ (Kd.R Kd.string 9 w' w.heap.size (fun _ => True) s_.1 y120) ∧ (Kd.R k44 44 w' w.heap.size (fun _ => True) v114 x9_28) ∧ (∃ c_, (s_.1 : Value) = .slice (some s_.2.1) y120.length c_) ∧ (w'.heap[gb101]? = some (.cells #[.int .i64 t104, .int .i64 t105, .int .i64 t106, .int .i64 t107] 26 (0, 0))) ∧ (w'.heap[gb102]? = some (.cells #[.int .i64 t108, .int .i64 t109, .int .i64 t110, .int .i64 t111] 26 (0, 0))) ∧ (w'.heap[s_.2.2]? = some (.cells #[.string ⟨#[]⟩, .int .i64 0, .int .i64 0, .int .i64 0, .int .i64 0, .string ⟨#[]⟩, .int .i64 0, .int .i64 0, .int .i64 0, .int .i64 0, .string ⟨#[]⟩] 28 (0, 0))) ∧ (w.heap.size ≤ s_.2.2) ∧ (w.heap.size ≤ s_.2.2) ∧ (gb101 ≠ s_.2.2) ∧ (s_.2.2 ≠ gb101) ∧ (gb102 ≠ s_.2.2) ∧ (s_.2.2 ≠ gb102) ∧ (Below w.heap.size w w')) ?_ ?_
        rotate_left
        ·intro hJ2_4_6_8
         refine join_ (σ := Value × Addr) 2 #[true, true, true, true, true, true, true, true, false, false] (fun s_ => [(48, s_.1), (50, .int .i64 t123), (52, .string (rdOf ByteArray.empty y120 t123)), (51, .pointer (some (s_.2.add (t123).toNat))), (53, .agg #[.string ⟨#[97]⟩, .int .i64 t104, .int .i64 t105, .int .i64 t106, .int .i64 t107, .string ⟨#[98]⟩, .int .i64 t108, .int .i64 t109, .int .i64 t110, .int .i64 t111, .string (rdOf ByteArray.empty y120 t123)])]) (fun s_ w' => (w'.cell? ⟨gb101, 0, none⟩ = some (.int .i64 t104) ∧ w'.cell? ⟨gb101, 1, none⟩ = some (.int .i64 t105) ∧ w'.cell? ⟨gb101, 2, none⟩ = some (.int .i64 t106) ∧ w'.cell? ⟨gb101, 3, none⟩ = some (.int .i64 t107) ∧ w'.cell? ⟨gb102, 0, none⟩ = some (.int .i64 t108) ∧ w'.cell? ⟨gb102, 1, none⟩ = some (.int .i64 t109) ∧ w'.cell? ⟨gb102, 2, none⟩ = some (.int .i64 t110) ∧ w'.cell? ⟨gb102, 3, none⟩ = some (.int .i64 t111)) ∧ (Kd.R Kd.string 9 w' w.heap.size (fun _ => True) s_.1 y120) ∧ (Kd.R k44 44 w' w.heap.size (fun _ => True) v114 x9_28) ∧ (∃ c_, (s_.1 : Value) = .slice (some s_.2) y120.length c_) ∧ (w'.heap[gb101]? = some (.cells #[.int .i64 t104, .int .i64 t105, .int .i64 t106, .int .i64 t107] 26 (0, 0))) ∧ (w'.heap[gb102]? = some (.cells #[.int .i64 t108, .int .i64 t109, .int .i64 t110, .int .i64 t111] 26 (0, 0))) ∧ (Below w.heap.size w w')) ?_ ?_
         rotate_left
         ·intro hJ2_4_6
          refine join_ (σ := Value × Addr × Nat) 3 #[true, true, true, true, true, true, false, false, true, false] (fun s_ => [(48, s_.1), (50, .int .i64 t123), (10, .pointer (some ⟨s_.2.2, 0, none⟩)), (51, .pointer (some (s_.2.1.add (t123).toNat)))]) (fun s_ w' => (w'.cell? ⟨gb101, 0, none⟩ = some (.int .i64 t104) ∧ w'.cell? ⟨gb101, 1, none⟩ = some (.int .i64 t105) ∧ w'.cell? ⟨gb101, 2, none⟩ = some (.int .i64 t106) ∧ w'.cell? ⟨gb101, 3, none⟩ = some (.int .i64 t107) ∧ w'.cell? ⟨gb102, 0, none⟩ = some (.int .i64 t108) ∧ w'.cell? ⟨gb102, 1, none⟩ = some (.int .i64 t109) ∧ w'.cell? ⟨gb102, 2, none⟩ = some (.int .i64 t110) ∧ w'.cell? ⟨gb102, 3, none⟩ = some (.int .i64 t111)) ∧ (Kd.R Kd.string 9 w' w.heap.size (fun _ => True) s_.1 y120) ∧ (Kd.R k44 44 w' w.heap.size (fun _ => True) v114 x9_28) ∧ (∃ c_, (s_.1 : Value) = .slice (some s_.2.1) y120.length c_) ∧ (w'.heap[gb101]? = some (.cells #[.int .i64 t104, .int .i64 t105, .int .i64 t106, .int .i64 t107] 26 (0, 0))) ∧ (w'.heap[gb102]? = some (.cells #[.int .i64 t108, .int .i64 t109, .int .i64 t110, .int .i64 t111] 26 (0, 0))) ∧ (w'.heap[s_.2.2]? = some (.cells #[.string ⟨#[]⟩, .int .i64 0, .int .i64 0, .int .i64 0, .int .i64 0, .string ⟨#[]⟩, .int .i64 0, .int .i64 0, .int .i64 0, .int .i64 0, .string ⟨#[]⟩] 28 (0, 0))) ∧ (w.heap.size ≤ s_.2.2) ∧ (w.heap.size ≤ s_.2.2) ∧ (gb101 ≠ s_.2.2) ∧ (s_.2.2 ≠ gb101) ∧ (gb102 ≠ s_.2.2) ∧ (s_.2.2 ≠ gb102) ∧ (Below w.heap.size w w')) ?_ ?_
          rotate_left
          ·intro hJ2_4_8
           refine join_ (σ := Value × Addr) 4 #[true, true, true, true, true, true, false, false, false, false] (fun s_ => [(48, s_.1), (50, .int .i64 t123), (51, .pointer (some (s_.2.add (t123).toNat)))]) (fun s_ w' => (w'.cell? ⟨gb101, 0, none⟩ = some (.int .i64 t104) ∧ w'.cell? ⟨gb101, 1, none⟩ = some (.int .i64 t105) ∧ w'.cell? ⟨gb101, 2, none⟩ = some (.int .i64 t106) ∧ w'.cell? ⟨gb101, 3, none⟩ = some (.int .i64 t107) ∧ w'.cell? ⟨gb102, 0, none⟩ = some (.int .i64 t108) ∧ w'.cell? ⟨gb102, 1, none⟩ = some (.int .i64 t109) ∧ w'.cell? ⟨gb102, 2, none⟩ = some (.int .i64 t110) ∧ w'.cell? ⟨gb102, 3, none⟩ = some (.int .i64 t111)) ∧ (Kd.R Kd.string 9 w' w.heap.size (fun _ => True) s_.1 y120) ∧ (Kd.R k44 44 w' w.heap.size (fun _ => True) v114 x9_28) ∧ (∃ c_, (s_.1 : Value) = .slice (some s_.2) y120.length c_) ∧ (w'.heap[gb101]? = some (.cells #[.int .i64 t104, .int .i64 t105, .int .i64 t106, .int .i64 t107] 26 (0, 0))) ∧ (w'.heap[gb102]? = some (.cells #[.int .i64 t108, .int .i64 t109, .int .i64 t110, .int .i64 t111] 26 (0, 0))) ∧ (Below w.heap.size w w')) ?_ ?_
           rotate_left
           ·intro hJ2_4
            refine join_ (σ := Value × Addr × Nat) 5 #[true, true, true, true, false, false, false, false, true, false] (fun s_ => [(48, s_.1), (10, .pointer (some ⟨s_.2.2, 0, none⟩))]) (fun s_ w' => (w'.cell? ⟨gb101, 0, none⟩ = some (.int .i64 t104) ∧ w'.cell? ⟨gb101, 1, none⟩ = some (.int .i64 t105) ∧ w'.cell? ⟨gb101, 2, none⟩ = some (.int .i64 t106) ∧ w'.cell? ⟨gb101, 3, none⟩ = some (.int .i64 t107) ∧ w'.cell? ⟨gb102, 0, none⟩ = some (.int .i64 t108) ∧ w'.cell? ⟨gb102, 1, none⟩ = some (.int .i64 t109) ∧ w'.cell? ⟨gb102, 2, none⟩ = some (.int .i64 t110) ∧ w'.cell? ⟨gb102, 3, none⟩ = some (.int .i64 t111)) ∧ (Kd.R Kd.string 9 w' w.heap.size (fun _ => True) s_.1 y120) ∧ (Kd.R k44 44 w' w.heap.size (fun _ => True) v114 x9_28) ∧ (∃ c_, (s_.1 : Value) = .slice (some s_.2.1) y120.length c_) ∧ (w'.heap[gb101]? = some (.cells #[.int .i64 t104, .int .i64 t105, .int .i64 t106, .int .i64 t107] 26 (0, 0))) ∧ (w'.heap[gb102]? = some (.cells #[.int .i64 t108, .int .i64 t109, .int .i64 t110, .int .i64 t111] 26 (0, 0))) ∧ (w'.heap[s_.2.2]? = some (.cells #[.string ⟨#[]⟩, .int .i64 0, .int .i64 0, .int .i64 0, .int .i64 0, .string ⟨#[]⟩, .int .i64 0, .int .i64 0, .int .i64 0, .int .i64 0, .string ⟨#[]⟩] 28 (0, 0))) ∧ (w.heap.size ≤ s_.2.2) ∧ (w.heap.size ≤ s_.2.2) ∧ (gb101 ≠ s_.2.2) ∧ (s_.2.2 ≠ gb101) ∧ (gb102 ≠ s_.2.2) ∧ (s_.2.2 ≠ gb102) ∧ (Below w.heap.size w w')) ?_ ?_
            rotate_left
            ·intro hJ2_8
             refine join_ (σ := Nat) 5 #[true, true, false, true, true, false, false, false, true, false] (fun s_ => [(50, .int .i64 t123), (10, .pointer (some ⟨s_, 0, none⟩))]) (fun s_ w' => (w'.cell? ⟨gb101, 0, none⟩ = some (.int .i64 t104) ∧ w'.cell? ⟨gb101, 1, none⟩ = some (.int .i64 t105) ∧ w'.cell? ⟨gb101, 2, none⟩ = some (.int .i64 t106) ∧ w'.cell? ⟨gb101, 3, none⟩ = some (.int .i64 t107) ∧ w'.cell? ⟨gb102, 0, none⟩ = some (.int .i64 t108) ∧ w'.cell? ⟨gb102, 1, none⟩ = some (.int .i64 t109) ∧ w'.cell? ⟨gb102, 2, none⟩ = some (.int .i64 t110) ∧ w'.cell? ⟨gb102, 3, none⟩ = some (.int .i64 t111)) ∧ (Kd.R k44 44 w' w.heap.size (fun _ => True) v114 x9_28) ∧ (w'.heap[gb101]? = some (.cells #[.int .i64 t104, .int .i64 t105, .int .i64 t106, .int .i64 t107] 26 (0, 0))) ∧ (w'.heap[gb102]? = some (.cells #[.int .i64 t108, .int .i64 t109, .int .i64 t110, .int .i64 t111] 26 (0, 0))) ∧ (w'.heap[s_]? = some (.cells #[.string ⟨#[]⟩, .int .i64 0, .int .i64 0, .int .i64 0, .int .i64 0, .string ⟨#[]⟩, .int .i64 0, .int .i64 0, .int .i64 0, .int .i64 0, .string ⟨#[]⟩] 28 (0, 0))) ∧ (w.heap.size ≤ s_) ∧ (w.heap.size ≤ s_) ∧ (gb101 ≠ s_) ∧ (s_ ≠ gb101) ∧ (gb102 ≠ s_) ∧ (s_ ≠ gb102) ∧ (Below w.heap.size w w')) ?_ ?_
             rotate_left
             ·intro hJ4_8
              refine join_ (σ := Value × Addr) 6 #[true, true, true, true, false, false, false, false, false, false] (fun s_ => [(48, s_.1)]) (fun s_ w' => (w'.cell? ⟨gb101, 0, none⟩ = some (.int .i64 t104) ∧ w'.cell? ⟨gb101, 1, none⟩ = some (.int .i64 t105) ∧ w'.cell? ⟨gb101, 2, none⟩ = some (.int .i64 t106) ∧ w'.cell? ⟨gb101, 3, none⟩ = some (.int .i64 t107) ∧ w'.cell? ⟨gb102, 0, none⟩ = some (.int .i64 t108) ∧ w'.cell? ⟨gb102, 1, none⟩ = some (.int .i64 t109) ∧ w'.cell? ⟨gb102, 2, none⟩ = some (.int .i64 t110) ∧ w'.cell? ⟨gb102, 3, none⟩ = some (.int .i64 t111)) ∧ (Kd.R Kd.string 9 w' w.heap.size (fun _ => True) s_.1 y120) ∧ (Kd.R k44 44 w' w.heap.size (fun _ => True) v114 x9_28) ∧ (∃ c_, (s_.1 : Value) = .slice (some s_.2) y120.length c_) ∧ (w'.heap[gb101]? = some (.cells #[.int .i64 t104, .int .i64 t105, .int .i64 t106, .int .i64 t107] 26 (0, 0))) ∧ (w'.heap[gb102]? = some (.cells #[.int .i64 t108, .int .i64 t109, .int .i64 t110, .int .i64 t111] 26 (0, 0))) ∧ (Below w.heap.size w w')) ?_ ?_
              rotate_left
              ·intro hJ2
               refine join_ (σ := Unit) 6 #[true, true, false, true, true, false, false, false, false, false] (fun s_ => [(50, .int .i64 t123)]) (fun s_ w' => (w'.cell? ⟨gb101, 0, none⟩ = some (.int .i64 t104) ∧ w'.cell? ⟨gb101, 1, none⟩ = some (.int .i64 t105) ∧ w'.cell? ⟨gb101, 2, none⟩ = some (.int .i64 t106) ∧ w'.cell? ⟨gb101, 3, none⟩ = some (.int .i64 t107) ∧ w'.cell? ⟨gb102, 0, none⟩ = some (.int .i64 t108) ∧ w'.cell? ⟨gb102, 1, none⟩ = some (.int .i64 t109) ∧ w'.cell? ⟨gb102, 2, none⟩ = some (.int .i64 t110) ∧ w'.cell? ⟨gb102, 3, none⟩ = some (.int .i64 t111)) ∧ (Kd.R k44 44 w' w.heap.size (fun _ => True) v114 x9_28) ∧ (w'.heap[gb101]? = some (.cells #[.int .i64 t104, .int .i64 t105, .int .i64 t106, .int .i64 t107] 26 (0, 0))) ∧ (w'.heap[gb102]? = some (.cells #[.int .i64 t108, .int .i64 t109, .int .i64 t110, .int .i64 t111] 26 (0, 0))) ∧ (Below w.heap.size w w')) ?_ ?_
               rotate_left
               ·intro hJ4
                refine join_ (σ := Nat) 6 #[true, true, false, true, false, false, false, false, true, false] (fun s_ => [(10, .pointer (some ⟨s_, 0, none⟩))]) (fun s_ w' => (w'.cell? ⟨gb101, 0, none⟩ = some (.int .i64 t104) ∧ w'.cell? ⟨gb101, 1, none⟩ = some (.int .i64 t105) ∧ w'.cell? ⟨gb101, 2, none⟩ = some (.int .i64 t106) ∧ w'.cell? ⟨gb101, 3, none⟩ = some (.int .i64 t107) ∧ w'.cell? ⟨gb102, 0, none⟩ = some (.int .i64 t108) ∧ w'.cell? ⟨gb102, 1, none⟩ = some (.int .i64 t109) ∧ w'.cell? ⟨gb102, 2, none⟩ = some (.int .i64 t110) ∧ w'.cell? ⟨gb102, 3, none⟩ = some (.int .i64 t111)) ∧ (Kd.R k44 44 w' w.heap.size (fun _ => True) v114 x9_28) ∧ (w'.heap[gb101]? = some (.cells #[.int .i64 t104, .int .i64 t105, .int .i64 t106, .int .i64 t107] 26 (0, 0))) ∧ (w'.heap[gb102]? = some (.cells #[.int .i64 t108, .int .i64 t109, .int .i64 t110, .int .i64 t111] 26 (0, 0))) ∧ (w'.heap[s_]? = some (.cells #[.string ⟨#[]⟩, .int .i64 0, .int .i64 0, .int .i64 0, .int .i64 0, .string ⟨#[]⟩, .int .i64 0, .int .i64 0, .int .i64 0, .int .i64 0, .string ⟨#[]⟩] 28 (0, 0))) ∧ (w.heap.size ≤ s_) ∧ (w.heap.size ≤ s_) ∧ (gb101 ≠ s_) ∧ (s_ ≠ gb101) ∧ (gb102 ≠ s_) ∧ (s_ ≠ gb102) ∧ (Below w.heap.size w w')) ?_ ?_
                rotate_left
                ·intro hJ8
                 refine three_ (i := 2) (j := 4) (k := 8) (Ni := some 48) (Nj := some 50) (Nk := some 10) #[true, true, true, true, false, false, false, false, false, false] #[true, true, false, true, true, false, false, false, false, false] #[true, true, false, true, false, false, false, false, true, false] rfl rfl rfl rfl rfl rfl (three_of HT_.out (by kernel_rfl)) (by decide) (by decide) (by decide) (fun K hK => ?_) (fun K hK => ?_) (fun K hK => ?_)
                 ·skip
                  refine Kd.R_lit_step Kd.string _ 9 ?hg (N := 48) ?hd (xs := ([(⟨#[111, 110, 101]⟩ : ByteArray), (⟨#[116, 119, 111]⟩ : ByteArray), (⟨#[116, 104, 114, 101, 101]⟩ : ByteArray)] : List ByteArray)) (inner := [.string ⟨#[111, 110, 101]⟩, .string ⟨#[116, 119, 111]⟩, .string ⟨#[116, 104, 114, 101, 101]⟩]) (ok := fun _ => True) (okp := fun _ => True) ?hr ?hp (fun _ hk => hk) trivial (Below.refl _ _) (Nat.le_refl _) (by simp) ?_; (case hd => rfl); (case hg => rfl); (case hr => first | (go_simp; done) | (go_simp; rfl)); (case hp => exact (Reps.one (show Kd.M Kd.string _ _ _ (⟨#[111, 110, 101]⟩ : ByteArray) [.string ⟨#[111, 110, 101]⟩] from rfl) (Reps.one (show Kd.M Kd.string _ _ _ (⟨#[116, 119, 111]⟩ : ByteArray) [.string ⟨#[116, 119, 111]⟩] from rfl) (Reps.one (show Kd.M Kd.string _ _ _ (⟨#[116, 104, 114, 101, 101]⟩ : ByteArray) [.string ⟨#[116, 104, 114, 101, 101]⟩] from rfl) (Reps.none _ _)))))
                  intro v121 w69 ho70 hb hg_ hnew_
                  clear hg_ hnew_
                  (first | rw [← Ny120.out] at ho70 | (simp only [Int.reduceToNat] at ho70; rw [← Ny120.out] at ho70))
                  have n0_ := Aside0.mk (Kd.R_below (by (with_reducible repeat (first | apply Kd.R_alloc | apply Kd.R_drewN | apply Kd.R_drew)); exact HO_9.out) hb)
                  have n1_ := Aside0.mk (Kd.R_lower ho70 (below_size (by repeat (first | (with_reducible first | exact HB.out | apply below_alloc | apply pw_below_drewN | apply below_drew1 | refine below_set ?_ GE101.out | refine below_set ?_ GE102.out) | exact HB.out))))
                  have n2_ := Aside0.mk (blk_below (g := gb101) (o := .cells #[.int .i64 t104, .int .i64 t105, .int .i64 t106, .int .i64 t107] 26 (0, 0)) (by (with_reducible repeat (first | refine blk_drewN ?_ _ | refine blk_drew ?_ | refine blk_alloc ?_ _)); exact BK101.out) hb)
                  have n3_ := Aside0.mk (blk_below (g := gb102) (o := .cells #[.int .i64 t108, .int .i64 t109, .int .i64 t110, .int .i64 t111] 26 (0, 0)) (by (with_reducible repeat (first | refine blk_drewN ?_ _ | refine blk_drew ?_ | refine blk_alloc ?_ _)); exact BK102.out) hb)
                  have n4_ := Aside0.mk (below_step (by repeat (first | (with_reducible first | exact HB.out | apply below_alloc | apply pw_below_drewN | apply below_drew1 | refine below_set ?_ GE101.out | refine below_set ?_ GE102.out) | exact HB.out)) hb)
                  clear HO_9 BK101 BK102 HB
                  have HO_9 := n0_; have HO122 := n1_; have BK101 := n2_; have BK102 := n3_; have HB := n4_
                  clear n0_ n1_ n2_ n3_ n4_
                  clear hb ho70
                  obtain ⟨Ao71, co71, eo71⟩ := Kd.R_slice HO122.out
                  subst eo71
                  obtain ⟨ado71, fo71, _⟩ := Kd.at_string (Kd.R_reads' HO122.out).2.2 0 (by decide) (by rw [Ny120.out]; simp)
                  cases fo71
                  refine hK.out _ _ ⟨(blk_cell BK101.out 0).trans rfl, (blk_cell BK101.out 1).trans rfl, (blk_cell BK101.out 2).trans rfl, (blk_cell BK101.out 3).trans rfl, (blk_cell BK102.out 0).trans rfl, (blk_cell BK102.out 1).trans rfl, (blk_cell BK102.out 2).trans rfl, (blk_cell BK102.out 3).trans rfl⟩ (fun hHeld => ?_)
                  clear hK K
                  refine norm_ (a' := ?_) ?_ ?_
                  rotate_left
                  ·show Act.put _ (some 48) _ = _
                   simp only [Act.put, xset_a, xset_z, xset_s, i64_w, i32_w]
                   rfl
                  exact norm_ (by simp only [putAll, Act.put, xset_a, xset_z, xset_s] <;> rfl) (hJ2 (.slice (some ado71) y120.length co71, ado71) _ ⟨hHeld, (by (with_reducible repeat (first | apply Kd.R_alloc | apply Kd.R_drewN | apply Kd.R_drew)); exact HO122.out), (by (with_reducible repeat (first | apply Kd.R_alloc | apply Kd.R_drewN | apply Kd.R_drew)); exact HO_9.out), ⟨_, rfl⟩, (by (with_reducible repeat (first | refine blk_drewN ?_ _ | refine blk_drew ?_ | refine blk_alloc ?_ _)); exact BK101.out), (by (with_reducible repeat (first | refine blk_drewN ?_ _ | refine blk_drew ?_ | refine blk_alloc ?_ _)); exact BK102.out), (by repeat (first | (with_reducible first | exact HB.out | apply below_alloc | apply pw_below_drewN | apply below_drew1 | refine below_set ?_ GE101.out | refine below_set ?_ GE102.out) | exact HB.out))⟩)
                 ·skip
                  refine goes_ Try.func10 (by kernel_rfl) rfl #[.int .i64 a3, .int .i64 3] (by rfl) rfl rfl (by (try simp only [List.map_toArray, List.map_cons, List.map_nil]); first | done | rfl | (simp only [List.length_drop, List.length_take]; rfl)) ?_
                  with_reducible refine (donjonlaw18_within.calls a3 3 t123 _ A61.out).mono ?_
                  rintro e w' ⟨rfl, ⟨nd, rfl⟩⟩
                  refine ⟨_, rfl, ?_⟩
                  refine hK.out _ _ ⟨(blk_cell BK101.out 0).trans rfl, (blk_cell BK101.out 1).trans rfl, (blk_cell BK101.out 2).trans rfl, (blk_cell BK101.out 3).trans rfl, (blk_cell BK102.out 0).trans rfl, (blk_cell BK102.out 1).trans rfl, (blk_cell BK102.out 2).trans rfl, (blk_cell BK102.out 3).trans rfl⟩ (fun hHeld => ?_)
                  clear hK K
                  refine norm_ (a' := ?_) ?_ ?_
                  rotate_left
                  ·show Act.put _ (some 50) _ = _
                   simp only [Act.put, xset_a, xset_z, xset_s, i64_w, i32_w]
                   rfl
                  exact norm_ (by simp only [putAll, Act.put, xset_a, xset_z, xset_s] <;> rfl) (hJ4 () _ ⟨hHeld, (by (with_reducible repeat (first | apply Kd.R_alloc | apply Kd.R_drewN | apply Kd.R_drew)); exact HO_9.out), (by (with_reducible repeat (first | refine blk_drewN ?_ _ | refine blk_drew ?_ | refine blk_alloc ?_ _)); exact BK101.out), (by (with_reducible repeat (first | refine blk_drewN ?_ _ | refine blk_drew ?_ | refine blk_alloc ?_ _)); exact BK102.out), (by repeat (first | (with_reducible first | exact HB.out | apply below_alloc | apply pw_below_drewN | apply below_drew1 | refine below_set ?_ GE101.out | refine below_set ?_ GE102.out) | exact HB.out))⟩)
                 ·skip
                  refine box_step ?hg (N := 10) ?hd (cs := #[.string ⟨#[]⟩, .int .i64 0, .int .i64 0, .int .i64 0, .int .i64 0, .string ⟨#[]⟩, .int .i64 0, .int .i64 0, .int .i64 0, .int .i64 0, .string ⟨#[]⟩]) (t := 28) ?hr ?_; (case hd => rfl); (case hg => rfl); (case hr => first | (go_simp; done) | (go_simp; rfl))
                  intro gb125 hg w69 hbox hb
                  have n0_ := Aside0.mk (Kd.R_below (by (with_reducible repeat (first | apply Kd.R_alloc | apply Kd.R_drewN | apply Kd.R_drew)); exact HO_9.out) hb)
                  have n1_ := Aside0.mk (blk_below (g := gb101) (o := .cells #[.int .i64 t104, .int .i64 t105, .int .i64 t106, .int .i64 t107] 26 (0, 0)) (by (with_reducible repeat (first | refine blk_drewN ?_ _ | refine blk_drew ?_ | refine blk_alloc ?_ _)); exact BK101.out) hb)
                  have n2_ := Aside0.mk (blk_below (g := gb102) (o := .cells #[.int .i64 t108, .int .i64 t109, .int .i64 t110, .int .i64 t111] 26 (0, 0)) (by (with_reducible repeat (first | refine blk_drewN ?_ _ | refine blk_drew ?_ | refine blk_alloc ?_ _)); exact BK102.out) hb)
                  have n3_ := Aside0.mk (below_step (by repeat (first | (with_reducible first | exact HB.out | apply below_alloc | apply pw_below_drewN | apply below_drew1 | refine below_set ?_ GE101.out | refine below_set ?_ GE102.out) | exact HB.out)) hb)
                  have n4_ := Aside0.mk (hbox)
                  have n5_ := Aside0.mk ((by rw [hg]; exact (below_size (by repeat (first | (with_reducible first | exact HB.out | apply below_alloc | apply pw_below_drewN | apply below_drew1 | refine below_set ?_ GE101.out | refine below_set ?_ GE102.out) | exact HB.out))) : w.heap.size ≤ gb125))
                  have n6_ := Aside0.mk ((by rw [hg]; exact (below_size (by repeat (first | (with_reducible first | exact HB.out | apply below_alloc | apply pw_below_drewN | apply below_drew1 | refine below_set ?_ GE101.out | refine below_set ?_ GE102.out) | exact HB.out))) : w.heap.size ≤ gb125))
                  have n7_ := Aside0.mk ((by rw [hg]; exact Nat.ne_of_lt (blk_lt (g := gb101) (o := .cells #[.int .i64 t104, .int .i64 t105, .int .i64 t106, .int .i64 t107] 26 (0, 0)) (by (with_reducible repeat (first | refine blk_drewN ?_ _ | refine blk_drew ?_ | refine blk_alloc ?_ _)); exact BK101.out)) : gb101 ≠ gb125))
                  have n8_ := Aside0.mk ((by rw [hg]; exact Nat.ne_of_gt (blk_lt (g := gb101) (o := .cells #[.int .i64 t104, .int .i64 t105, .int .i64 t106, .int .i64 t107] 26 (0, 0)) (by (with_reducible repeat (first | refine blk_drewN ?_ _ | refine blk_drew ?_ | refine blk_alloc ?_ _)); exact BK101.out)) : gb125 ≠ gb101))
                  have n9_ := Aside0.mk ((by rw [hg]; exact Nat.ne_of_lt (blk_lt (g := gb102) (o := .cells #[.int .i64 t108, .int .i64 t109, .int .i64 t110, .int .i64 t111] 26 (0, 0)) (by (with_reducible repeat (first | refine blk_drewN ?_ _ | refine blk_drew ?_ | refine blk_alloc ?_ _)); exact BK102.out)) : gb102 ≠ gb125))
                  have n10_ := Aside0.mk ((by rw [hg]; exact Nat.ne_of_gt (blk_lt (g := gb102) (o := .cells #[.int .i64 t108, .int .i64 t109, .int .i64 t110, .int .i64 t111] 26 (0, 0)) (by (with_reducible repeat (first | refine blk_drewN ?_ _ | refine blk_drew ?_ | refine blk_alloc ?_ _)); exact BK102.out)) : gb125 ≠ gb102))
                  clear HO_9 BK101 BK102 HB
                  have HO_9 := n0_; have BK101 := n1_; have BK102 := n2_; have HB := n3_; have BK125 := n4_; have GW125 := n5_; have GE125 := n6_; have NB101_125 := n7_; have NB125_101 := n8_; have NB102_125 := n9_; have NB125_102 := n10_
                  clear n0_ n1_ n2_ n3_ n4_ n5_ n6_ n7_ n8_ n9_ n10_
                  clear hb hbox hg
                  refine hK.out _ _ ⟨(blk_cell BK101.out 0).trans rfl, (blk_cell BK101.out 1).trans rfl, (blk_cell BK101.out 2).trans rfl, (blk_cell BK101.out 3).trans rfl, (blk_cell BK102.out 0).trans rfl, (blk_cell BK102.out 1).trans rfl, (blk_cell BK102.out 2).trans rfl, (blk_cell BK102.out 3).trans rfl⟩ (fun hHeld => ?_)
                  clear hK K
                  refine norm_ (a' := ?_) ?_ ?_
                  rotate_left
                  ·show Act.put _ (some 10) _ = _
                   simp only [Act.put, xset_a, xset_z, xset_s, i64_w, i32_w]
                   rfl
                  exact norm_ (by simp only [putAll, Act.put, xset_a, xset_z, xset_s] <;> rfl) (hJ8 (gb125) _ ⟨hHeld, (by (with_reducible repeat (first | apply Kd.R_alloc | apply Kd.R_drewN | apply Kd.R_drew)); exact HO_9.out), (by (with_reducible repeat (first | refine blk_drewN ?_ _ | refine blk_drew ?_ | refine blk_alloc ?_ _)); exact BK101.out), (by (with_reducible repeat (first | refine blk_drewN ?_ _ | refine blk_drew ?_ | refine blk_alloc ?_ _)); exact BK102.out), (by (with_reducible repeat (first | refine blk_drewN ?_ _ | refine blk_drew ?_ | refine blk_alloc ?_ _)); exact BK125.out), GW125.out, GE125.out, NB101_125.out, NB125_101.out, NB102_125.out, NB125_102.out, (by repeat (first | (with_reducible first | exact HB.out | apply below_alloc | apply pw_below_drewN | apply below_drew1 | refine below_set ?_ GE101.out | refine below_set ?_ GE102.out | refine below_set ?_ GE125.out) | exact HB.out))⟩)
                ·skip
                 rintro gb125 w70 ⟨hS_, h0_, h1_, h2_, h3_, h4_, h5_, h6_, h7_, h8_, h9_, h10_⟩
                 have n0_ : Aside0 (Kd.R k44 44 w70 w.heap.size (fun _ => True) v114 x9_28) := ⟨h0_⟩
                 have n1_ : Aside0 (w70.heap[gb101]? = some (.cells #[.int .i64 t104, .int .i64 t105, .int .i64 t106, .int .i64 t107] 26 (0, 0))) := ⟨h1_⟩
                 have n2_ : Aside0 (w70.heap[gb102]? = some (.cells #[.int .i64 t108, .int .i64 t109, .int .i64 t110, .int .i64 t111] 26 (0, 0))) := ⟨h2_⟩
                 have n3_ : Aside0 (w70.heap[gb125]? = some (.cells #[.string ⟨#[]⟩, .int .i64 0, .int .i64 0, .int .i64 0, .int .i64 0, .string ⟨#[]⟩, .int .i64 0, .int .i64 0, .int .i64 0, .int .i64 0, .string ⟨#[]⟩] 28 (0, 0))) := ⟨h3_⟩
                 have n4_ : Aside0 (w.heap.size ≤ gb125) := ⟨h4_⟩
                 have n5_ : Aside0 (w.heap.size ≤ gb125) := ⟨h5_⟩
                 have n6_ : Aside0 (gb101 ≠ gb125) := ⟨h6_⟩
                 have n7_ : Aside0 (gb125 ≠ gb101) := ⟨h7_⟩
                 have n8_ : Aside0 (gb102 ≠ gb125) := ⟨h8_⟩
                 have n9_ : Aside0 (gb125 ≠ gb102) := ⟨h9_⟩
                 have n10_ : Aside0 (Below w.heap.size w w70) := ⟨h10_⟩
                 clear HO_9 BK101 BK102 HB
                 clear h0_ h1_ h2_ h3_ h4_ h5_ h6_ h7_ h8_ h9_ h10_
                 have HO_9 := n0_; have BK101 := n1_; have BK102 := n2_; have BK125 := n3_; have GW125 := n4_; have GE125 := n5_; have NB101_125 := n6_; have NB125_101 := n7_; have NB102_125 := n8_; have NB125_102 := n9_; have HB := n10_
                 clear n0_ n1_ n2_ n3_ n4_ n5_ n6_ n7_ n8_ n9_ n10_
                 have hHeld : w70.cell? ⟨gb101, 0, none⟩ = some (.int .i64 t104) ∧ w70.cell? ⟨gb101, 1, none⟩ = some (.int .i64 t105) ∧ w70.cell? ⟨gb101, 2, none⟩ = some (.int .i64 t106) ∧ w70.cell? ⟨gb101, 3, none⟩ = some (.int .i64 t107) ∧ w70.cell? ⟨gb102, 0, none⟩ = some (.int .i64 t108) ∧ w70.cell? ⟨gb102, 1, none⟩ = some (.int .i64 t109) ∧ w70.cell? ⟨gb102, 2, none⟩ = some (.int .i64 t110) ∧ w70.cell? ⟨gb102, 3, none⟩ = some (.int .i64 t111) := hS_
                 refine norm_ (a' := ?_) ?_ ?_
                 rotate_left
                 ·simp only [putAll, Act.put, xset_a, xset_z, xset_s]
                  rfl
                 refine two_ (i := 2) (j := 4) (Ni := some 48) (Nj := some 50) #[true, true, true, true, false, false, false, false, true, false] #[true, true, false, true, true, false, false, false, true, false] rfl rfl rfl rfl (two_of HT_.out (by kernel_rfl)) (by decide) (by decide) (fun K hK => ?_) (fun K hK => ?_)
                 ·skip
                  refine Kd.R_lit_step Kd.string _ 9 ?hg (N := 48) ?hd (xs := ([(⟨#[111, 110, 101]⟩ : ByteArray), (⟨#[116, 119, 111]⟩ : ByteArray), (⟨#[116, 104, 114, 101, 101]⟩ : ByteArray)] : List ByteArray)) (inner := [.string ⟨#[111, 110, 101]⟩, .string ⟨#[116, 119, 111]⟩, .string ⟨#[116, 104, 114, 101, 101]⟩]) (ok := fun _ => True) (okp := fun _ => True) ?hr ?hp (fun _ hk => hk) trivial (Below.refl _ _) (Nat.le_refl _) (by simp) ?_; (case hd => rfl); (case hg => rfl); (case hr => first | (go_simp; done) | (go_simp; rfl)); (case hp => exact (Reps.one (show Kd.M Kd.string _ _ _ (⟨#[111, 110, 101]⟩ : ByteArray) [.string ⟨#[111, 110, 101]⟩] from rfl) (Reps.one (show Kd.M Kd.string _ _ _ (⟨#[116, 119, 111]⟩ : ByteArray) [.string ⟨#[116, 119, 111]⟩] from rfl) (Reps.one (show Kd.M Kd.string _ _ _ (⟨#[116, 104, 114, 101, 101]⟩ : ByteArray) [.string ⟨#[116, 104, 114, 101, 101]⟩] from rfl) (Reps.none _ _)))))
                  intro v121 w71 ho72 hb hg_ hnew_
                  clear hg_ hnew_
                  (first | rw [← Ny120.out] at ho72 | (simp only [Int.reduceToNat] at ho72; rw [← Ny120.out] at ho72))
                  have n0_ := Aside0.mk (Kd.R_below (by (with_reducible repeat (first | apply Kd.R_alloc | apply Kd.R_drewN | apply Kd.R_drew)); exact HO_9.out) hb)
                  have n1_ := Aside0.mk (Kd.R_lower ho72 (below_size (by repeat (first | (with_reducible first | exact HB.out | apply below_alloc | apply pw_below_drewN | apply below_drew1 | refine below_set ?_ GE101.out | refine below_set ?_ GE102.out | refine below_set ?_ GE125.out) | exact HB.out))))
                  have n2_ := Aside0.mk (blk_below (g := gb101) (o := .cells #[.int .i64 t104, .int .i64 t105, .int .i64 t106, .int .i64 t107] 26 (0, 0)) (by (with_reducible repeat (first | refine blk_drewN ?_ _ | refine blk_drew ?_ | refine blk_alloc ?_ _)); exact BK101.out) hb)
                  have n3_ := Aside0.mk (blk_below (g := gb102) (o := .cells #[.int .i64 t108, .int .i64 t109, .int .i64 t110, .int .i64 t111] 26 (0, 0)) (by (with_reducible repeat (first | refine blk_drewN ?_ _ | refine blk_drew ?_ | refine blk_alloc ?_ _)); exact BK102.out) hb)
                  have n4_ := Aside0.mk (blk_below (g := gb125) (o := .cells #[.string ⟨#[]⟩, .int .i64 0, .int .i64 0, .int .i64 0, .int .i64 0, .string ⟨#[]⟩, .int .i64 0, .int .i64 0, .int .i64 0, .int .i64 0, .string ⟨#[]⟩] 28 (0, 0)) (by (with_reducible repeat (first | refine blk_drewN ?_ _ | refine blk_drew ?_ | refine blk_alloc ?_ _)); exact BK125.out) hb)
                  have n5_ := Aside0.mk (below_step (by repeat (first | (with_reducible first | exact HB.out | apply below_alloc | apply pw_below_drewN | apply below_drew1 | refine below_set ?_ GE101.out | refine below_set ?_ GE102.out | refine below_set ?_ GE125.out) | exact HB.out)) hb)
                  clear HO_9 BK101 BK102 BK125 HB
                  have HO_9 := n0_; have HO122 := n1_; have BK101 := n2_; have BK102 := n3_; have BK125 := n4_; have HB := n5_
                  clear n0_ n1_ n2_ n3_ n4_ n5_
                  clear hb ho72
                  obtain ⟨Ao73, co73, eo73⟩ := Kd.R_slice HO122.out
                  subst eo73
                  obtain ⟨ado73, fo73, _⟩ := Kd.at_string (Kd.R_reads' HO122.out).2.2 0 (by decide) (by rw [Ny120.out]; simp)
                  cases fo73
                  refine hK.out _ _ ⟨(blk_cell BK101.out 0).trans rfl, (blk_cell BK101.out 1).trans rfl, (blk_cell BK101.out 2).trans rfl, (blk_cell BK101.out 3).trans rfl, (blk_cell BK102.out 0).trans rfl, (blk_cell BK102.out 1).trans rfl, (blk_cell BK102.out 2).trans rfl, (blk_cell BK102.out 3).trans rfl⟩ (fun hHeld => ?_)
                  clear hK K
                  refine norm_ (a' := ?_) ?_ ?_
                  rotate_left
                  ·show Act.put _ (some 48) _ = _
                   simp only [Act.put, xset_a, xset_z, xset_s, i64_w, i32_w]
                   rfl
                  exact norm_ (by simp only [putAll, Act.put, xset_a, xset_z, xset_s] <;> rfl) (hJ2_8 (.slice (some ado73) y120.length co73, ado73, gb125) _ ⟨hHeld, (by (with_reducible repeat (first | apply Kd.R_alloc | apply Kd.R_drewN | apply Kd.R_drew)); exact HO122.out), (by (with_reducible repeat (first | apply Kd.R_alloc | apply Kd.R_drewN | apply Kd.R_drew)); exact HO_9.out), ⟨_, rfl⟩, (by (with_reducible repeat (first | refine blk_drewN ?_ _ | refine blk_drew ?_ | refine blk_alloc ?_ _)); exact BK101.out), (by (with_reducible repeat (first | refine blk_drewN ?_ _ | refine blk_drew ?_ | refine blk_alloc ?_ _)); exact BK102.out), (by (with_reducible repeat (first | refine blk_drewN ?_ _ | refine blk_drew ?_ | refine blk_alloc ?_ _)); exact BK125.out), GW125.out, GE125.out, NB101_125.out, NB125_101.out, NB102_125.out, NB125_102.out, (by repeat (first | (with_reducible first | exact HB.out | apply below_alloc | apply pw_below_drewN | apply below_drew1 | refine below_set ?_ GE101.out | refine below_set ?_ GE102.out | refine below_set ?_ GE125.out) | exact HB.out))⟩)
                 ·skip
                  refine goes_ Try.func10 (by kernel_rfl) rfl #[.int .i64 a3, .int .i64 3] (by rfl) rfl rfl (by (try simp only [List.map_toArray, List.map_cons, List.map_nil]); first | done | rfl | (simp only [List.length_drop, List.length_take]; rfl)) ?_
                  with_reducible refine (donjonlaw18_within.calls a3 3 t123 _ A61.out).mono ?_
                  rintro e w' ⟨rfl, ⟨nd, rfl⟩⟩
                  refine ⟨_, rfl, ?_⟩
                  refine hK.out _ _ ⟨(blk_cell BK101.out 0).trans rfl, (blk_cell BK101.out 1).trans rfl, (blk_cell BK101.out 2).trans rfl, (blk_cell BK101.out 3).trans rfl, (blk_cell BK102.out 0).trans rfl, (blk_cell BK102.out 1).trans rfl, (blk_cell BK102.out 2).trans rfl, (blk_cell BK102.out 3).trans rfl⟩ (fun hHeld => ?_)
                  clear hK K
                  refine norm_ (a' := ?_) ?_ ?_
                  rotate_left
                  ·show Act.put _ (some 50) _ = _
                   simp only [Act.put, xset_a, xset_z, xset_s, i64_w, i32_w]
                   rfl
                  exact norm_ (by simp only [putAll, Act.put, xset_a, xset_z, xset_s] <;> rfl) (hJ4_8 (gb125) _ ⟨hHeld, (by (with_reducible repeat (first | apply Kd.R_alloc | apply Kd.R_drewN | apply Kd.R_drew)); exact HO_9.out), (by (with_reducible repeat (first | refine blk_drewN ?_ _ | refine blk_drew ?_ | refine blk_alloc ?_ _)); exact BK101.out), (by (with_reducible repeat (first | refine blk_drewN ?_ _ | refine blk_drew ?_ | refine blk_alloc ?_ _)); exact BK102.out), (by (with_reducible repeat (first | refine blk_drewN ?_ _ | refine blk_drew ?_ | refine blk_alloc ?_ _)); exact BK125.out), GW125.out, GE125.out, NB101_125.out, NB125_101.out, NB102_125.out, NB125_102.out, (by repeat (first | (with_reducible first | exact HB.out | apply below_alloc | apply pw_below_drewN | apply below_drew1 | refine below_set ?_ GE101.out | refine below_set ?_ GE102.out | refine below_set ?_ GE125.out) | exact HB.out))⟩)
               ·skip
                rintro _ w69 ⟨hS_, h0_, h1_, h2_, h3_⟩
                have n0_ : Aside0 (Kd.R k44 44 w69 w.heap.size (fun _ => True) v114 x9_28) := ⟨h0_⟩
                have n1_ : Aside0 (w69.heap[gb101]? = some (.cells #[.int .i64 t104, .int .i64 t105, .int .i64 t106, .int .i64 t107] 26 (0, 0))) := ⟨h1_⟩
                have n2_ : Aside0 (w69.heap[gb102]? = some (.cells #[.int .i64 t108, .int .i64 t109, .int .i64 t110, .int .i64 t111] 26 (0, 0))) := ⟨h2_⟩
                have n3_ : Aside0 (Below w.heap.size w w69) := ⟨h3_⟩
                clear HO_9 BK101 BK102 HB
                clear h0_ h1_ h2_ h3_
                have HO_9 := n0_; have BK101 := n1_; have BK102 := n2_; have HB := n3_
                clear n0_ n1_ n2_ n3_
                have hHeld : w69.cell? ⟨gb101, 0, none⟩ = some (.int .i64 t104) ∧ w69.cell? ⟨gb101, 1, none⟩ = some (.int .i64 t105) ∧ w69.cell? ⟨gb101, 2, none⟩ = some (.int .i64 t106) ∧ w69.cell? ⟨gb101, 3, none⟩ = some (.int .i64 t107) ∧ w69.cell? ⟨gb102, 0, none⟩ = some (.int .i64 t108) ∧ w69.cell? ⟨gb102, 1, none⟩ = some (.int .i64 t109) ∧ w69.cell? ⟨gb102, 2, none⟩ = some (.int .i64 t110) ∧ w69.cell? ⟨gb102, 3, none⟩ = some (.int .i64 t111) := hS_
                refine norm_ (a' := ?_) ?_ ?_
                rotate_left
                ·simp only [putAll, Act.put, xset_a, xset_z, xset_s]
                 rfl
                refine two_ (i := 2) (j := 8) (Ni := some 48) (Nj := some 10) #[true, true, true, true, true, false, false, false, false, false] #[true, true, false, true, true, false, false, false, true, false] rfl rfl rfl rfl (two_of HT_.out (by kernel_rfl)) (by decide) (by decide) (fun K hK => ?_) (fun K hK => ?_)
                ·skip
                 refine Kd.R_lit_step Kd.string _ 9 ?hg (N := 48) ?hd (xs := ([(⟨#[111, 110, 101]⟩ : ByteArray), (⟨#[116, 119, 111]⟩ : ByteArray), (⟨#[116, 104, 114, 101, 101]⟩ : ByteArray)] : List ByteArray)) (inner := [.string ⟨#[111, 110, 101]⟩, .string ⟨#[116, 119, 111]⟩, .string ⟨#[116, 104, 114, 101, 101]⟩]) (ok := fun _ => True) (okp := fun _ => True) ?hr ?hp (fun _ hk => hk) trivial (Below.refl _ _) (Nat.le_refl _) (by simp) ?_; (case hd => rfl); (case hg => rfl); (case hr => first | (go_simp; done) | (go_simp; rfl)); (case hp => exact (Reps.one (show Kd.M Kd.string _ _ _ (⟨#[111, 110, 101]⟩ : ByteArray) [.string ⟨#[111, 110, 101]⟩] from rfl) (Reps.one (show Kd.M Kd.string _ _ _ (⟨#[116, 119, 111]⟩ : ByteArray) [.string ⟨#[116, 119, 111]⟩] from rfl) (Reps.one (show Kd.M Kd.string _ _ _ (⟨#[116, 104, 114, 101, 101]⟩ : ByteArray) [.string ⟨#[116, 104, 114, 101, 101]⟩] from rfl) (Reps.none _ _)))))
                 intro v121 w70 ho71 hb hg_ hnew_
                 clear hg_ hnew_
                 (first | rw [← Ny120.out] at ho71 | (simp only [Int.reduceToNat] at ho71; rw [← Ny120.out] at ho71))
                 have n0_ := Aside0.mk (Kd.R_below (by (with_reducible repeat (first | apply Kd.R_alloc | apply Kd.R_drewN | apply Kd.R_drew)); exact HO_9.out) hb)
                 have n1_ := Aside0.mk (Kd.R_lower ho71 (below_size (by repeat (first | (with_reducible first | exact HB.out | apply below_alloc | apply pw_below_drewN | apply below_drew1 | refine below_set ?_ GE101.out | refine below_set ?_ GE102.out) | exact HB.out))))
                 have n2_ := Aside0.mk (blk_below (g := gb101) (o := .cells #[.int .i64 t104, .int .i64 t105, .int .i64 t106, .int .i64 t107] 26 (0, 0)) (by (with_reducible repeat (first | refine blk_drewN ?_ _ | refine blk_drew ?_ | refine blk_alloc ?_ _)); exact BK101.out) hb)
                 have n3_ := Aside0.mk (blk_below (g := gb102) (o := .cells #[.int .i64 t108, .int .i64 t109, .int .i64 t110, .int .i64 t111] 26 (0, 0)) (by (with_reducible repeat (first | refine blk_drewN ?_ _ | refine blk_drew ?_ | refine blk_alloc ?_ _)); exact BK102.out) hb)
                 have n4_ := Aside0.mk (below_step (by repeat (first | (with_reducible first | exact HB.out | apply below_alloc | apply pw_below_drewN | apply below_drew1 | refine below_set ?_ GE101.out | refine below_set ?_ GE102.out) | exact HB.out)) hb)
                 clear HO_9 BK101 BK102 HB
                 have HO_9 := n0_; have HO122 := n1_; have BK101 := n2_; have BK102 := n3_; have HB := n4_
                 clear n0_ n1_ n2_ n3_ n4_
                 clear hb ho71
                 obtain ⟨Ao72, co72, eo72⟩ := Kd.R_slice HO122.out
                 subst eo72
                 obtain ⟨ado72, fo72, _⟩ := Kd.at_string (Kd.R_reads' HO122.out).2.2 0 (by decide) (by rw [Ny120.out]; simp)
                 cases fo72
                 refine hK.out _ _ ⟨(blk_cell BK101.out 0).trans rfl, (blk_cell BK101.out 1).trans rfl, (blk_cell BK101.out 2).trans rfl, (blk_cell BK101.out 3).trans rfl, (blk_cell BK102.out 0).trans rfl, (blk_cell BK102.out 1).trans rfl, (blk_cell BK102.out 2).trans rfl, (blk_cell BK102.out 3).trans rfl⟩ (fun hHeld => ?_)
                 clear hK K
                 refine norm_ (a' := ?_) ?_ ?_
                 rotate_left
                 ·show Act.put _ (some 48) _ = _
                  simp only [Act.put, xset_a, xset_z, xset_s, i64_w, i32_w]
                  rfl
                 refine pure_ (i := 5) (N := some 51) (v := ?_) (a' := ?_) #[true, true, true, true, true, true, false, false, false, false] rfl rfl (any_of HT_.out (by kernel_rfl)) (fun _ _ _ h => h) (Or.inl ⟨by rfl, ?_⟩) ?_ ?_
                 rotate_left
                 ·intro w'
                  go_simp
                  with_reducible rfl
                 rotate_left
                 ·simp only [Act.put, xset_a, xset_z, xset_s, i64_w, i32_w]
                  rfl
                 exact norm_ (by simp only [putAll, Act.put, xset_a, xset_z, xset_s] <;> rfl) (hJ2_4 (.slice (some ado72) y120.length co72, ado72) _ ⟨hHeld, (by (with_reducible repeat (first | apply Kd.R_alloc | apply Kd.R_drewN | apply Kd.R_drew)); exact HO122.out), (by (with_reducible repeat (first | apply Kd.R_alloc | apply Kd.R_drewN | apply Kd.R_drew)); exact HO_9.out), ⟨_, rfl⟩, (by (with_reducible repeat (first | refine blk_drewN ?_ _ | refine blk_drew ?_ | refine blk_alloc ?_ _)); exact BK101.out), (by (with_reducible repeat (first | refine blk_drewN ?_ _ | refine blk_drew ?_ | refine blk_alloc ?_ _)); exact BK102.out), (by repeat (first | (with_reducible first | exact HB.out | apply below_alloc | apply pw_below_drewN | apply below_drew1 | refine below_set ?_ GE101.out | refine below_set ?_ GE102.out) | exact HB.out))⟩)
                ·skip
                 refine box_step ?hg (N := 10) ?hd (cs := #[.string ⟨#[]⟩, .int .i64 0, .int .i64 0, .int .i64 0, .int .i64 0, .string ⟨#[]⟩, .int .i64 0, .int .i64 0, .int .i64 0, .int .i64 0, .string ⟨#[]⟩]) (t := 28) ?hr ?_; (case hd => rfl); (case hg => rfl); (case hr => first | (go_simp; done) | (go_simp; rfl))
                 intro gb125 hg w70 hbox hb
                 have n0_ := Aside0.mk (Kd.R_below (by (with_reducible repeat (first | apply Kd.R_alloc | apply Kd.R_drewN | apply Kd.R_drew)); exact HO_9.out) hb)
                 have n1_ := Aside0.mk (blk_below (g := gb101) (o := .cells #[.int .i64 t104, .int .i64 t105, .int .i64 t106, .int .i64 t107] 26 (0, 0)) (by (with_reducible repeat (first | refine blk_drewN ?_ _ | refine blk_drew ?_ | refine blk_alloc ?_ _)); exact BK101.out) hb)
                 have n2_ := Aside0.mk (blk_below (g := gb102) (o := .cells #[.int .i64 t108, .int .i64 t109, .int .i64 t110, .int .i64 t111] 26 (0, 0)) (by (with_reducible repeat (first | refine blk_drewN ?_ _ | refine blk_drew ?_ | refine blk_alloc ?_ _)); exact BK102.out) hb)
                 have n3_ := Aside0.mk (below_step (by repeat (first | (with_reducible first | exact HB.out | apply below_alloc | apply pw_below_drewN | apply below_drew1 | refine below_set ?_ GE101.out | refine below_set ?_ GE102.out) | exact HB.out)) hb)
                 have n4_ := Aside0.mk (hbox)
                 have n5_ := Aside0.mk ((by rw [hg]; exact (below_size (by repeat (first | (with_reducible first | exact HB.out | apply below_alloc | apply pw_below_drewN | apply below_drew1 | refine below_set ?_ GE101.out | refine below_set ?_ GE102.out) | exact HB.out))) : w.heap.size ≤ gb125))
                 have n6_ := Aside0.mk ((by rw [hg]; exact (below_size (by repeat (first | (with_reducible first | exact HB.out | apply below_alloc | apply pw_below_drewN | apply below_drew1 | refine below_set ?_ GE101.out | refine below_set ?_ GE102.out) | exact HB.out))) : w.heap.size ≤ gb125))
                 have n7_ := Aside0.mk ((by rw [hg]; exact Nat.ne_of_lt (blk_lt (g := gb101) (o := .cells #[.int .i64 t104, .int .i64 t105, .int .i64 t106, .int .i64 t107] 26 (0, 0)) (by (with_reducible repeat (first | refine blk_drewN ?_ _ | refine blk_drew ?_ | refine blk_alloc ?_ _)); exact BK101.out)) : gb101 ≠ gb125))
                 have n8_ := Aside0.mk ((by rw [hg]; exact Nat.ne_of_gt (blk_lt (g := gb101) (o := .cells #[.int .i64 t104, .int .i64 t105, .int .i64 t106, .int .i64 t107] 26 (0, 0)) (by (with_reducible repeat (first | refine blk_drewN ?_ _ | refine blk_drew ?_ | refine blk_alloc ?_ _)); exact BK101.out)) : gb125 ≠ gb101))
                 have n9_ := Aside0.mk ((by rw [hg]; exact Nat.ne_of_lt (blk_lt (g := gb102) (o := .cells #[.int .i64 t108, .int .i64 t109, .int .i64 t110, .int .i64 t111] 26 (0, 0)) (by (with_reducible repeat (first | refine blk_drewN ?_ _ | refine blk_drew ?_ | refine blk_alloc ?_ _)); exact BK102.out)) : gb102 ≠ gb125))
                 have n10_ := Aside0.mk ((by rw [hg]; exact Nat.ne_of_gt (blk_lt (g := gb102) (o := .cells #[.int .i64 t108, .int .i64 t109, .int .i64 t110, .int .i64 t111] 26 (0, 0)) (by (with_reducible repeat (first | refine blk_drewN ?_ _ | refine blk_drew ?_ | refine blk_alloc ?_ _)); exact BK102.out)) : gb125 ≠ gb102))
                 clear HO_9 BK101 BK102 HB
                 have HO_9 := n0_; have BK101 := n1_; have BK102 := n2_; have HB := n3_; have BK125 := n4_; have GW125 := n5_; have GE125 := n6_; have NB101_125 := n7_; have NB125_101 := n8_; have NB102_125 := n9_; have NB125_102 := n10_
                 clear n0_ n1_ n2_ n3_ n4_ n5_ n6_ n7_ n8_ n9_ n10_
                 clear hb hbox hg
                 refine hK.out _ _ ⟨(blk_cell BK101.out 0).trans rfl, (blk_cell BK101.out 1).trans rfl, (blk_cell BK101.out 2).trans rfl, (blk_cell BK101.out 3).trans rfl, (blk_cell BK102.out 0).trans rfl, (blk_cell BK102.out 1).trans rfl, (blk_cell BK102.out 2).trans rfl, (blk_cell BK102.out 3).trans rfl⟩ (fun hHeld => ?_)
                 clear hK K
                 refine norm_ (a' := ?_) ?_ ?_
                 rotate_left
                 ·show Act.put _ (some 10) _ = _
                  simp only [Act.put, xset_a, xset_z, xset_s, i64_w, i32_w]
                  rfl
                 exact norm_ (by simp only [putAll, Act.put, xset_a, xset_z, xset_s] <;> rfl) (hJ4_8 (gb125) _ ⟨hHeld, (by (with_reducible repeat (first | apply Kd.R_alloc | apply Kd.R_drewN | apply Kd.R_drew)); exact HO_9.out), (by (with_reducible repeat (first | refine blk_drewN ?_ _ | refine blk_drew ?_ | refine blk_alloc ?_ _)); exact BK101.out), (by (with_reducible repeat (first | refine blk_drewN ?_ _ | refine blk_drew ?_ | refine blk_alloc ?_ _)); exact BK102.out), (by (with_reducible repeat (first | refine blk_drewN ?_ _ | refine blk_drew ?_ | refine blk_alloc ?_ _)); exact BK125.out), GW125.out, GE125.out, NB101_125.out, NB125_101.out, NB102_125.out, NB125_102.out, (by repeat (first | (with_reducible first | exact HB.out | apply below_alloc | apply pw_below_drewN | apply below_drew1 | refine below_set ?_ GE101.out | refine below_set ?_ GE102.out | refine below_set ?_ GE125.out) | exact HB.out))⟩)
              ·skip
               rintro ⟨v121, adz_v121⟩ w72 ⟨hS_, h0_, h1_, h2_, h3_, h4_, h5_⟩
               have n0_ : Aside0 (Kd.R Kd.string 9 w72 w.heap.size (fun _ => True) v121 y120) := ⟨h0_⟩
               have n1_ : Aside0 (Kd.R k44 44 w72 w.heap.size (fun _ => True) v114 x9_28) := ⟨h1_⟩
               have n2_ : Aside0 (∃ c_, (v121 : Value) = .slice (some adz_v121) y120.length c_) := ⟨h2_⟩
               have n3_ : Aside0 (w72.heap[gb101]? = some (.cells #[.int .i64 t104, .int .i64 t105, .int .i64 t106, .int .i64 t107] 26 (0, 0))) := ⟨h3_⟩
               have n4_ : Aside0 (w72.heap[gb102]? = some (.cells #[.int .i64 t108, .int .i64 t109, .int .i64 t110, .int .i64 t111] 26 (0, 0))) := ⟨h4_⟩
               have n5_ : Aside0 (Below w.heap.size w w72) := ⟨h5_⟩
               clear HO_9 BK101 BK102 HB
               clear h0_ h1_ h2_ h3_ h4_ h5_
               have HO122 := n0_; have HO_9 := n1_; have HA_HO122 := n2_; have BK101 := n3_; have BK102 := n4_; have HB := n5_
               clear n0_ n1_ n2_ n3_ n4_ n5_
               have hHeld : w72.cell? ⟨gb101, 0, none⟩ = some (.int .i64 t104) ∧ w72.cell? ⟨gb101, 1, none⟩ = some (.int .i64 t105) ∧ w72.cell? ⟨gb101, 2, none⟩ = some (.int .i64 t106) ∧ w72.cell? ⟨gb101, 3, none⟩ = some (.int .i64 t107) ∧ w72.cell? ⟨gb102, 0, none⟩ = some (.int .i64 t108) ∧ w72.cell? ⟨gb102, 1, none⟩ = some (.int .i64 t109) ∧ w72.cell? ⟨gb102, 2, none⟩ = some (.int .i64 t110) ∧ w72.cell? ⟨gb102, 3, none⟩ = some (.int .i64 t111) := hS_
               obtain ⟨co73, eo73⟩ := HA_HO122.out
               clear HA_HO122
               subst eo73
               refine norm_ (a' := ?_) ?_ ?_
               rotate_left
               ·simp only [putAll, Act.put, xset_a, xset_z, xset_s]
                rfl
               refine two_ (i := 4) (j := 8) (Ni := some 50) (Nj := some 10) #[true, true, true, true, true, false, false, false, false, false] #[true, true, true, true, false, false, false, false, true, false] rfl rfl rfl rfl (two_of HT_.out (by kernel_rfl)) (by decide) (by decide) (fun K hK => ?_) (fun K hK => ?_)
               ·skip
                refine goes_ Try.func10 (by kernel_rfl) rfl #[.int .i64 a3, .int .i64 3] (by rfl) rfl rfl (by (try simp only [List.map_toArray, List.map_cons, List.map_nil]); first | done | rfl | (simp only [List.length_drop, List.length_take]; rfl)) ?_
                with_reducible refine (donjonlaw18_within.calls a3 3 t123 _ A61.out).mono ?_
                rintro e w' ⟨rfl, ⟨nd, rfl⟩⟩
                refine ⟨_, rfl, ?_⟩
                refine hK.out _ _ ⟨(blk_cell BK101.out 0).trans rfl, (blk_cell BK101.out 1).trans rfl, (blk_cell BK101.out 2).trans rfl, (blk_cell BK101.out 3).trans rfl, (blk_cell BK102.out 0).trans rfl, (blk_cell BK102.out 1).trans rfl, (blk_cell BK102.out 2).trans rfl, (blk_cell BK102.out 3).trans rfl⟩ (fun hHeld => ?_)
                clear hK K
                refine norm_ (a' := ?_) ?_ ?_
                rotate_left
                ·show Act.put _ (some 50) _ = _
                 simp only [Act.put, xset_a, xset_z, xset_s, i64_w, i32_w]
                 rfl
                refine pure_ (i := 5) (N := some 51) (v := ?_) (a' := ?_) #[true, true, true, true, true, true, false, false, false, false] rfl rfl (any_of HT_.out (by kernel_rfl)) (fun _ _ _ h => h) (Or.inl ⟨by rfl, ?_⟩) ?_ ?_
                rotate_left
                ·intro w'
                 go_simp
                 with_reducible rfl
                rotate_left
                ·simp only [Act.put, xset_a, xset_z, xset_s, i64_w, i32_w]
                 rfl
                exact norm_ (by simp only [putAll, Act.put, xset_a, xset_z, xset_s] <;> rfl) (hJ2_4 (.slice (some adz_v121) y120.length co73, adz_v121) _ ⟨hHeld, (by (with_reducible repeat (first | apply Kd.R_alloc | apply Kd.R_drewN | apply Kd.R_drew)); exact HO122.out), (by (with_reducible repeat (first | apply Kd.R_alloc | apply Kd.R_drewN | apply Kd.R_drew)); exact HO_9.out), ⟨_, rfl⟩, (by (with_reducible repeat (first | refine blk_drewN ?_ _ | refine blk_drew ?_ | refine blk_alloc ?_ _)); exact BK101.out), (by (with_reducible repeat (first | refine blk_drewN ?_ _ | refine blk_drew ?_ | refine blk_alloc ?_ _)); exact BK102.out), (by repeat (first | (with_reducible first | exact HB.out | apply below_alloc | apply pw_below_drewN | apply below_drew1 | refine below_set ?_ GE101.out | refine below_set ?_ GE102.out) | exact HB.out))⟩)
               ·skip
                refine box_step ?hg (N := 10) ?hd (cs := #[.string ⟨#[]⟩, .int .i64 0, .int .i64 0, .int .i64 0, .int .i64 0, .string ⟨#[]⟩, .int .i64 0, .int .i64 0, .int .i64 0, .int .i64 0, .string ⟨#[]⟩]) (t := 28) ?hr ?_; (case hd => rfl); (case hg => rfl); (case hr => first | (go_simp; done) | (go_simp; rfl))
                intro gb125 hg w74 hbox hb
                have n0_ := Aside0.mk (Kd.R_below (by (with_reducible repeat (first | apply Kd.R_alloc | apply Kd.R_drewN | apply Kd.R_drew)); exact HO_9.out) hb)
                have n1_ := Aside0.mk (Kd.R_below (by (with_reducible repeat (first | apply Kd.R_alloc | apply Kd.R_drewN | apply Kd.R_drew)); exact HO122.out) hb)
                have n2_ := Aside0.mk (blk_below (g := gb101) (o := .cells #[.int .i64 t104, .int .i64 t105, .int .i64 t106, .int .i64 t107] 26 (0, 0)) (by (with_reducible repeat (first | refine blk_drewN ?_ _ | refine blk_drew ?_ | refine blk_alloc ?_ _)); exact BK101.out) hb)
                have n3_ := Aside0.mk (blk_below (g := gb102) (o := .cells #[.int .i64 t108, .int .i64 t109, .int .i64 t110, .int .i64 t111] 26 (0, 0)) (by (with_reducible repeat (first | refine blk_drewN ?_ _ | refine blk_drew ?_ | refine blk_alloc ?_ _)); exact BK102.out) hb)
                have n4_ := Aside0.mk (below_step (by repeat (first | (with_reducible first | exact HB.out | apply below_alloc | apply pw_below_drewN | apply below_drew1 | refine below_set ?_ GE101.out | refine below_set ?_ GE102.out) | exact HB.out)) hb)
                have n5_ := Aside0.mk (hbox)
                have n6_ := Aside0.mk ((by rw [hg]; exact (below_size (by repeat (first | (with_reducible first | exact HB.out | apply below_alloc | apply pw_below_drewN | apply below_drew1 | refine below_set ?_ GE101.out | refine below_set ?_ GE102.out) | exact HB.out))) : w.heap.size ≤ gb125))
                have n7_ := Aside0.mk ((by rw [hg]; exact (below_size (by repeat (first | (with_reducible first | exact HB.out | apply below_alloc | apply pw_below_drewN | apply below_drew1 | refine below_set ?_ GE101.out | refine below_set ?_ GE102.out) | exact HB.out))) : w.heap.size ≤ gb125))
                have n8_ := Aside0.mk ((by rw [hg]; exact Nat.ne_of_lt (blk_lt (g := gb101) (o := .cells #[.int .i64 t104, .int .i64 t105, .int .i64 t106, .int .i64 t107] 26 (0, 0)) (by (with_reducible repeat (first | refine blk_drewN ?_ _ | refine blk_drew ?_ | refine blk_alloc ?_ _)); exact BK101.out)) : gb101 ≠ gb125))
                have n9_ := Aside0.mk ((by rw [hg]; exact Nat.ne_of_gt (blk_lt (g := gb101) (o := .cells #[.int .i64 t104, .int .i64 t105, .int .i64 t106, .int .i64 t107] 26 (0, 0)) (by (with_reducible repeat (first | refine blk_drewN ?_ _ | refine blk_drew ?_ | refine blk_alloc ?_ _)); exact BK101.out)) : gb125 ≠ gb101))
                have n10_ := Aside0.mk ((by rw [hg]; exact Nat.ne_of_lt (blk_lt (g := gb102) (o := .cells #[.int .i64 t108, .int .i64 t109, .int .i64 t110, .int .i64 t111] 26 (0, 0)) (by (with_reducible repeat (first | refine blk_drewN ?_ _ | refine blk_drew ?_ | refine blk_alloc ?_ _)); exact BK102.out)) : gb102 ≠ gb125))
                have n11_ := Aside0.mk ((by rw [hg]; exact Nat.ne_of_gt (blk_lt (g := gb102) (o := .cells #[.int .i64 t108, .int .i64 t109, .int .i64 t110, .int .i64 t111] 26 (0, 0)) (by (with_reducible repeat (first | refine blk_drewN ?_ _ | refine blk_drew ?_ | refine blk_alloc ?_ _)); exact BK102.out)) : gb125 ≠ gb102))
                clear HO_9 HO122 BK101 BK102 HB
                have HO_9 := n0_; have HO122 := n1_; have BK101 := n2_; have BK102 := n3_; have HB := n4_; have BK125 := n5_; have GW125 := n6_; have GE125 := n7_; have NB101_125 := n8_; have NB125_101 := n9_; have NB102_125 := n10_; have NB125_102 := n11_
                clear n0_ n1_ n2_ n3_ n4_ n5_ n6_ n7_ n8_ n9_ n10_ n11_
                clear hb hbox hg
                refine hK.out _ _ ⟨(blk_cell BK101.out 0).trans rfl, (blk_cell BK101.out 1).trans rfl, (blk_cell BK101.out 2).trans rfl, (blk_cell BK101.out 3).trans rfl, (blk_cell BK102.out 0).trans rfl, (blk_cell BK102.out 1).trans rfl, (blk_cell BK102.out 2).trans rfl, (blk_cell BK102.out 3).trans rfl⟩ (fun hHeld => ?_)
                clear hK K
                refine norm_ (a' := ?_) ?_ ?_
                rotate_left
                ·show Act.put _ (some 10) _ = _
                 simp only [Act.put, xset_a, xset_z, xset_s, i64_w, i32_w]
                 rfl
                exact norm_ (by simp only [putAll, Act.put, xset_a, xset_z, xset_s] <;> rfl) (hJ2_8 (.slice (some adz_v121) y120.length co73, adz_v121, gb125) _ ⟨hHeld, (by (with_reducible repeat (first | apply Kd.R_alloc | apply Kd.R_drewN | apply Kd.R_drew)); exact HO122.out), (by (with_reducible repeat (first | apply Kd.R_alloc | apply Kd.R_drewN | apply Kd.R_drew)); exact HO_9.out), ⟨_, rfl⟩, (by (with_reducible repeat (first | refine blk_drewN ?_ _ | refine blk_drew ?_ | refine blk_alloc ?_ _)); exact BK101.out), (by (with_reducible repeat (first | refine blk_drewN ?_ _ | refine blk_drew ?_ | refine blk_alloc ?_ _)); exact BK102.out), (by (with_reducible repeat (first | refine blk_drewN ?_ _ | refine blk_drew ?_ | refine blk_alloc ?_ _)); exact BK125.out), GW125.out, GE125.out, NB101_125.out, NB125_101.out, NB102_125.out, NB125_102.out, (by repeat (first | (with_reducible first | exact HB.out | apply below_alloc | apply pw_below_drewN | apply below_drew1 | refine below_set ?_ GE101.out | refine below_set ?_ GE102.out | refine below_set ?_ GE125.out) | exact HB.out))⟩)
             ·skip
              rintro gb125 w70 ⟨hS_, h0_, h1_, h2_, h3_, h4_, h5_, h6_, h7_, h8_, h9_, h10_⟩
              have n0_ : Aside0 (Kd.R k44 44 w70 w.heap.size (fun _ => True) v114 x9_28) := ⟨h0_⟩
              have n1_ : Aside0 (w70.heap[gb101]? = some (.cells #[.int .i64 t104, .int .i64 t105, .int .i64 t106, .int .i64 t107] 26 (0, 0))) := ⟨h1_⟩
              have n2_ : Aside0 (w70.heap[gb102]? = some (.cells #[.int .i64 t108, .int .i64 t109, .int .i64 t110, .int .i64 t111] 26 (0, 0))) := ⟨h2_⟩
              have n3_ : Aside0 (w70.heap[gb125]? = some (.cells #[.string ⟨#[]⟩, .int .i64 0, .int .i64 0, .int .i64 0, .int .i64 0, .string ⟨#[]⟩, .int .i64 0, .int .i64 0, .int .i64 0, .int .i64 0, .string ⟨#[]⟩] 28 (0, 0))) := ⟨h3_⟩
              have n4_ : Aside0 (w.heap.size ≤ gb125) := ⟨h4_⟩
              have n5_ : Aside0 (w.heap.size ≤ gb125) := ⟨h5_⟩
              have n6_ : Aside0 (gb101 ≠ gb125) := ⟨h6_⟩
              have n7_ : Aside0 (gb125 ≠ gb101) := ⟨h7_⟩
              have n8_ : Aside0 (gb102 ≠ gb125) := ⟨h8_⟩
              have n9_ : Aside0 (gb125 ≠ gb102) := ⟨h9_⟩
              have n10_ : Aside0 (Below w.heap.size w w70) := ⟨h10_⟩
              clear HO_9 BK101 BK102 HB
              clear h0_ h1_ h2_ h3_ h4_ h5_ h6_ h7_ h8_ h9_ h10_
              have HO_9 := n0_; have BK101 := n1_; have BK102 := n2_; have BK125 := n3_; have GW125 := n4_; have GE125 := n5_; have NB101_125 := n6_; have NB125_101 := n7_; have NB102_125 := n8_; have NB125_102 := n9_; have HB := n10_
              clear n0_ n1_ n2_ n3_ n4_ n5_ n6_ n7_ n8_ n9_ n10_
              have hHeld : w70.cell? ⟨gb101, 0, none⟩ = some (.int .i64 t104) ∧ w70.cell? ⟨gb101, 1, none⟩ = some (.int .i64 t105) ∧ w70.cell? ⟨gb101, 2, none⟩ = some (.int .i64 t106) ∧ w70.cell? ⟨gb101, 3, none⟩ = some (.int .i64 t107) ∧ w70.cell? ⟨gb102, 0, none⟩ = some (.int .i64 t108) ∧ w70.cell? ⟨gb102, 1, none⟩ = some (.int .i64 t109) ∧ w70.cell? ⟨gb102, 2, none⟩ = some (.int .i64 t110) ∧ w70.cell? ⟨gb102, 3, none⟩ = some (.int .i64 t111) := hS_
              refine norm_ (a' := ?_) ?_ ?_
              rotate_left
              ·simp only [putAll, Act.put, xset_a, xset_z, xset_s]
               rfl
              refine one_ (i := 2) (N := some 48) #[true, true, true, true, true, false, false, false, true, false] rfl rfl (one_of HT_.out (by kernel_rfl)) (by decide) (fun K hK => ?_)
              refine Kd.R_lit_step Kd.string _ 9 ?hg (N := 48) ?hd (xs := ([(⟨#[111, 110, 101]⟩ : ByteArray), (⟨#[116, 119, 111]⟩ : ByteArray), (⟨#[116, 104, 114, 101, 101]⟩ : ByteArray)] : List ByteArray)) (inner := [.string ⟨#[111, 110, 101]⟩, .string ⟨#[116, 119, 111]⟩, .string ⟨#[116, 104, 114, 101, 101]⟩]) (ok := fun _ => True) (okp := fun _ => True) ?hr ?hp (fun _ hk => hk) trivial (Below.refl _ _) (Nat.le_refl _) (by simp) ?_; (case hd => rfl); (case hg => rfl); (case hr => first | (go_simp; done) | (go_simp; rfl)); (case hp => exact (Reps.one (show Kd.M Kd.string _ _ _ (⟨#[111, 110, 101]⟩ : ByteArray) [.string ⟨#[111, 110, 101]⟩] from rfl) (Reps.one (show Kd.M Kd.string _ _ _ (⟨#[116, 119, 111]⟩ : ByteArray) [.string ⟨#[116, 119, 111]⟩] from rfl) (Reps.one (show Kd.M Kd.string _ _ _ (⟨#[116, 104, 114, 101, 101]⟩ : ByteArray) [.string ⟨#[116, 104, 114, 101, 101]⟩] from rfl) (Reps.none _ _)))))
              intro v121 w71 ho72 hb hg_ hnew_
              clear hg_ hnew_
              (first | rw [← Ny120.out] at ho72 | (simp only [Int.reduceToNat] at ho72; rw [← Ny120.out] at ho72))
              have n0_ := Aside0.mk (Kd.R_below (by (with_reducible repeat (first | apply Kd.R_alloc | apply Kd.R_drewN | apply Kd.R_drew)); exact HO_9.out) hb)
              have n1_ := Aside0.mk (Kd.R_lower ho72 (below_size (by repeat (first | (with_reducible first | exact HB.out | apply below_alloc | apply pw_below_drewN | apply below_drew1 | refine below_set ?_ GE101.out | refine below_set ?_ GE102.out | refine below_set ?_ GE125.out) | exact HB.out))))
              have n2_ := Aside0.mk (blk_below (g := gb101) (o := .cells #[.int .i64 t104, .int .i64 t105, .int .i64 t106, .int .i64 t107] 26 (0, 0)) (by (with_reducible repeat (first | refine blk_drewN ?_ _ | refine blk_drew ?_ | refine blk_alloc ?_ _)); exact BK101.out) hb)
              have n3_ := Aside0.mk (blk_below (g := gb102) (o := .cells #[.int .i64 t108, .int .i64 t109, .int .i64 t110, .int .i64 t111] 26 (0, 0)) (by (with_reducible repeat (first | refine blk_drewN ?_ _ | refine blk_drew ?_ | refine blk_alloc ?_ _)); exact BK102.out) hb)
              have n4_ := Aside0.mk (blk_below (g := gb125) (o := .cells #[.string ⟨#[]⟩, .int .i64 0, .int .i64 0, .int .i64 0, .int .i64 0, .string ⟨#[]⟩, .int .i64 0, .int .i64 0, .int .i64 0, .int .i64 0, .string ⟨#[]⟩] 28 (0, 0)) (by (with_reducible repeat (first | refine blk_drewN ?_ _ | refine blk_drew ?_ | refine blk_alloc ?_ _)); exact BK125.out) hb)
              have n5_ := Aside0.mk (below_step (by repeat (first | (with_reducible first | exact HB.out | apply below_alloc | apply pw_below_drewN | apply below_drew1 | refine below_set ?_ GE101.out | refine below_set ?_ GE102.out | refine below_set ?_ GE125.out) | exact HB.out)) hb)
              clear HO_9 BK101 BK102 BK125 HB
              have HO_9 := n0_; have HO122 := n1_; have BK101 := n2_; have BK102 := n3_; have BK125 := n4_; have HB := n5_
              clear n0_ n1_ n2_ n3_ n4_ n5_
              clear hb ho72
              obtain ⟨Ao73, co73, eo73⟩ := Kd.R_slice HO122.out
              subst eo73
              obtain ⟨ado73, fo73, _⟩ := Kd.at_string (Kd.R_reads' HO122.out).2.2 0 (by decide) (by rw [Ny120.out]; simp)
              cases fo73
              refine hK.out _ _ ⟨(blk_cell BK101.out 0).trans rfl, (blk_cell BK101.out 1).trans rfl, (blk_cell BK101.out 2).trans rfl, (blk_cell BK101.out 3).trans rfl, (blk_cell BK102.out 0).trans rfl, (blk_cell BK102.out 1).trans rfl, (blk_cell BK102.out 2).trans rfl, (blk_cell BK102.out 3).trans rfl⟩ (fun hHeld => ?_)
              clear hK K
              refine norm_ (a' := ?_) ?_ ?_
              rotate_left
              ·show Act.put _ (some 48) _ = _
               simp only [Act.put, xset_a, xset_z, xset_s, i64_w, i32_w]
               rfl
              refine pure_ (i := 5) (N := some 51) (v := ?_) (a' := ?_) #[true, true, true, true, true, true, false, false, true, false] rfl rfl (any_of HT_.out (by kernel_rfl)) (fun _ _ _ h => h) (Or.inl ⟨by rfl, ?_⟩) ?_ ?_
              rotate_left
              ·intro w'
               go_simp
               with_reducible rfl
              rotate_left
              ·simp only [Act.put, xset_a, xset_z, xset_s, i64_w, i32_w]
               rfl
              exact norm_ (by simp only [putAll, Act.put, xset_a, xset_z, xset_s] <;> rfl) (hJ2_4_8 (.slice (some ado73) y120.length co73, ado73, gb125) _ ⟨hHeld, (by (with_reducible repeat (first | apply Kd.R_alloc | apply Kd.R_drewN | apply Kd.R_drew)); exact HO122.out), (by (with_reducible repeat (first | apply Kd.R_alloc | apply Kd.R_drewN | apply Kd.R_drew)); exact HO_9.out), ⟨_, rfl⟩, (by (with_reducible repeat (first | refine blk_drewN ?_ _ | refine blk_drew ?_ | refine blk_alloc ?_ _)); exact BK101.out), (by (with_reducible repeat (first | refine blk_drewN ?_ _ | refine blk_drew ?_ | refine blk_alloc ?_ _)); exact BK102.out), (by (with_reducible repeat (first | refine blk_drewN ?_ _ | refine blk_drew ?_ | refine blk_alloc ?_ _)); exact BK125.out), GW125.out, GE125.out, NB101_125.out, NB125_101.out, NB102_125.out, NB125_102.out, (by repeat (first | (with_reducible first | exact HB.out | apply below_alloc | apply pw_below_drewN | apply below_drew1 | refine below_set ?_ GE101.out | refine below_set ?_ GE102.out | refine below_set ?_ GE125.out) | exact HB.out))⟩)
            ·skip
             rintro ⟨v121, adz_v121, gb125⟩ w73 ⟨hS_, h0_, h1_, h2_, h3_, h4_, h5_, h6_, h7_, h8_, h9_, h10_, h11_, h12_⟩
             have n0_ : Aside0 (Kd.R Kd.string 9 w73 w.heap.size (fun _ => True) v121 y120) := ⟨h0_⟩
             have n1_ : Aside0 (Kd.R k44 44 w73 w.heap.size (fun _ => True) v114 x9_28) := ⟨h1_⟩
             have n2_ : Aside0 (∃ c_, (v121 : Value) = .slice (some adz_v121) y120.length c_) := ⟨h2_⟩
             have n3_ : Aside0 (w73.heap[gb101]? = some (.cells #[.int .i64 t104, .int .i64 t105, .int .i64 t106, .int .i64 t107] 26 (0, 0))) := ⟨h3_⟩
             have n4_ : Aside0 (w73.heap[gb102]? = some (.cells #[.int .i64 t108, .int .i64 t109, .int .i64 t110, .int .i64 t111] 26 (0, 0))) := ⟨h4_⟩
             have n5_ : Aside0 (w73.heap[gb125]? = some (.cells #[.string ⟨#[]⟩, .int .i64 0, .int .i64 0, .int .i64 0, .int .i64 0, .string ⟨#[]⟩, .int .i64 0, .int .i64 0, .int .i64 0, .int .i64 0, .string ⟨#[]⟩] 28 (0, 0))) := ⟨h5_⟩
             have n6_ : Aside0 (w.heap.size ≤ gb125) := ⟨h6_⟩
             have n7_ : Aside0 (w.heap.size ≤ gb125) := ⟨h7_⟩
             have n8_ : Aside0 (gb101 ≠ gb125) := ⟨h8_⟩
             have n9_ : Aside0 (gb125 ≠ gb101) := ⟨h9_⟩
             have n10_ : Aside0 (gb102 ≠ gb125) := ⟨h10_⟩
             have n11_ : Aside0 (gb125 ≠ gb102) := ⟨h11_⟩
             have n12_ : Aside0 (Below w.heap.size w w73) := ⟨h12_⟩
             clear HO_9 BK101 BK102 HB
             clear h0_ h1_ h2_ h3_ h4_ h5_ h6_ h7_ h8_ h9_ h10_ h11_ h12_
             have HO122 := n0_; have HO_9 := n1_; have HA_HO122 := n2_; have BK101 := n3_; have BK102 := n4_; have BK125 := n5_; have GW125 := n6_; have GE125 := n7_; have NB101_125 := n8_; have NB125_101 := n9_; have NB102_125 := n10_; have NB125_102 := n11_; have HB := n12_
             clear n0_ n1_ n2_ n3_ n4_ n5_ n6_ n7_ n8_ n9_ n10_ n11_ n12_
             have hHeld : w73.cell? ⟨gb101, 0, none⟩ = some (.int .i64 t104) ∧ w73.cell? ⟨gb101, 1, none⟩ = some (.int .i64 t105) ∧ w73.cell? ⟨gb101, 2, none⟩ = some (.int .i64 t106) ∧ w73.cell? ⟨gb101, 3, none⟩ = some (.int .i64 t107) ∧ w73.cell? ⟨gb102, 0, none⟩ = some (.int .i64 t108) ∧ w73.cell? ⟨gb102, 1, none⟩ = some (.int .i64 t109) ∧ w73.cell? ⟨gb102, 2, none⟩ = some (.int .i64 t110) ∧ w73.cell? ⟨gb102, 3, none⟩ = some (.int .i64 t111) := hS_
             obtain ⟨co74, eo74⟩ := HA_HO122.out
             clear HA_HO122
             subst eo74
             refine norm_ (a' := ?_) ?_ ?_
             rotate_left
             ·simp only [putAll, Act.put, xset_a, xset_z, xset_s]
              rfl
             refine one_ (i := 4) (N := some 50) #[true, true, true, true, true, false, false, false, true, false] rfl rfl (one_of HT_.out (by kernel_rfl)) (by decide) (fun K hK => ?_)
             refine goes_ Try.func10 (by kernel_rfl) rfl #[.int .i64 a3, .int .i64 3] (by rfl) rfl rfl (by (try simp only [List.map_toArray, List.map_cons, List.map_nil]); first | done | rfl | (simp only [List.length_drop, List.length_take]; rfl)) ?_
             with_reducible refine (donjonlaw18_within.calls a3 3 t123 _ A61.out).mono ?_
             rintro e w' ⟨rfl, ⟨nd, rfl⟩⟩
             refine ⟨_, rfl, ?_⟩
             refine hK.out _ _ ⟨(blk_cell BK101.out 0).trans rfl, (blk_cell BK101.out 1).trans rfl, (blk_cell BK101.out 2).trans rfl, (blk_cell BK101.out 3).trans rfl, (blk_cell BK102.out 0).trans rfl, (blk_cell BK102.out 1).trans rfl, (blk_cell BK102.out 2).trans rfl, (blk_cell BK102.out 3).trans rfl⟩ (fun hHeld => ?_)
             clear hK K
             refine norm_ (a' := ?_) ?_ ?_
             rotate_left
             ·show Act.put _ (some 50) _ = _
              simp only [Act.put, xset_a, xset_z, xset_s, i64_w, i32_w]
              rfl
             refine pure_ (i := 5) (N := some 51) (v := ?_) (a' := ?_) #[true, true, true, true, true, true, false, false, true, false] rfl rfl (any_of HT_.out (by kernel_rfl)) (fun _ _ _ h => h) (Or.inl ⟨by rfl, ?_⟩) ?_ ?_
             rotate_left
             ·intro w'
              go_simp
              with_reducible rfl
             rotate_left
             ·simp only [Act.put, xset_a, xset_z, xset_s, i64_w, i32_w]
              rfl
             exact norm_ (by simp only [putAll, Act.put, xset_a, xset_z, xset_s] <;> rfl) (hJ2_4_8 (.slice (some adz_v121) y120.length co74, adz_v121, gb125) _ ⟨hHeld, (by (with_reducible repeat (first | apply Kd.R_alloc | apply Kd.R_drewN | apply Kd.R_drew)); exact HO122.out), (by (with_reducible repeat (first | apply Kd.R_alloc | apply Kd.R_drewN | apply Kd.R_drew)); exact HO_9.out), ⟨_, rfl⟩, (by (with_reducible repeat (first | refine blk_drewN ?_ _ | refine blk_drew ?_ | refine blk_alloc ?_ _)); exact BK101.out), (by (with_reducible repeat (first | refine blk_drewN ?_ _ | refine blk_drew ?_ | refine blk_alloc ?_ _)); exact BK102.out), (by (with_reducible repeat (first | refine blk_drewN ?_ _ | refine blk_drew ?_ | refine blk_alloc ?_ _)); exact BK125.out), GW125.out, GE125.out, NB101_125.out, NB125_101.out, NB102_125.out, NB125_102.out, (by repeat (first | (with_reducible first | exact HB.out | apply below_alloc | apply pw_below_drewN | apply below_drew1 | refine below_set ?_ GE101.out | refine below_set ?_ GE102.out | refine below_set ?_ GE125.out) | exact HB.out))⟩)
           ·skip
            rintro ⟨v121, adz_v121⟩ w72 ⟨hS_, h0_, h1_, h2_, h3_, h4_, h5_⟩
            have n0_ : Aside0 (Kd.R Kd.string 9 w72 w.heap.size (fun _ => True) v121 y120) := ⟨h0_⟩
            have n1_ : Aside0 (Kd.R k44 44 w72 w.heap.size (fun _ => True) v114 x9_28) := ⟨h1_⟩
            have n2_ : Aside0 (∃ c_, (v121 : Value) = .slice (some adz_v121) y120.length c_) := ⟨h2_⟩
            have n3_ : Aside0 (w72.heap[gb101]? = some (.cells #[.int .i64 t104, .int .i64 t105, .int .i64 t106, .int .i64 t107] 26 (0, 0))) := ⟨h3_⟩
            have n4_ : Aside0 (w72.heap[gb102]? = some (.cells #[.int .i64 t108, .int .i64 t109, .int .i64 t110, .int .i64 t111] 26 (0, 0))) := ⟨h4_⟩
            have n5_ : Aside0 (Below w.heap.size w w72) := ⟨h5_⟩
            clear HO_9 BK101 BK102 HB
            clear h0_ h1_ h2_ h3_ h4_ h5_
            have HO122 := n0_; have HO_9 := n1_; have HA_HO122 := n2_; have BK101 := n3_; have BK102 := n4_; have HB := n5_
            clear n0_ n1_ n2_ n3_ n4_ n5_
            have hHeld : w72.cell? ⟨gb101, 0, none⟩ = some (.int .i64 t104) ∧ w72.cell? ⟨gb101, 1, none⟩ = some (.int .i64 t105) ∧ w72.cell? ⟨gb101, 2, none⟩ = some (.int .i64 t106) ∧ w72.cell? ⟨gb101, 3, none⟩ = some (.int .i64 t107) ∧ w72.cell? ⟨gb102, 0, none⟩ = some (.int .i64 t108) ∧ w72.cell? ⟨gb102, 1, none⟩ = some (.int .i64 t109) ∧ w72.cell? ⟨gb102, 2, none⟩ = some (.int .i64 t110) ∧ w72.cell? ⟨gb102, 3, none⟩ = some (.int .i64 t111) := hS_
            obtain ⟨co73, eo73⟩ := HA_HO122.out
            clear HA_HO122
            subst eo73
            refine norm_ (a' := ?_) ?_ ?_
            rotate_left
            ·simp only [putAll, Act.put, xset_a, xset_z, xset_s]
             rfl
            refine two_ (i := 6) (j := 8) (Ni := some 52) (Nj := some 10) #[true, true, true, true, true, true, true, false, false, false] #[true, true, true, true, true, true, false, false, true, false] rfl rfl rfl rfl (two_of HT_.out (by kernel_rfl)) (by decide) (by decide) (fun K hK => ?_) (fun K hK => ?_)
            ·skip
             (have p124 : 0 ≤ (t123 : Int) := of_decide_eq_true (by first | (with_reducible assumption) | assumption); have q124 : t123 < (y120.length : Int) := of_decide_eq_true (by first | (with_reducible assumption) | assumption); obtain ⟨ad124, e124, hx124_0⟩ := Kd.at_string (Kd.R_reads' HO122.out).2.2 t123 p124 q124; obtain rfl : adz_v121 = ad124 := (by injection e124))
             refine value_ (w1 := ?_) (v := ?_) (by rfl) rfl ?_ ?_
             rotate_left 2
             ·go_simp
              constructor
              ·rfl
              ·rfl
             clear hx124_0
             refine hK.out _ _ ⟨(blk_cell BK101.out 0).trans rfl, (blk_cell BK101.out 1).trans rfl, (blk_cell BK101.out 2).trans rfl, (blk_cell BK101.out 3).trans rfl, (blk_cell BK102.out 0).trans rfl, (blk_cell BK102.out 1).trans rfl, (blk_cell BK102.out 2).trans rfl, (blk_cell BK102.out 3).trans rfl⟩ (fun hHeld => ?_)
             clear hK K
             refine norm_ (a' := ?_) ?_ ?_
             rotate_left
             ·show Act.put _ (some 52) _ = _
              simp only [Act.put, xset_a, xset_z, xset_s, i64_w, i32_w]
              rfl
             refine pure_ (i := 7) (N := some 53) (v := ?_) (a' := ?_) #[true, true, true, true, true, true, true, true, false, false] rfl rfl (any_of HT_.out (by kernel_rfl)) (fun _ _ _ h => h) (Or.inl ⟨by rfl, ?_⟩) ?_ ?_
             rotate_left
             ·intro w'
              go_simp
              with_reducible rfl
             rotate_left
             ·simp only [Act.put, xset_a, xset_z, xset_s, i64_w, i32_w]
              rfl
             exact norm_ (by simp only [putAll, Act.put, xset_a, xset_z, xset_s] <;> rfl) (hJ2_4_6 (.slice (some adz_v121) y120.length co73, adz_v121) _ ⟨hHeld, (by (with_reducible repeat (first | apply Kd.R_alloc | apply Kd.R_drewN | apply Kd.R_drew)); exact HO122.out), (by (with_reducible repeat (first | apply Kd.R_alloc | apply Kd.R_drewN | apply Kd.R_drew)); exact HO_9.out), ⟨_, rfl⟩, (by (with_reducible repeat (first | refine blk_drewN ?_ _ | refine blk_drew ?_ | refine blk_alloc ?_ _)); exact BK101.out), (by (with_reducible repeat (first | refine blk_drewN ?_ _ | refine blk_drew ?_ | refine blk_alloc ?_ _)); exact BK102.out), (by repeat (first | (with_reducible first | exact HB.out | apply below_alloc | apply pw_below_drewN | apply below_drew1 | refine below_set ?_ GE101.out | refine below_set ?_ GE102.out) | exact HB.out))⟩)
            ·skip
             refine box_step ?hg (N := 10) ?hd (cs := #[.string ⟨#[]⟩, .int .i64 0, .int .i64 0, .int .i64 0, .int .i64 0, .string ⟨#[]⟩, .int .i64 0, .int .i64 0, .int .i64 0, .int .i64 0, .string ⟨#[]⟩]) (t := 28) ?hr ?_; (case hd => rfl); (case hg => rfl); (case hr => first | (go_simp; done) | (go_simp; rfl))
             intro gb125 hg w74 hbox hb
             have n0_ := Aside0.mk (Kd.R_below (by (with_reducible repeat (first | apply Kd.R_alloc | apply Kd.R_drewN | apply Kd.R_drew)); exact HO_9.out) hb)
             have n1_ := Aside0.mk (Kd.R_below (by (with_reducible repeat (first | apply Kd.R_alloc | apply Kd.R_drewN | apply Kd.R_drew)); exact HO122.out) hb)
             have n2_ := Aside0.mk (blk_below (g := gb101) (o := .cells #[.int .i64 t104, .int .i64 t105, .int .i64 t106, .int .i64 t107] 26 (0, 0)) (by (with_reducible repeat (first | refine blk_drewN ?_ _ | refine blk_drew ?_ | refine blk_alloc ?_ _)); exact BK101.out) hb)
             have n3_ := Aside0.mk (blk_below (g := gb102) (o := .cells #[.int .i64 t108, .int .i64 t109, .int .i64 t110, .int .i64 t111] 26 (0, 0)) (by (with_reducible repeat (first | refine blk_drewN ?_ _ | refine blk_drew ?_ | refine blk_alloc ?_ _)); exact BK102.out) hb)
             have n4_ := Aside0.mk (below_step (by repeat (first | (with_reducible first | exact HB.out | apply below_alloc | apply pw_below_drewN | apply below_drew1 | refine below_set ?_ GE101.out | refine below_set ?_ GE102.out) | exact HB.out)) hb)
             have n5_ := Aside0.mk (hbox)
             have n6_ := Aside0.mk ((by rw [hg]; exact (below_size (by repeat (first | (with_reducible first | exact HB.out | apply below_alloc | apply pw_below_drewN | apply below_drew1 | refine below_set ?_ GE101.out | refine below_set ?_ GE102.out) | exact HB.out))) : w.heap.size ≤ gb125))
             have n7_ := Aside0.mk ((by rw [hg]; exact (below_size (by repeat (first | (with_reducible first | exact HB.out | apply below_alloc | apply pw_below_drewN | apply below_drew1 | refine below_set ?_ GE101.out | refine below_set ?_ GE102.out) | exact HB.out))) : w.heap.size ≤ gb125))
             have n8_ := Aside0.mk ((by rw [hg]; exact Nat.ne_of_lt (blk_lt (g := gb101) (o := .cells #[.int .i64 t104, .int .i64 t105, .int .i64 t106, .int .i64 t107] 26 (0, 0)) (by (with_reducible repeat (first | refine blk_drewN ?_ _ | refine blk_drew ?_ | refine blk_alloc ?_ _)); exact BK101.out)) : gb101 ≠ gb125))
             have n9_ := Aside0.mk ((by rw [hg]; exact Nat.ne_of_gt (blk_lt (g := gb101) (o := .cells #[.int .i64 t104, .int .i64 t105, .int .i64 t106, .int .i64 t107] 26 (0, 0)) (by (with_reducible repeat (first | refine blk_drewN ?_ _ | refine blk_drew ?_ | refine blk_alloc ?_ _)); exact BK101.out)) : gb125 ≠ gb101))
             have n10_ := Aside0.mk ((by rw [hg]; exact Nat.ne_of_lt (blk_lt (g := gb102) (o := .cells #[.int .i64 t108, .int .i64 t109, .int .i64 t110, .int .i64 t111] 26 (0, 0)) (by (with_reducible repeat (first | refine blk_drewN ?_ _ | refine blk_drew ?_ | refine blk_alloc ?_ _)); exact BK102.out)) : gb102 ≠ gb125))
             have n11_ := Aside0.mk ((by rw [hg]; exact Nat.ne_of_gt (blk_lt (g := gb102) (o := .cells #[.int .i64 t108, .int .i64 t109, .int .i64 t110, .int .i64 t111] 26 (0, 0)) (by (with_reducible repeat (first | refine blk_drewN ?_ _ | refine blk_drew ?_ | refine blk_alloc ?_ _)); exact BK102.out)) : gb125 ≠ gb102))
             clear HO_9 HO122 BK101 BK102 HB
             have HO_9 := n0_; have HO122 := n1_; have BK101 := n2_; have BK102 := n3_; have HB := n4_; have BK125 := n5_; have GW125 := n6_; have GE125 := n7_; have NB101_125 := n8_; have NB125_101 := n9_; have NB102_125 := n10_; have NB125_102 := n11_
             clear n0_ n1_ n2_ n3_ n4_ n5_ n6_ n7_ n8_ n9_ n10_ n11_
             clear hb hbox hg
             refine hK.out _ _ ⟨(blk_cell BK101.out 0).trans rfl, (blk_cell BK101.out 1).trans rfl, (blk_cell BK101.out 2).trans rfl, (blk_cell BK101.out 3).trans rfl, (blk_cell BK102.out 0).trans rfl, (blk_cell BK102.out 1).trans rfl, (blk_cell BK102.out 2).trans rfl, (blk_cell BK102.out 3).trans rfl⟩ (fun hHeld => ?_)
             clear hK K
             refine norm_ (a' := ?_) ?_ ?_
             rotate_left
             ·show Act.put _ (some 10) _ = _
              simp only [Act.put, xset_a, xset_z, xset_s, i64_w, i32_w]
              rfl
             exact norm_ (by simp only [putAll, Act.put, xset_a, xset_z, xset_s] <;> rfl) (hJ2_4_8 (.slice (some adz_v121) y120.length co73, adz_v121, gb125) _ ⟨hHeld, (by (with_reducible repeat (first | apply Kd.R_alloc | apply Kd.R_drewN | apply Kd.R_drew)); exact HO122.out), (by (with_reducible repeat (first | apply Kd.R_alloc | apply Kd.R_drewN | apply Kd.R_drew)); exact HO_9.out), ⟨_, rfl⟩, (by (with_reducible repeat (first | refine blk_drewN ?_ _ | refine blk_drew ?_ | refine blk_alloc ?_ _)); exact BK101.out), (by (with_reducible repeat (first | refine blk_drewN ?_ _ | refine blk_drew ?_ | refine blk_alloc ?_ _)); exact BK102.out), (by (with_reducible repeat (first | refine blk_drewN ?_ _ | refine blk_drew ?_ | refine blk_alloc ?_ _)); exact BK125.out), GW125.out, GE125.out, NB101_125.out, NB125_101.out, NB102_125.out, NB125_102.out, (by repeat (first | (with_reducible first | exact HB.out | apply below_alloc | apply pw_below_drewN | apply below_drew1 | refine below_set ?_ GE101.out | refine below_set ?_ GE102.out | refine below_set ?_ GE125.out) | exact HB.out))⟩)
          ·skip
           rintro ⟨v121, adz_v121, gb125⟩ w73 ⟨hS_, h0_, h1_, h2_, h3_, h4_, h5_, h6_, h7_, h8_, h9_, h10_, h11_, h12_⟩
           have n0_ : Aside0 (Kd.R Kd.string 9 w73 w.heap.size (fun _ => True) v121 y120) := ⟨h0_⟩
           have n1_ : Aside0 (Kd.R k44 44 w73 w.heap.size (fun _ => True) v114 x9_28) := ⟨h1_⟩
           have n2_ : Aside0 (∃ c_, (v121 : Value) = .slice (some adz_v121) y120.length c_) := ⟨h2_⟩
           have n3_ : Aside0 (w73.heap[gb101]? = some (.cells #[.int .i64 t104, .int .i64 t105, .int .i64 t106, .int .i64 t107] 26 (0, 0))) := ⟨h3_⟩
           have n4_ : Aside0 (w73.heap[gb102]? = some (.cells #[.int .i64 t108, .int .i64 t109, .int .i64 t110, .int .i64 t111] 26 (0, 0))) := ⟨h4_⟩
           have n5_ : Aside0 (w73.heap[gb125]? = some (.cells #[.string ⟨#[]⟩, .int .i64 0, .int .i64 0, .int .i64 0, .int .i64 0, .string ⟨#[]⟩, .int .i64 0, .int .i64 0, .int .i64 0, .int .i64 0, .string ⟨#[]⟩] 28 (0, 0))) := ⟨h5_⟩
           have n6_ : Aside0 (w.heap.size ≤ gb125) := ⟨h6_⟩
           have n7_ : Aside0 (w.heap.size ≤ gb125) := ⟨h7_⟩
           have n8_ : Aside0 (gb101 ≠ gb125) := ⟨h8_⟩
           have n9_ : Aside0 (gb125 ≠ gb101) := ⟨h9_⟩
           have n10_ : Aside0 (gb102 ≠ gb125) := ⟨h10_⟩
           have n11_ : Aside0 (gb125 ≠ gb102) := ⟨h11_⟩
           have n12_ : Aside0 (Below w.heap.size w w73) := ⟨h12_⟩
           clear HO_9 BK101 BK102 HB
           clear h0_ h1_ h2_ h3_ h4_ h5_ h6_ h7_ h8_ h9_ h10_ h11_ h12_
           have HO122 := n0_; have HO_9 := n1_; have HA_HO122 := n2_; have BK101 := n3_; have BK102 := n4_; have BK125 := n5_; have GW125 := n6_; have GE125 := n7_; have NB101_125 := n8_; have NB125_101 := n9_; have NB102_125 := n10_; have NB125_102 := n11_; have HB := n12_
           clear n0_ n1_ n2_ n3_ n4_ n5_ n6_ n7_ n8_ n9_ n10_ n11_ n12_
           have hHeld : w73.cell? ⟨gb101, 0, none⟩ = some (.int .i64 t104) ∧ w73.cell? ⟨gb101, 1, none⟩ = some (.int .i64 t105) ∧ w73.cell? ⟨gb101, 2, none⟩ = some (.int .i64 t106) ∧ w73.cell? ⟨gb101, 3, none⟩ = some (.int .i64 t107) ∧ w73.cell? ⟨gb102, 0, none⟩ = some (.int .i64 t108) ∧ w73.cell? ⟨gb102, 1, none⟩ = some (.int .i64 t109) ∧ w73.cell? ⟨gb102, 2, none⟩ = some (.int .i64 t110) ∧ w73.cell? ⟨gb102, 3, none⟩ = some (.int .i64 t111) := hS_
           obtain ⟨co74, eo74⟩ := HA_HO122.out
           clear HA_HO122
           subst eo74
           refine norm_ (a' := ?_) ?_ ?_
           rotate_left
           ·simp only [putAll, Act.put, xset_a, xset_z, xset_s]
            rfl
           refine one_ (i := 6) (N := some 52) #[true, true, true, true, true, true, true, false, true, false] rfl rfl (one_of HT_.out (by kernel_rfl)) (by decide) (fun K hK => ?_)
           (have p124 : 0 ≤ (t123 : Int) := of_decide_eq_true (by first | (with_reducible assumption) | assumption); have q124 : t123 < (y120.length : Int) := of_decide_eq_true (by first | (with_reducible assumption) | assumption); obtain ⟨ad124, e124, hx124_0⟩ := Kd.at_string (Kd.R_reads' HO122.out).2.2 t123 p124 q124; obtain rfl : adz_v121 = ad124 := (by injection e124))
           refine value_ (w1 := ?_) (v := ?_) (by rfl) rfl ?_ ?_
           rotate_left 2
           ·go_simp
            constructor
            ·rfl
            ·rfl
           clear hx124_0
           refine hK.out _ _ ⟨(blk_cell BK101.out 0).trans rfl, (blk_cell BK101.out 1).trans rfl, (blk_cell BK101.out 2).trans rfl, (blk_cell BK101.out 3).trans rfl, (blk_cell BK102.out 0).trans rfl, (blk_cell BK102.out 1).trans rfl, (blk_cell BK102.out 2).trans rfl, (blk_cell BK102.out 3).trans rfl⟩ (fun hHeld => ?_)
           clear hK K
           refine norm_ (a' := ?_) ?_ ?_
           rotate_left
           ·show Act.put _ (some 52) _ = _
            simp only [Act.put, xset_a, xset_z, xset_s, i64_w, i32_w]
            rfl
           refine pure_ (i := 7) (N := some 53) (v := ?_) (a' := ?_) #[true, true, true, true, true, true, true, true, true, false] rfl rfl (any_of HT_.out (by kernel_rfl)) (fun _ _ _ h => h) (Or.inl ⟨by rfl, ?_⟩) ?_ ?_
           rotate_left
           ·intro w'
            go_simp
            with_reducible rfl
           rotate_left
           ·simp only [Act.put, xset_a, xset_z, xset_s, i64_w, i32_w]
            rfl
           exact norm_ (by simp only [putAll, Act.put, xset_a, xset_z, xset_s] <;> rfl) (hJ2_4_6_8 (.slice (some adz_v121) y120.length co74, adz_v121, gb125) _ ⟨hHeld, (by (with_reducible repeat (first | apply Kd.R_alloc | apply Kd.R_drewN | apply Kd.R_drew)); exact HO122.out), (by (with_reducible repeat (first | apply Kd.R_alloc | apply Kd.R_drewN | apply Kd.R_drew)); exact HO_9.out), ⟨_, rfl⟩, (by (with_reducible repeat (first | refine blk_drewN ?_ _ | refine blk_drew ?_ | refine blk_alloc ?_ _)); exact BK101.out), (by (with_reducible repeat (first | refine blk_drewN ?_ _ | refine blk_drew ?_ | refine blk_alloc ?_ _)); exact BK102.out), (by (with_reducible repeat (first | refine blk_drewN ?_ _ | refine blk_drew ?_ | refine blk_alloc ?_ _)); exact BK125.out), GW125.out, GE125.out, NB101_125.out, NB125_101.out, NB102_125.out, NB125_102.out, (by repeat (first | (with_reducible first | exact HB.out | apply below_alloc | apply pw_below_drewN | apply below_drew1 | refine below_set ?_ GE101.out | refine below_set ?_ GE102.out | refine below_set ?_ GE125.out) | exact HB.out))⟩)
         ·skip
          rintro ⟨v121, adz_v121⟩ w72 ⟨hS_, h0_, h1_, h2_, h3_, h4_, h5_⟩
          have n0_ : Aside0 (Kd.R Kd.string 9 w72 w.heap.size (fun _ => True) v121 y120) := ⟨h0_⟩
          have n1_ : Aside0 (Kd.R k44 44 w72 w.heap.size (fun _ => True) v114 x9_28) := ⟨h1_⟩
          have n2_ : Aside0 (∃ c_, (v121 : Value) = .slice (some adz_v121) y120.length c_) := ⟨h2_⟩
          have n3_ : Aside0 (w72.heap[gb101]? = some (.cells #[.int .i64 t104, .int .i64 t105, .int .i64 t106, .int .i64 t107] 26 (0, 0))) := ⟨h3_⟩
          have n4_ : Aside0 (w72.heap[gb102]? = some (.cells #[.int .i64 t108, .int .i64 t109, .int .i64 t110, .int .i64 t111] 26 (0, 0))) := ⟨h4_⟩
          have n5_ : Aside0 (Below w.heap.size w w72) := ⟨h5_⟩
          clear HO_9 BK101 BK102 HB
          clear h0_ h1_ h2_ h3_ h4_ h5_
          have HO122 := n0_; have HO_9 := n1_; have HA_HO122 := n2_; have BK101 := n3_; have BK102 := n4_; have HB := n5_
          clear n0_ n1_ n2_ n3_ n4_ n5_
          have hHeld : w72.cell? ⟨gb101, 0, none⟩ = some (.int .i64 t104) ∧ w72.cell? ⟨gb101, 1, none⟩ = some (.int .i64 t105) ∧ w72.cell? ⟨gb101, 2, none⟩ = some (.int .i64 t106) ∧ w72.cell? ⟨gb101, 3, none⟩ = some (.int .i64 t107) ∧ w72.cell? ⟨gb102, 0, none⟩ = some (.int .i64 t108) ∧ w72.cell? ⟨gb102, 1, none⟩ = some (.int .i64 t109) ∧ w72.cell? ⟨gb102, 2, none⟩ = some (.int .i64 t110) ∧ w72.cell? ⟨gb102, 3, none⟩ = some (.int .i64 t111) := hS_
          obtain ⟨co73, eo73⟩ := HA_HO122.out
          clear HA_HO122
          subst eo73
          refine norm_ (a' := ?_) ?_ ?_
          rotate_left
          ·simp only [putAll, Act.put, xset_a, xset_z, xset_s]
           rfl
          refine one_ (i := 8) (N := some 10) #[true, true, true, true, true, true, true, true, true, false] rfl rfl (one_of HT_.out (by kernel_rfl)) (by decide) (fun K hK => ?_)
          refine box_step ?hg (N := 10) ?hd (cs := #[.string ⟨#[]⟩, .int .i64 0, .int .i64 0, .int .i64 0, .int .i64 0, .string ⟨#[]⟩, .int .i64 0, .int .i64 0, .int .i64 0, .int .i64 0, .string ⟨#[]⟩]) (t := 28) ?hr ?_; (case hd => rfl); (case hg => rfl); (case hr => first | (go_simp; done) | (go_simp; rfl))
          intro gb125 hg w74 hbox hb
          have n0_ := Aside0.mk (Kd.R_below (by (with_reducible repeat (first | apply Kd.R_alloc | apply Kd.R_drewN | apply Kd.R_drew)); exact HO_9.out) hb)
          have n1_ := Aside0.mk (Kd.R_below (by (with_reducible repeat (first | apply Kd.R_alloc | apply Kd.R_drewN | apply Kd.R_drew)); exact HO122.out) hb)
          have n2_ := Aside0.mk (blk_below (g := gb101) (o := .cells #[.int .i64 t104, .int .i64 t105, .int .i64 t106, .int .i64 t107] 26 (0, 0)) (by (with_reducible repeat (first | refine blk_drewN ?_ _ | refine blk_drew ?_ | refine blk_alloc ?_ _)); exact BK101.out) hb)
          have n3_ := Aside0.mk (blk_below (g := gb102) (o := .cells #[.int .i64 t108, .int .i64 t109, .int .i64 t110, .int .i64 t111] 26 (0, 0)) (by (with_reducible repeat (first | refine blk_drewN ?_ _ | refine blk_drew ?_ | refine blk_alloc ?_ _)); exact BK102.out) hb)
          have n4_ := Aside0.mk (below_step (by repeat (first | (with_reducible first | exact HB.out | apply below_alloc | apply pw_below_drewN | apply below_drew1 | refine below_set ?_ GE101.out | refine below_set ?_ GE102.out) | exact HB.out)) hb)
          have n5_ := Aside0.mk (hbox)
          have n6_ := Aside0.mk ((by rw [hg]; exact (below_size (by repeat (first | (with_reducible first | exact HB.out | apply below_alloc | apply pw_below_drewN | apply below_drew1 | refine below_set ?_ GE101.out | refine below_set ?_ GE102.out) | exact HB.out))) : w.heap.size ≤ gb125))
          have n7_ := Aside0.mk ((by rw [hg]; exact (below_size (by repeat (first | (with_reducible first | exact HB.out | apply below_alloc | apply pw_below_drewN | apply below_drew1 | refine below_set ?_ GE101.out | refine below_set ?_ GE102.out) | exact HB.out))) : w.heap.size ≤ gb125))
          have n8_ := Aside0.mk ((by rw [hg]; exact Nat.ne_of_lt (blk_lt (g := gb101) (o := .cells #[.int .i64 t104, .int .i64 t105, .int .i64 t106, .int .i64 t107] 26 (0, 0)) (by (with_reducible repeat (first | refine blk_drewN ?_ _ | refine blk_drew ?_ | refine blk_alloc ?_ _)); exact BK101.out)) : gb101 ≠ gb125))
          have n9_ := Aside0.mk ((by rw [hg]; exact Nat.ne_of_gt (blk_lt (g := gb101) (o := .cells #[.int .i64 t104, .int .i64 t105, .int .i64 t106, .int .i64 t107] 26 (0, 0)) (by (with_reducible repeat (first | refine blk_drewN ?_ _ | refine blk_drew ?_ | refine blk_alloc ?_ _)); exact BK101.out)) : gb125 ≠ gb101))
          have n10_ := Aside0.mk ((by rw [hg]; exact Nat.ne_of_lt (blk_lt (g := gb102) (o := .cells #[.int .i64 t108, .int .i64 t109, .int .i64 t110, .int .i64 t111] 26 (0, 0)) (by (with_reducible repeat (first | refine blk_drewN ?_ _ | refine blk_drew ?_ | refine blk_alloc ?_ _)); exact BK102.out)) : gb102 ≠ gb125))
          have n11_ := Aside0.mk ((by rw [hg]; exact Nat.ne_of_gt (blk_lt (g := gb102) (o := .cells #[.int .i64 t108, .int .i64 t109, .int .i64 t110, .int .i64 t111] 26 (0, 0)) (by (with_reducible repeat (first | refine blk_drewN ?_ _ | refine blk_drew ?_ | refine blk_alloc ?_ _)); exact BK102.out)) : gb125 ≠ gb102))
          clear HO_9 HO122 BK101 BK102 HB
          have HO_9 := n0_; have HO122 := n1_; have BK101 := n2_; have BK102 := n3_; have HB := n4_; have BK125 := n5_; have GW125 := n6_; have GE125 := n7_; have NB101_125 := n8_; have NB125_101 := n9_; have NB102_125 := n10_; have NB125_102 := n11_
          clear n0_ n1_ n2_ n3_ n4_ n5_ n6_ n7_ n8_ n9_ n10_ n11_
          clear hb hbox hg
          refine hK.out _ _ ⟨(blk_cell BK101.out 0).trans rfl, (blk_cell BK101.out 1).trans rfl, (blk_cell BK101.out 2).trans rfl, (blk_cell BK101.out 3).trans rfl, (blk_cell BK102.out 0).trans rfl, (blk_cell BK102.out 1).trans rfl, (blk_cell BK102.out 2).trans rfl, (blk_cell BK102.out 3).trans rfl⟩ (fun hHeld => ?_)
          clear hK K
          refine norm_ (a' := ?_) ?_ ?_
          rotate_left
          ·show Act.put _ (some 10) _ = _
           simp only [Act.put, xset_a, xset_z, xset_s, i64_w, i32_w]
           rfl
          exact norm_ (by simp only [putAll, Act.put, xset_a, xset_z, xset_s] <;> rfl) (hJ2_4_6_8 (.slice (some adz_v121) y120.length co73, adz_v121, gb125) _ ⟨hHeld, (by (with_reducible repeat (first | apply Kd.R_alloc | apply Kd.R_drewN | apply Kd.R_drew)); exact HO122.out), (by (with_reducible repeat (first | apply Kd.R_alloc | apply Kd.R_drewN | apply Kd.R_drew)); exact HO_9.out), ⟨_, rfl⟩, (by (with_reducible repeat (first | refine blk_drewN ?_ _ | refine blk_drew ?_ | refine blk_alloc ?_ _)); exact BK101.out), (by (with_reducible repeat (first | refine blk_drewN ?_ _ | refine blk_drew ?_ | refine blk_alloc ?_ _)); exact BK102.out), (by (with_reducible repeat (first | refine blk_drewN ?_ _ | refine blk_drew ?_ | refine blk_alloc ?_ _)); exact BK125.out), GW125.out, GE125.out, NB101_125.out, NB125_101.out, NB102_125.out, NB125_102.out, (by repeat (first | (with_reducible first | exact HB.out | apply below_alloc | apply pw_below_drewN | apply below_drew1 | refine below_set ?_ GE101.out | refine below_set ?_ GE102.out | refine below_set ?_ GE125.out) | exact HB.out))⟩)
        rintro ⟨v121, adz_v121, gb125⟩ w73 ⟨hS_, h0_, h1_, h2_, h3_, h4_, h5_, h6_, h7_, h8_, h9_, h10_, h11_, h12_⟩
        have n0_ : Aside0 (Kd.R Kd.string 9 w73 w.heap.size (fun _ => True) v121 y120) := ⟨h0_⟩
        have n1_ : Aside0 (Kd.R k44 44 w73 w.heap.size (fun _ => True) v114 x9_28) := ⟨h1_⟩
        have n2_ : Aside0 (∃ c_, (v121 : Value) = .slice (some adz_v121) y120.length c_) := ⟨h2_⟩
        have n3_ : Aside0 (w73.heap[gb101]? = some (.cells #[.int .i64 t104, .int .i64 t105, .int .i64 t106, .int .i64 t107] 26 (0, 0))) := ⟨h3_⟩
        have n4_ : Aside0 (w73.heap[gb102]? = some (.cells #[.int .i64 t108, .int .i64 t109, .int .i64 t110, .int .i64 t111] 26 (0, 0))) := ⟨h4_⟩
        have n5_ : Aside0 (w73.heap[gb125]? = some (.cells #[.string ⟨#[]⟩, .int .i64 0, .int .i64 0, .int .i64 0, .int .i64 0, .string ⟨#[]⟩, .int .i64 0, .int .i64 0, .int .i64 0, .int .i64 0, .string ⟨#[]⟩] 28 (0, 0))) := ⟨h5_⟩
        have n6_ : Aside0 (w.heap.size ≤ gb125) := ⟨h6_⟩
        have n7_ : Aside0 (w.heap.size ≤ gb125) := ⟨h7_⟩
        have n8_ : Aside0 (gb101 ≠ gb125) := ⟨h8_⟩
        have n9_ : Aside0 (gb125 ≠ gb101) := ⟨h9_⟩
        have n10_ : Aside0 (gb102 ≠ gb125) := ⟨h10_⟩
        have n11_ : Aside0 (gb125 ≠ gb102) := ⟨h11_⟩
        have n12_ : Aside0 (Below w.heap.size w w73) := ⟨h12_⟩
        clear HO_9 BK101 BK102 HB
        clear h0_ h1_ h2_ h3_ h4_ h5_ h6_ h7_ h8_ h9_ h10_ h11_ h12_
        have HO122 := n0_; have HO_9 := n1_; have HA_HO122 := n2_; have BK101 := n3_; have BK102 := n4_; have BK125 := n5_; have GW125 := n6_; have GE125 := n7_; have NB101_125 := n8_; have NB125_101 := n9_; have NB102_125 := n10_; have NB125_102 := n11_; have HB := n12_
        clear n0_ n1_ n2_ n3_ n4_ n5_ n6_ n7_ n8_ n9_ n10_ n11_ n12_
        have hHeld : w73.cell? ⟨gb101, 0, none⟩ = some (.int .i64 t104) ∧ w73.cell? ⟨gb101, 1, none⟩ = some (.int .i64 t105) ∧ w73.cell? ⟨gb101, 2, none⟩ = some (.int .i64 t106) ∧ w73.cell? ⟨gb101, 3, none⟩ = some (.int .i64 t107) ∧ w73.cell? ⟨gb102, 0, none⟩ = some (.int .i64 t108) ∧ w73.cell? ⟨gb102, 1, none⟩ = some (.int .i64 t109) ∧ w73.cell? ⟨gb102, 2, none⟩ = some (.int .i64 t110) ∧ w73.cell? ⟨gb102, 3, none⟩ = some (.int .i64 t111) := hS_
        obtain ⟨co74, eo74⟩ := HA_HO122.out
        clear HA_HO122
        subst eo74
        refine norm_ (a' := ?_) ?_ ?_
        rotate_left
        ·simp only [putAll, Act.put, xset_a, xset_z, xset_s]
         rfl
        refine one_ (i := 9) (N := none) #[true, true, true, true, true, true, true, true, true, true] rfl rfl (one_of HT_.out (by kernel_rfl)) (by decide) (fun K hK => ?_)
        have hs75 : w73.cell? ⟨gb125, 0, none⟩ = some (.string ⟨#[]⟩) := (blk_cell BK125.out 0).trans rfl
        have hfs75 := blk_frozen BK125.out 0
        have hns75_0 := NB101_125.out
        have hns75_1 := NB102_125.out
        have hms75_0 := NB125_101.out
        have hms75_1 := NB125_102.out
        have hs76 : w73.cell? ⟨gb125, 1, none⟩ = some (.int .i64 0) := (blk_cell BK125.out 1).trans rfl
        have hfs76 := blk_frozen BK125.out 1
        have hns76_0 := NB101_125.out
        have hns76_1 := NB102_125.out
        have hms76_0 := NB125_101.out
        have hms76_1 := NB125_102.out
        have hs77 : w73.cell? ⟨gb125, 2, none⟩ = some (.int .i64 0) := (blk_cell BK125.out 2).trans rfl
        have hfs77 := blk_frozen BK125.out 2
        have hns77_0 := NB101_125.out
        have hns77_1 := NB102_125.out
        have hms77_0 := NB125_101.out
        have hms77_1 := NB125_102.out
        have hs78 : w73.cell? ⟨gb125, 3, none⟩ = some (.int .i64 0) := (blk_cell BK125.out 3).trans rfl
        have hfs78 := blk_frozen BK125.out 3
        have hns78_0 := NB101_125.out
        have hns78_1 := NB102_125.out
        have hms78_0 := NB125_101.out
        have hms78_1 := NB125_102.out
        have hs79 : w73.cell? ⟨gb125, 4, none⟩ = some (.int .i64 0) := (blk_cell BK125.out 4).trans rfl
        have hfs79 := blk_frozen BK125.out 4
        have hns79_0 := NB101_125.out
        have hns79_1 := NB102_125.out
        have hms79_0 := NB125_101.out
        have hms79_1 := NB125_102.out
        have hs80 : w73.cell? ⟨gb125, 5, none⟩ = some (.string ⟨#[]⟩) := (blk_cell BK125.out 5).trans rfl
        have hfs80 := blk_frozen BK125.out 5
        have hns80_0 := NB101_125.out
        have hns80_1 := NB102_125.out
        have hms80_0 := NB125_101.out
        have hms80_1 := NB125_102.out
        have hs81 : w73.cell? ⟨gb125, 6, none⟩ = some (.int .i64 0) := (blk_cell BK125.out 6).trans rfl
        have hfs81 := blk_frozen BK125.out 6
        have hns81_0 := NB101_125.out
        have hns81_1 := NB102_125.out
        have hms81_0 := NB125_101.out
        have hms81_1 := NB125_102.out
        have hs82 : w73.cell? ⟨gb125, 7, none⟩ = some (.int .i64 0) := (blk_cell BK125.out 7).trans rfl
        have hfs82 := blk_frozen BK125.out 7
        have hns82_0 := NB101_125.out
        have hns82_1 := NB102_125.out
        have hms82_0 := NB125_101.out
        have hms82_1 := NB125_102.out
        have hs83 : w73.cell? ⟨gb125, 8, none⟩ = some (.int .i64 0) := (blk_cell BK125.out 8).trans rfl
        have hfs83 := blk_frozen BK125.out 8
        have hns83_0 := NB101_125.out
        have hns83_1 := NB102_125.out
        have hms83_0 := NB125_101.out
        have hms83_1 := NB125_102.out
        have hs84 : w73.cell? ⟨gb125, 9, none⟩ = some (.int .i64 0) := (blk_cell BK125.out 9).trans rfl
        have hfs84 := blk_frozen BK125.out 9
        have hns84_0 := NB101_125.out
        have hns84_1 := NB102_125.out
        have hms84_0 := NB125_101.out
        have hms84_1 := NB125_102.out
        have hs85 : w73.cell? ⟨gb125, 10, none⟩ = some (.string ⟨#[]⟩) := (blk_cell BK125.out 10).trans rfl
        have hfs85 := blk_frozen BK125.out 10
        have hns85_0 := NB101_125.out
        have hns85_1 := NB102_125.out
        have hms85_0 := NB125_101.out
        have hms85_1 := NB125_102.out
        with_reducible refine skip_ (w1 := ?_) ?_ rfl ?_ ?_
        rotate_left
        ·rfl
        ·go_simp
         rfl
        refine hK.out _ _ ⟨(by (iterate 11 (refine (cell_far (p := ⟨gb125, _, none⟩) NB101_125.out _).trans ?_)); exact hHeld.1), (by (iterate 11 (refine (cell_far (p := ⟨gb125, _, none⟩) NB101_125.out _).trans ?_)); exact hHeld.2.1), (by (iterate 11 (refine (cell_far (p := ⟨gb125, _, none⟩) NB101_125.out _).trans ?_)); exact hHeld.2.2.1), (by (iterate 11 (refine (cell_far (p := ⟨gb125, _, none⟩) NB101_125.out _).trans ?_)); exact hHeld.2.2.2.1), (by (iterate 11 (refine (cell_far (p := ⟨gb125, _, none⟩) NB102_125.out _).trans ?_)); exact hHeld.2.2.2.2.1), (by (iterate 11 (refine (cell_far (p := ⟨gb125, _, none⟩) NB102_125.out _).trans ?_)); exact hHeld.2.2.2.2.2.1), (by (iterate 11 (refine (cell_far (p := ⟨gb125, _, none⟩) NB102_125.out _).trans ?_)); exact hHeld.2.2.2.2.2.2.1), (by (iterate 11 (refine (cell_far (p := ⟨gb125, _, none⟩) NB102_125.out _).trans ?_)); exact hHeld.2.2.2.2.2.2.2)⟩ (fun hHeld => ?_)
        clear hK K
        refine done_ (done_of HT_.out (by kernel_rfl)) ?_
        have hnb86 := NB125_101.out
        have hnc86 := NB101_125.out
        have hnb87 := NB125_102.out
        have hnc87 := NB102_125.out
        have hcz88_0 : w73.cell? ⟨gb125, 0, none⟩ = some (.string ⟨#[]⟩) := (blk_cell BK125.out 0).trans rfl
        have hcz88_1 : w73.cell? ⟨gb125, 1, none⟩ = some (.int .i64 0) := (blk_cell BK125.out 1).trans rfl
        have hcz88_2 : w73.cell? ⟨gb125, 2, none⟩ = some (.int .i64 0) := (blk_cell BK125.out 2).trans rfl
        have hcz88_3 : w73.cell? ⟨gb125, 3, none⟩ = some (.int .i64 0) := (blk_cell BK125.out 3).trans rfl
        have hcz88_4 : w73.cell? ⟨gb125, 4, none⟩ = some (.int .i64 0) := (blk_cell BK125.out 4).trans rfl
        have hcz88_5 : w73.cell? ⟨gb125, 5, none⟩ = some (.string ⟨#[]⟩) := (blk_cell BK125.out 5).trans rfl
        have hcz88_6 : w73.cell? ⟨gb125, 6, none⟩ = some (.int .i64 0) := (blk_cell BK125.out 6).trans rfl
        have hcz88_7 : w73.cell? ⟨gb125, 7, none⟩ = some (.int .i64 0) := (blk_cell BK125.out 7).trans rfl
        have hcz88_8 : w73.cell? ⟨gb125, 8, none⟩ = some (.int .i64 0) := (blk_cell BK125.out 8).trans rfl
        have hcz88_9 : w73.cell? ⟨gb125, 9, none⟩ = some (.int .i64 0) := (blk_cell BK125.out 9).trans rfl
        have hcz88_10 : w73.cell? ⟨gb125, 10, none⟩ = some (.string ⟨#[]⟩) := (blk_cell BK125.out 10).trans rfl
        have hfz88_0 := blk_frozen BK125.out 0
        have hfz88_1 := blk_frozen BK125.out 1
        have hfz88_2 := blk_frozen BK125.out 2
        have hfz88_3 := blk_frozen BK125.out 3
        have hfz88_4 := blk_frozen BK125.out 4
        have hfz88_5 := blk_frozen BK125.out 5
        have hfz88_6 := blk_frozen BK125.out 6
        have hfz88_7 := blk_frozen BK125.out 7
        have hfz88_8 := blk_frozen BK125.out 8
        have hfz88_9 := blk_frozen BK125.out 9
        have hfz88_10 := blk_frozen BK125.out 10
        obtain ⟨Ao89, co89, eo89⟩ := Kd.R_slice HO_9.out
        subst eo89
        try go_wp2_with (first | ((with_reducible refine gate_callee (f := 19) rfl ?_); refine goesL_ (some 57) rfl rfl Try.func19 (by kernel_rfl) rfl #[.slice Ao89 x9_28.length co89, .agg #[.string ⟨#[97]⟩, .int .i64 t104, .int .i64 t105, .int .i64 t106, .int .i64 t107, .string ⟨#[98]⟩, .int .i64 t108, .int .i64 t109, .int .i64 t110, .int .i64 t111, .string (rdOf ByteArray.empty y120 t123)]] rfl (by (try simp only [List.map_toArray, List.map_cons, List.map_nil]); first | done | rfl | (simp only [List.length_drop, List.length_take]; rfl)) ?_; (with_reducible refine (mail_Rule.calls kj28 _ _ x9_28 (⟨#[97]⟩ : ByteArray) t104 t105 t106 t107 (⟨#[98]⟩ : ByteArray) t108 t109 t110 t111 (rdOf ByteArray.empty y120 t123) t126 t127 t128 t129 t130 t131 t132 t133 t134 t135 _ ?side1 ?side2 A64.out).mono ?_); (case side1 => refine (Kd.R_reads' (e := 44) (base := w.heap.size) (ok := fun k_ => True) (n := x9_28.length) (c := co89) ?_).2.2; exact (by (with_reducible repeat (first | apply Kd.R_alloc | apply Kd.R_drewN | apply Kd.R_drew)); exact (Kd.R_mono (Kd.R_far (p := ⟨gb125, 10, none⟩) (Kd.R_far (p := ⟨gb125, 9, none⟩) (Kd.R_far (p := ⟨gb125, 8, none⟩) (Kd.R_far (p := ⟨gb125, 7, none⟩) (Kd.R_far (p := ⟨gb125, 6, none⟩) (Kd.R_far (p := ⟨gb125, 5, none⟩) (Kd.R_far (p := ⟨gb125, 4, none⟩) (Kd.R_far (p := ⟨gb125, 3, none⟩) (Kd.R_far (p := ⟨gb125, 2, none⟩) (Kd.R_far (p := ⟨gb125, 1, none⟩) (Kd.R_far (p := ⟨gb125, 0, none⟩) (Kd.R_types HO_9.out BK125.out (by decide)) (fun _ hk => hk.2) (.string ⟨#[97]⟩)) (fun _ hk => hk.2) (.int .i64 t104)) (fun _ hk => hk.2) (.int .i64 t105)) (fun _ hk => hk.2) (.int .i64 t106)) (fun _ hk => hk.2) (.int .i64 t107)) (fun _ hk => hk.2) (.string ⟨#[98]⟩)) (fun _ hk => hk.2) (.int .i64 t108)) (fun _ hk => hk.2) (.int .i64 t109)) (fun _ hk => hk.2) (.int .i64 t110)) (fun _ hk => hk.2) (.int .i64 t111)) (fun _ hk => hk.2) (.string (rdOf ByteArray.empty y120 t123))) (fun _ h_ => h_.1)))); (case side2 => exact (Kd.R_reads' HO_9.out).2.1); rintro e w90 ⟨rfl, hb⟩; refine ⟨_, rfl, ?_⟩; have n0_ := Aside0.mk (Kd.R_below (by (with_reducible repeat (first | apply Kd.R_alloc | apply Kd.R_drewN | apply Kd.R_drew)); exact (Kd.R_mono (Kd.R_far (p := ⟨gb125, 10, none⟩) (Kd.R_far (p := ⟨gb125, 9, none⟩) (Kd.R_far (p := ⟨gb125, 8, none⟩) (Kd.R_far (p := ⟨gb125, 7, none⟩) (Kd.R_far (p := ⟨gb125, 6, none⟩) (Kd.R_far (p := ⟨gb125, 5, none⟩) (Kd.R_far (p := ⟨gb125, 4, none⟩) (Kd.R_far (p := ⟨gb125, 3, none⟩) (Kd.R_far (p := ⟨gb125, 2, none⟩) (Kd.R_far (p := ⟨gb125, 1, none⟩) (Kd.R_far (p := ⟨gb125, 0, none⟩) (Kd.R_types HO_9.out BK125.out (by decide)) (fun _ hk => hk.2) (.string ⟨#[97]⟩)) (fun _ hk => hk.2) (.int .i64 t104)) (fun _ hk => hk.2) (.int .i64 t105)) (fun _ hk => hk.2) (.int .i64 t106)) (fun _ hk => hk.2) (.int .i64 t107)) (fun _ hk => hk.2) (.string ⟨#[98]⟩)) (fun _ hk => hk.2) (.int .i64 t108)) (fun _ hk => hk.2) (.int .i64 t109)) (fun _ hk => hk.2) (.int .i64 t110)) (fun _ hk => hk.2) (.int .i64 t111)) (fun _ hk => hk.2) (.string (rdOf ByteArray.empty y120 t123))) (fun _ h_ => h_.1))) hb); have n1_ := Aside0.mk (Kd.R_below (by (with_reducible repeat (first | apply Kd.R_alloc | apply Kd.R_drewN | apply Kd.R_drew)); exact (Kd.R_mono (Kd.R_far (p := ⟨gb125, 10, none⟩) (Kd.R_far (p := ⟨gb125, 9, none⟩) (Kd.R_far (p := ⟨gb125, 8, none⟩) (Kd.R_far (p := ⟨gb125, 7, none⟩) (Kd.R_far (p := ⟨gb125, 6, none⟩) (Kd.R_far (p := ⟨gb125, 5, none⟩) (Kd.R_far (p := ⟨gb125, 4, none⟩) (Kd.R_far (p := ⟨gb125, 3, none⟩) (Kd.R_far (p := ⟨gb125, 2, none⟩) (Kd.R_far (p := ⟨gb125, 1, none⟩) (Kd.R_far (p := ⟨gb125, 0, none⟩) (Kd.R_types HO122.out BK125.out (by decide)) (fun _ hk => hk.2) (.string ⟨#[97]⟩)) (fun _ hk => hk.2) (.int .i64 t104)) (fun _ hk => hk.2) (.int .i64 t105)) (fun _ hk => hk.2) (.int .i64 t106)) (fun _ hk => hk.2) (.int .i64 t107)) (fun _ hk => hk.2) (.string ⟨#[98]⟩)) (fun _ hk => hk.2) (.int .i64 t108)) (fun _ hk => hk.2) (.int .i64 t109)) (fun _ hk => hk.2) (.int .i64 t110)) (fun _ hk => hk.2) (.int .i64 t111)) (fun _ hk => hk.2) (.string (rdOf ByteArray.empty y120 t123))) (fun _ h_ => h_.1))) hb); have n2_ := Aside0.mk (blk_below (g := gb101) (o := .cells #[.int .i64 t104, .int .i64 t105, .int .i64 t106, .int .i64 t107] 26 (0, 0)) (by (iterate 11 ((with_reducible repeat (first | refine blk_drewN ?_ _ | refine blk_drew ?_ | refine blk_alloc ?_ _)); refine blk_far ?_ NB101_125.out _)); (with_reducible repeat (first | refine blk_drewN ?_ _ | refine blk_drew ?_ | refine blk_alloc ?_ _)); exact BK101.out) hb); have n3_ := Aside0.mk (blk_below (g := gb102) (o := .cells #[.int .i64 t108, .int .i64 t109, .int .i64 t110, .int .i64 t111] 26 (0, 0)) (by (iterate 11 ((with_reducible repeat (first | refine blk_drewN ?_ _ | refine blk_drew ?_ | refine blk_alloc ?_ _)); refine blk_far ?_ NB102_125.out _)); (with_reducible repeat (first | refine blk_drewN ?_ _ | refine blk_drew ?_ | refine blk_alloc ?_ _)); exact BK102.out) hb); have n4_ := Aside0.mk (blk_below (g := gb125) (o := .cells #[.string ⟨#[97]⟩, .int .i64 t104, .int .i64 t105, .int .i64 t106, .int .i64 t107, .string ⟨#[98]⟩, .int .i64 t108, .int .i64 t109, .int .i64 t110, .int .i64 t111, .string (rdOf ByteArray.empty y120 t123)] 28 (0, 0)) (by (with_reducible repeat (first | refine blk_drewN ?_ _ | refine blk_drew ?_ | refine blk_alloc ?_ _)); refine blk_put (cs := #[.string ⟨#[97]⟩, .int .i64 t104, .int .i64 t105, .int .i64 t106, .int .i64 t107, .string ⟨#[98]⟩, .int .i64 t108, .int .i64 t109, .int .i64 t110, .int .i64 t111, .string ⟨#[]⟩]) ?_ 10 _ rfl; (with_reducible repeat (first | refine blk_drewN ?_ _ | refine blk_drew ?_ | refine blk_alloc ?_ _)); refine blk_put (cs := #[.string ⟨#[97]⟩, .int .i64 t104, .int .i64 t105, .int .i64 t106, .int .i64 t107, .string ⟨#[98]⟩, .int .i64 t108, .int .i64 t109, .int .i64 t110, .int .i64 0, .string ⟨#[]⟩]) ?_ 9 _ rfl; (with_reducible repeat (first | refine blk_drewN ?_ _ | refine blk_drew ?_ | refine blk_alloc ?_ _)); refine blk_put (cs := #[.string ⟨#[97]⟩, .int .i64 t104, .int .i64 t105, .int .i64 t106, .int .i64 t107, .string ⟨#[98]⟩, .int .i64 t108, .int .i64 t109, .int .i64 0, .int .i64 0, .string ⟨#[]⟩]) ?_ 8 _ rfl; (with_reducible repeat (first | refine blk_drewN ?_ _ | refine blk_drew ?_ | refine blk_alloc ?_ _)); refine blk_put (cs := #[.string ⟨#[97]⟩, .int .i64 t104, .int .i64 t105, .int .i64 t106, .int .i64 t107, .string ⟨#[98]⟩, .int .i64 t108, .int .i64 0, .int .i64 0, .int .i64 0, .string ⟨#[]⟩]) ?_ 7 _ rfl; (with_reducible repeat (first | refine blk_drewN ?_ _ | refine blk_drew ?_ | refine blk_alloc ?_ _)); refine blk_put (cs := #[.string ⟨#[97]⟩, .int .i64 t104, .int .i64 t105, .int .i64 t106, .int .i64 t107, .string ⟨#[98]⟩, .int .i64 0, .int .i64 0, .int .i64 0, .int .i64 0, .string ⟨#[]⟩]) ?_ 6 _ rfl; (with_reducible repeat (first | refine blk_drewN ?_ _ | refine blk_drew ?_ | refine blk_alloc ?_ _)); refine blk_put (cs := #[.string ⟨#[97]⟩, .int .i64 t104, .int .i64 t105, .int .i64 t106, .int .i64 t107, .string ⟨#[]⟩, .int .i64 0, .int .i64 0, .int .i64 0, .int .i64 0, .string ⟨#[]⟩]) ?_ 5 _ rfl; (with_reducible repeat (first | refine blk_drewN ?_ _ | refine blk_drew ?_ | refine blk_alloc ?_ _)); refine blk_put (cs := #[.string ⟨#[97]⟩, .int .i64 t104, .int .i64 t105, .int .i64 t106, .int .i64 0, .string ⟨#[]⟩, .int .i64 0, .int .i64 0, .int .i64 0, .int .i64 0, .string ⟨#[]⟩]) ?_ 4 _ rfl; (with_reducible repeat (first | refine blk_drewN ?_ _ | refine blk_drew ?_ | refine blk_alloc ?_ _)); refine blk_put (cs := #[.string ⟨#[97]⟩, .int .i64 t104, .int .i64 t105, .int .i64 0, .int .i64 0, .string ⟨#[]⟩, .int .i64 0, .int .i64 0, .int .i64 0, .int .i64 0, .string ⟨#[]⟩]) ?_ 3 _ rfl; (with_reducible repeat (first | refine blk_drewN ?_ _ | refine blk_drew ?_ | refine blk_alloc ?_ _)); refine blk_put (cs := #[.string ⟨#[97]⟩, .int .i64 t104, .int .i64 0, .int .i64 0, .int .i64 0, .string ⟨#[]⟩, .int .i64 0, .int .i64 0, .int .i64 0, .int .i64 0, .string ⟨#[]⟩]) ?_ 2 _ rfl; (with_reducible repeat (first | refine blk_drewN ?_ _ | refine blk_drew ?_ | refine blk_alloc ?_ _)); refine blk_put (cs := #[.string ⟨#[97]⟩, .int .i64 0, .int .i64 0, .int .i64 0, .int .i64 0, .string ⟨#[]⟩, .int .i64 0, .int .i64 0, .int .i64 0, .int .i64 0, .string ⟨#[]⟩]) ?_ 1 _ rfl; (with_reducible repeat (first | refine blk_drewN ?_ _ | refine blk_drew ?_ | refine blk_alloc ?_ _)); refine blk_put (cs := #[.string ⟨#[]⟩, .int .i64 0, .int .i64 0, .int .i64 0, .int .i64 0, .string ⟨#[]⟩, .int .i64 0, .int .i64 0, .int .i64 0, .int .i64 0, .string ⟨#[]⟩]) ?_ 0 _ rfl; (with_reducible repeat (first | refine blk_drewN ?_ _ | refine blk_drew ?_ | refine blk_alloc ?_ _)); exact BK125.out) hb); have n5_ := Aside0.mk (below_step (by repeat (first | (with_reducible first | exact HB.out | apply below_alloc | apply pw_below_drewN | apply below_drew1 | refine below_set ?_ GE101.out | refine below_set ?_ GE102.out | refine below_set ?_ GE125.out) | exact HB.out)) hb); clear HO_9 HO122 BK101 BK102 BK125 HB; have HO_9 := n0_; have HO122 := n1_; have BK101 := n2_; have BK102 := n3_; have BK125 := n4_; have HB := n5_; clear n0_ n1_ n2_ n3_ n4_ n5_; (try clear hb); (try clear hb2); (try clear hk); (try clear hi)) | ((with_reducible refine gate_dst (N := 11) rfl ?_); refine box_event ?hg (N := 11) ?hd (cs := #[.int .i64 0, .int .i64 0, .int .i64 0, .int .i64 0, .int .i64 0, .int .i64 0, .int .i64 0, .int .i64 0, .string ⟨#[]⟩]) (t := 44) ?hr ?_; (case hd => rfl); (case hg => rfl); (case hr => first | (go_simp; done) | (go_simp; rfl)); intro gb136 hg w91 hbox hb; have n0_ := Aside0.mk (Kd.R_below (Kd.R_elderB (by (with_reducible repeat (first | apply Kd.R_alloc | apply Kd.R_drewN | apply Kd.R_drew)); exact HO_9.out) gb136 (Nat.le_of_eq hg.symm)) hb); have n1_ := Aside0.mk (Kd.R_below (by (with_reducible repeat (first | apply Kd.R_alloc | apply Kd.R_drewN | apply Kd.R_drew)); exact HO122.out) hb); have n2_ := Aside0.mk (blk_below (g := gb101) (o := .cells #[.int .i64 t104, .int .i64 t105, .int .i64 t106, .int .i64 t107] 26 (0, 0)) (by (with_reducible repeat (first | refine blk_drewN ?_ _ | refine blk_drew ?_ | refine blk_alloc ?_ _)); exact BK101.out) hb); have n3_ := Aside0.mk (blk_below (g := gb102) (o := .cells #[.int .i64 t108, .int .i64 t109, .int .i64 t110, .int .i64 t111] 26 (0, 0)) (by (with_reducible repeat (first | refine blk_drewN ?_ _ | refine blk_drew ?_ | refine blk_alloc ?_ _)); exact BK102.out) hb); have n4_ := Aside0.mk (blk_below (g := gb125) (o := .cells #[.string ⟨#[97]⟩, .int .i64 t104, .int .i64 t105, .int .i64 t106, .int .i64 t107, .string ⟨#[98]⟩, .int .i64 t108, .int .i64 t109, .int .i64 t110, .int .i64 t111, .string (rdOf ByteArray.empty y120 t123)] 28 (0, 0)) (by (with_reducible repeat (first | refine blk_drewN ?_ _ | refine blk_drew ?_ | refine blk_alloc ?_ _)); exact BK125.out) hb); have n5_ := Aside0.mk (below_step (by repeat (first | (with_reducible first | exact HB.out | apply below_alloc | apply pw_below_drewN | apply below_drew1 | refine below_set ?_ GE101.out | refine below_set ?_ GE102.out | refine below_set ?_ GE125.out) | exact HB.out)) hb); have n6_ := Aside0.mk (hbox); have n7_ := Aside0.mk ((by rw [hg]; exact (below_size (by repeat (first | (with_reducible first | exact HB.out | apply below_alloc | apply pw_below_drewN | apply below_drew1 | refine below_set ?_ GE101.out | refine below_set ?_ GE102.out | refine below_set ?_ GE125.out) | exact HB.out))) : w.heap.size ≤ gb136)); have n8_ := Aside0.mk ((by rw [hg]; exact (below_size (by repeat (first | (with_reducible first | exact HB.out | apply below_alloc | apply pw_below_drewN | apply below_drew1 | refine below_set ?_ GE101.out | refine below_set ?_ GE102.out | refine below_set ?_ GE125.out) | exact HB.out))) : w.heap.size ≤ gb136)); have n9_ := Aside0.mk ((by rw [hg]; exact Nat.ne_of_lt (blk_lt (g := gb101) (o := .cells #[.int .i64 t104, .int .i64 t105, .int .i64 t106, .int .i64 t107] 26 (0, 0)) (by (with_reducible repeat (first | refine blk_drewN ?_ _ | refine blk_drew ?_ | refine blk_alloc ?_ _)); exact BK101.out)) : gb101 ≠ gb136)); have n10_ := Aside0.mk ((by rw [hg]; exact Nat.ne_of_gt (blk_lt (g := gb101) (o := .cells #[.int .i64 t104, .int .i64 t105, .int .i64 t106, .int .i64 t107] 26 (0, 0)) (by (with_reducible repeat (first | refine blk_drewN ?_ _ | refine blk_drew ?_ | refine blk_alloc ?_ _)); exact BK101.out)) : gb136 ≠ gb101)); have n11_ := Aside0.mk ((by rw [hg]; exact Nat.ne_of_lt (blk_lt (g := gb102) (o := .cells #[.int .i64 t108, .int .i64 t109, .int .i64 t110, .int .i64 t111] 26 (0, 0)) (by (with_reducible repeat (first | refine blk_drewN ?_ _ | refine blk_drew ?_ | refine blk_alloc ?_ _)); exact BK102.out)) : gb102 ≠ gb136)); have n12_ := Aside0.mk ((by rw [hg]; exact Nat.ne_of_gt (blk_lt (g := gb102) (o := .cells #[.int .i64 t108, .int .i64 t109, .int .i64 t110, .int .i64 t111] 26 (0, 0)) (by (with_reducible repeat (first | refine blk_drewN ?_ _ | refine blk_drew ?_ | refine blk_alloc ?_ _)); exact BK102.out)) : gb136 ≠ gb102)); have n13_ := Aside0.mk ((by rw [hg]; exact Nat.ne_of_lt (blk_lt (g := gb125) (o := .cells #[.string ⟨#[97]⟩, .int .i64 t104, .int .i64 t105, .int .i64 t106, .int .i64 t107, .string ⟨#[98]⟩, .int .i64 t108, .int .i64 t109, .int .i64 t110, .int .i64 t111, .string (rdOf ByteArray.empty y120 t123)] 28 (0, 0)) (by (with_reducible repeat (first | refine blk_drewN ?_ _ | refine blk_drew ?_ | refine blk_alloc ?_ _)); exact BK125.out)) : gb125 ≠ gb136)); have n14_ := Aside0.mk ((by rw [hg]; exact Nat.ne_of_gt (blk_lt (g := gb125) (o := .cells #[.string ⟨#[97]⟩, .int .i64 t104, .int .i64 t105, .int .i64 t106, .int .i64 t107, .string ⟨#[98]⟩, .int .i64 t108, .int .i64 t109, .int .i64 t110, .int .i64 t111, .string (rdOf ByteArray.empty y120 t123)] 28 (0, 0)) (by (with_reducible repeat (first | refine blk_drewN ?_ _ | refine blk_drew ?_ | refine blk_alloc ?_ _)); exact BK125.out)) : gb136 ≠ gb125)); clear HO_9 HO122 BK101 BK102 BK125 HB; have HO_9 := n0_; have HO122 := n1_; have BK101 := n2_; have BK102 := n3_; have BK125 := n4_; have HB := n5_; have BK136 := n6_; have GW136 := n7_; have GE136 := n8_; have NB101_136 := n9_; have NB136_101 := n10_; have NB102_136 := n11_; have NB136_102 := n12_; have NB125_136 := n13_; have NB136_125 := n14_; clear n0_ n1_ n2_ n3_ n4_ n5_ n6_ n7_ n8_ n9_ n10_ n11_ n12_ n13_ n14_; clear hb hbox hg; have hnb92 := NB136_101.out; have hnc92 := NB101_136.out; have hnb93 := NB136_102.out; have hnc93 := NB102_136.out; have hnb94 := NB136_125.out; have hnc94 := NB125_136.out; have hcz95_0 : w91.cell? ⟨gb136, 0, none⟩ = some (.int .i64 0) := (blk_cell BK136.out 0).trans rfl; have hcz95_1 : w91.cell? ⟨gb136, 1, none⟩ = some (.int .i64 0) := (blk_cell BK136.out 1).trans rfl; have hcz95_2 : w91.cell? ⟨gb136, 2, none⟩ = some (.int .i64 0) := (blk_cell BK136.out 2).trans rfl; have hcz95_3 : w91.cell? ⟨gb136, 3, none⟩ = some (.int .i64 0) := (blk_cell BK136.out 3).trans rfl; have hcz95_4 : w91.cell? ⟨gb136, 4, none⟩ = some (.int .i64 0) := (blk_cell BK136.out 4).trans rfl; have hcz95_5 : w91.cell? ⟨gb136, 5, none⟩ = some (.int .i64 0) := (blk_cell BK136.out 5).trans rfl; have hcz95_6 : w91.cell? ⟨gb136, 6, none⟩ = some (.int .i64 0) := (blk_cell BK136.out 6).trans rfl; have hcz95_7 : w91.cell? ⟨gb136, 7, none⟩ = some (.int .i64 0) := (blk_cell BK136.out 7).trans rfl; have hcz95_8 : w91.cell? ⟨gb136, 8, none⟩ = some (.string ⟨#[]⟩) := (blk_cell BK136.out 8).trans rfl; have hfz95_0 := blk_frozen BK136.out 0; have hfz95_1 := blk_frozen BK136.out 1; have hfz95_2 := blk_frozen BK136.out 2; have hfz95_3 := blk_frozen BK136.out 3; have hfz95_4 := blk_frozen BK136.out 4; have hfz95_5 := blk_frozen BK136.out 5; have hfz95_6 := blk_frozen BK136.out 6; have hfz95_7 := blk_frozen BK136.out 7; have hfz95_8 := blk_frozen BK136.out 8; have hcz96_0 : w91.cell? ⟨gb125, 0, none⟩ = some (.string ⟨#[97]⟩) := (blk_cell BK125.out 0).trans rfl; have hcz96_1 : w91.cell? ⟨gb125, 1, none⟩ = some (.int .i64 t104) := (blk_cell BK125.out 1).trans rfl; have hcz96_2 : w91.cell? ⟨gb125, 2, none⟩ = some (.int .i64 t105) := (blk_cell BK125.out 2).trans rfl; have hcz96_3 : w91.cell? ⟨gb125, 3, none⟩ = some (.int .i64 t106) := (blk_cell BK125.out 3).trans rfl; have hcz96_4 : w91.cell? ⟨gb125, 4, none⟩ = some (.int .i64 t107) := (blk_cell BK125.out 4).trans rfl; have hcz96_5 : w91.cell? ⟨gb125, 5, none⟩ = some (.string ⟨#[98]⟩) := (blk_cell BK125.out 5).trans rfl; have hcz96_6 : w91.cell? ⟨gb125, 6, none⟩ = some (.int .i64 t108) := (blk_cell BK125.out 6).trans rfl; have hcz96_7 : w91.cell? ⟨gb125, 7, none⟩ = some (.int .i64 t109) := (blk_cell BK125.out 7).trans rfl; have hcz96_8 : w91.cell? ⟨gb125, 8, none⟩ = some (.int .i64 t110) := (blk_cell BK125.out 8).trans rfl; have hcz96_9 : w91.cell? ⟨gb125, 9, none⟩ = some (.int .i64 t111) := (blk_cell BK125.out 9).trans rfl; have hcz96_10 : w91.cell? ⟨gb125, 10, none⟩ = some (.string (rdOf ByteArray.empty y120 t123)) := (blk_cell BK125.out 10).trans rfl; have hfz96_0 := blk_frozen BK125.out 0; have hfz96_1 := blk_frozen BK125.out 1; have hfz96_2 := blk_frozen BK125.out 2; have hfz96_3 := blk_frozen BK125.out 3; have hfz96_4 := blk_frozen BK125.out 4; have hfz96_5 := blk_frozen BK125.out 5; have hfz96_6 := blk_frozen BK125.out 6; have hfz96_7 := blk_frozen BK125.out 7; have hfz96_8 := blk_frozen BK125.out 8; have hfz96_9 := blk_frozen BK125.out 9; have hfz96_10 := blk_frozen BK125.out 10) | ((with_reducible refine gate_callee (f := 11) rfl ?_); refine goesL_ (some 63) rfl rfl Try.func11 (by kernel_rfl) rfl #[.slice Ao89 x9_28.length co89, .agg #[.string ⟨#[97]⟩, .int .i64 t104, .int .i64 t105, .int .i64 t106, .int .i64 t107, .string ⟨#[98]⟩, .int .i64 t108, .int .i64 t109, .int .i64 t110, .int .i64 t111, .string (rdOf ByteArray.empty y120 t123)]] rfl (by (try simp only [List.map_toArray, List.map_cons, List.map_nil]); first | done | rfl | (simp only [List.length_drop, List.length_take]; rfl)) ?_; (with_reducible refine (mail_Send.calls kj28 _ _ x9_28 (⟨#[97]⟩ : ByteArray) t104 t105 t106 t107 (⟨#[98]⟩ : ByteArray) t108 t109 t110 t111 (rdOf ByteArray.empty y120 t123) t137 t138 _ ?side1 ?side2 A65.out).mono ?_); (case side1 => refine (Kd.R_reads' (e := 44) (base := w.heap.size) (ok := fun k_ => (True ∧ k_ ≠ gb136)) (n := x9_28.length) (c := co89) ?_).2.2; exact (by (with_reducible repeat (first | apply Kd.R_alloc | apply Kd.R_drewN | apply Kd.R_drew)); exact (Kd.R_mono (Kd.R_far (p := ⟨gb136, 8, none⟩) (Kd.R_far (p := ⟨gb136, 7, none⟩) (Kd.R_far (p := ⟨gb136, 6, none⟩) (Kd.R_far (p := ⟨gb136, 5, none⟩) (Kd.R_far (p := ⟨gb136, 4, none⟩) (Kd.R_far (p := ⟨gb136, 3, none⟩) (Kd.R_far (p := ⟨gb136, 2, none⟩) (Kd.R_far (p := ⟨gb136, 1, none⟩) (Kd.R_far (p := ⟨gb136, 0, none⟩) (Kd.R_mono HO_9.out (fun k_ hk => (⟨hk, hk.2⟩ : _ ∧ k_ ≠ gb136))) (fun _ hk => hk.2) (.int .i64 t126)) (fun _ hk => hk.2) (.int .i64 t127)) (fun _ hk => hk.2) (.int .i64 t128)) (fun _ hk => hk.2) (.int .i64 t129)) (fun _ hk => hk.2) (.int .i64 t130)) (fun _ hk => hk.2) (.int .i64 t131)) (fun _ hk => hk.2) (.int .i64 t132)) (fun _ hk => hk.2) (.int .i64 t133)) (fun _ hk => hk.2) (.string t134)) (fun _ h_ => h_.1)))); (case side2 => exact (Kd.R_reads' HO_9.out).2.1); rintro e w97 ⟨rfl, hb⟩; refine ⟨_, rfl, ?_⟩; have n0_ := Aside0.mk (Kd.R_below (by (with_reducible repeat (first | apply Kd.R_alloc | apply Kd.R_drewN | apply Kd.R_drew)); exact (Kd.R_mono (Kd.R_far (p := ⟨gb136, 8, none⟩) (Kd.R_far (p := ⟨gb136, 7, none⟩) (Kd.R_far (p := ⟨gb136, 6, none⟩) (Kd.R_far (p := ⟨gb136, 5, none⟩) (Kd.R_far (p := ⟨gb136, 4, none⟩) (Kd.R_far (p := ⟨gb136, 3, none⟩) (Kd.R_far (p := ⟨gb136, 2, none⟩) (Kd.R_far (p := ⟨gb136, 1, none⟩) (Kd.R_far (p := ⟨gb136, 0, none⟩) (Kd.R_mono HO_9.out (fun k_ hk => (⟨hk, hk.2⟩ : _ ∧ k_ ≠ gb136))) (fun _ hk => hk.2) (.int .i64 t126)) (fun _ hk => hk.2) (.int .i64 t127)) (fun _ hk => hk.2) (.int .i64 t128)) (fun _ hk => hk.2) (.int .i64 t129)) (fun _ hk => hk.2) (.int .i64 t130)) (fun _ hk => hk.2) (.int .i64 t131)) (fun _ hk => hk.2) (.int .i64 t132)) (fun _ hk => hk.2) (.int .i64 t133)) (fun _ hk => hk.2) (.string t134)) (fun _ h_ => h_.1))) hb); have n1_ := Aside0.mk (Kd.R_below (by (with_reducible repeat (first | apply Kd.R_alloc | apply Kd.R_drewN | apply Kd.R_drew)); exact (Kd.R_mono (Kd.R_far (p := ⟨gb136, 8, none⟩) (Kd.R_far (p := ⟨gb136, 7, none⟩) (Kd.R_far (p := ⟨gb136, 6, none⟩) (Kd.R_far (p := ⟨gb136, 5, none⟩) (Kd.R_far (p := ⟨gb136, 4, none⟩) (Kd.R_far (p := ⟨gb136, 3, none⟩) (Kd.R_far (p := ⟨gb136, 2, none⟩) (Kd.R_far (p := ⟨gb136, 1, none⟩) (Kd.R_far (p := ⟨gb136, 0, none⟩) (Kd.R_types HO122.out BK136.out (by decide)) (fun _ hk => hk.2) (.int .i64 t126)) (fun _ hk => hk.2) (.int .i64 t127)) (fun _ hk => hk.2) (.int .i64 t128)) (fun _ hk => hk.2) (.int .i64 t129)) (fun _ hk => hk.2) (.int .i64 t130)) (fun _ hk => hk.2) (.int .i64 t131)) (fun _ hk => hk.2) (.int .i64 t132)) (fun _ hk => hk.2) (.int .i64 t133)) (fun _ hk => hk.2) (.string t134)) (fun _ h_ => h_.1))) hb); have n2_ := Aside0.mk (blk_below (g := gb101) (o := .cells #[.int .i64 t104, .int .i64 t105, .int .i64 t106, .int .i64 t107] 26 (0, 0)) (by (iterate 9 ((with_reducible repeat (first | refine blk_drewN ?_ _ | refine blk_drew ?_ | refine blk_alloc ?_ _)); refine blk_far ?_ NB101_136.out _)); (with_reducible repeat (first | refine blk_drewN ?_ _ | refine blk_drew ?_ | refine blk_alloc ?_ _)); exact BK101.out) hb); have n3_ := Aside0.mk (blk_below (g := gb102) (o := .cells #[.int .i64 t108, .int .i64 t109, .int .i64 t110, .int .i64 t111] 26 (0, 0)) (by (iterate 9 ((with_reducible repeat (first | refine blk_drewN ?_ _ | refine blk_drew ?_ | refine blk_alloc ?_ _)); refine blk_far ?_ NB102_136.out _)); (with_reducible repeat (first | refine blk_drewN ?_ _ | refine blk_drew ?_ | refine blk_alloc ?_ _)); exact BK102.out) hb); have n4_ := Aside0.mk (blk_below (g := gb125) (o := .cells #[.string ⟨#[97]⟩, .int .i64 t104, .int .i64 t105, .int .i64 t106, .int .i64 t107, .string ⟨#[98]⟩, .int .i64 t108, .int .i64 t109, .int .i64 t110, .int .i64 t111, .string (rdOf ByteArray.empty y120 t123)] 28 (0, 0)) (by (iterate 9 ((with_reducible repeat (first | refine blk_drewN ?_ _ | refine blk_drew ?_ | refine blk_alloc ?_ _)); refine blk_far ?_ NB125_136.out _)); (with_reducible repeat (first | refine blk_drewN ?_ _ | refine blk_drew ?_ | refine blk_alloc ?_ _)); exact BK125.out) hb); have n5_ := Aside0.mk (blk_below (g := gb136) (o := .cells #[.int .i64 t126, .int .i64 t127, .int .i64 t128, .int .i64 t129, .int .i64 t130, .int .i64 t131, .int .i64 t132, .int .i64 t133, .string t134] 44 (0, 0)) (by (with_reducible repeat (first | refine blk_drewN ?_ _ | refine blk_drew ?_ | refine blk_alloc ?_ _)); refine blk_put (cs := #[.int .i64 t126, .int .i64 t127, .int .i64 t128, .int .i64 t129, .int .i64 t130, .int .i64 t131, .int .i64 t132, .int .i64 t133, .string ⟨#[]⟩]) ?_ 8 _ rfl; (with_reducible repeat (first | refine blk_drewN ?_ _ | refine blk_drew ?_ | refine blk_alloc ?_ _)); refine blk_put (cs := #[.int .i64 t126, .int .i64 t127, .int .i64 t128, .int .i64 t129, .int .i64 t130, .int .i64 t131, .int .i64 t132, .int .i64 0, .string ⟨#[]⟩]) ?_ 7 _ rfl; (with_reducible repeat (first | refine blk_drewN ?_ _ | refine blk_drew ?_ | refine blk_alloc ?_ _)); refine blk_put (cs := #[.int .i64 t126, .int .i64 t127, .int .i64 t128, .int .i64 t129, .int .i64 t130, .int .i64 t131, .int .i64 0, .int .i64 0, .string ⟨#[]⟩]) ?_ 6 _ rfl; (with_reducible repeat (first | refine blk_drewN ?_ _ | refine blk_drew ?_ | refine blk_alloc ?_ _)); refine blk_put (cs := #[.int .i64 t126, .int .i64 t127, .int .i64 t128, .int .i64 t129, .int .i64 t130, .int .i64 0, .int .i64 0, .int .i64 0, .string ⟨#[]⟩]) ?_ 5 _ rfl; (with_reducible repeat (first | refine blk_drewN ?_ _ | refine blk_drew ?_ | refine blk_alloc ?_ _)); refine blk_put (cs := #[.int .i64 t126, .int .i64 t127, .int .i64 t128, .int .i64 t129, .int .i64 0, .int .i64 0, .int .i64 0, .int .i64 0, .string ⟨#[]⟩]) ?_ 4 _ rfl; (with_reducible repeat (first | refine blk_drewN ?_ _ | refine blk_drew ?_ | refine blk_alloc ?_ _)); refine blk_put (cs := #[.int .i64 t126, .int .i64 t127, .int .i64 t128, .int .i64 0, .int .i64 0, .int .i64 0, .int .i64 0, .int .i64 0, .string ⟨#[]⟩]) ?_ 3 _ rfl; (with_reducible repeat (first | refine blk_drewN ?_ _ | refine blk_drew ?_ | refine blk_alloc ?_ _)); refine blk_put (cs := #[.int .i64 t126, .int .i64 t127, .int .i64 0, .int .i64 0, .int .i64 0, .int .i64 0, .int .i64 0, .int .i64 0, .string ⟨#[]⟩]) ?_ 2 _ rfl; (with_reducible repeat (first | refine blk_drewN ?_ _ | refine blk_drew ?_ | refine blk_alloc ?_ _)); refine blk_put (cs := #[.int .i64 t126, .int .i64 0, .int .i64 0, .int .i64 0, .int .i64 0, .int .i64 0, .int .i64 0, .int .i64 0, .string ⟨#[]⟩]) ?_ 1 _ rfl; (with_reducible repeat (first | refine blk_drewN ?_ _ | refine blk_drew ?_ | refine blk_alloc ?_ _)); refine blk_put (cs := #[.int .i64 0, .int .i64 0, .int .i64 0, .int .i64 0, .int .i64 0, .int .i64 0, .int .i64 0, .int .i64 0, .string ⟨#[]⟩]) ?_ 0 _ rfl; (with_reducible repeat (first | refine blk_drewN ?_ _ | refine blk_drew ?_ | refine blk_alloc ?_ _)); exact BK136.out) hb); have n6_ := Aside0.mk (below_step (by repeat (first | (with_reducible first | exact HB.out | apply below_alloc | apply pw_below_drewN | apply below_drew1 | refine below_set ?_ GE101.out | refine below_set ?_ GE102.out | refine below_set ?_ GE125.out | refine below_set ?_ GE136.out) | exact HB.out)) hb); clear HO_9 HO122 BK101 BK102 BK125 BK136 HB; have HO_9 := n0_; have HO122 := n1_; have BK101 := n2_; have BK102 := n3_; have BK125 := n4_; have BK136 := n5_; have HB := n6_; clear n0_ n1_ n2_ n3_ n4_ n5_ n6_; (try clear hb); (try clear hb2); (try clear hk); (try clear hi)))
        have n0_ := Aside0.mk (Kd.R_drew HO_9.out)
        have n1_ := Aside0.mk (Kd.R_drew HO122.out)
        have n2_ := Aside0.mk (blk_drew BK101.out)
        have n3_ := Aside0.mk (blk_drew BK102.out)
        have n4_ := Aside0.mk (blk_drew BK125.out)
        have n5_ := Aside0.mk (blk_drew BK136.out)
        have n6_ := Aside0.mk (below_drew1 HB.out)
        clear HO_9 HO122 BK101 BK102 BK125 BK136 HB
        have HO_9 := n0_; have HO122 := n1_; have BK101 := n2_; have BK102 := n3_; have BK125 := n4_; have BK136 := n5_; have HB := n6_
        clear n0_ n1_ n2_ n3_ n4_ n5_ n6_
        have p139 : 0 ≤ (1 : Int) := (by omega)
        have q139 : 1 < (x9_28.length : Int) := of_decide_eq_true (by first | (with_reducible assumption) | assumption)
        obtain ⟨ad139, e139, hx139_0, hx139_1, hx139_2, hx139_3, hx139_4, hx139_5, hx139_6, hx139_7, hx139_8⟩ := at_T44 (Kd.R_reads' HO_9.out).2.2 1 p139 q139
        cases e139
        (try simp only [show (1 : Int).toNat = 1 from rfl, Nat.reduceMul, Nat.reduceEqDiff, Go.Addr.add, ↓reduceIte] at hx139_0)
        (try simp only [show (1 : Int).toNat = 1 from rfl, Nat.reduceMul, Nat.reduceEqDiff, Go.Addr.add, ↓reduceIte] at hx139_1)
        (try simp only [show (1 : Int).toNat = 1 from rfl, Nat.reduceMul, Nat.reduceEqDiff, Go.Addr.add, ↓reduceIte] at hx139_2)
        (try simp only [show (1 : Int).toNat = 1 from rfl, Nat.reduceMul, Nat.reduceEqDiff, Go.Addr.add, ↓reduceIte] at hx139_3)
        (try simp only [show (1 : Int).toNat = 1 from rfl, Nat.reduceMul, Nat.reduceEqDiff, Go.Addr.add, ↓reduceIte] at hx139_4)
        (try simp only [show (1 : Int).toNat = 1 from rfl, Nat.reduceMul, Nat.reduceEqDiff, Go.Addr.add, ↓reduceIte] at hx139_5)
        (try simp only [show (1 : Int).toNat = 1 from rfl, Nat.reduceMul, Nat.reduceEqDiff, Go.Addr.add, ↓reduceIte] at hx139_6)
        (try simp only [show (1 : Int).toNat = 1 from rfl, Nat.reduceMul, Nat.reduceEqDiff, Go.Addr.add, ↓reduceIte] at hx139_7)
        (try simp only [show (1 : Int).toNat = 1 from rfl, Nat.reduceMul, Nat.reduceEqDiff, Go.Addr.add, ↓reduceIte] at hx139_8)
        have qi139 : (1 < x9_28.length) = True := eq_true (by omega)
        (try rw [show ((1 : Int)).toNat = 1 from rfl] at hx139_0)
        (try rw [show 1 * 9 = 9 from rfl] at hx139_0)
        (try rw [show ((1 : Int)).toNat = 1 from rfl] at hx139_1)
        (try rw [show 1 * 9 = 9 from rfl] at hx139_1)
        (try rw [show ((1 : Int)).toNat = 1 from rfl] at hx139_2)
        (try rw [show 1 * 9 = 9 from rfl] at hx139_2)
        (try rw [show ((1 : Int)).toNat = 1 from rfl] at hx139_3)
        (try rw [show 1 * 9 = 9 from rfl] at hx139_3)
        (try rw [show ((1 : Int)).toNat = 1 from rfl] at hx139_4)
        (try rw [show 1 * 9 = 9 from rfl] at hx139_4)
        (try rw [show ((1 : Int)).toNat = 1 from rfl] at hx139_5)
        (try rw [show 1 * 9 = 9 from rfl] at hx139_5)
        (try rw [show ((1 : Int)).toNat = 1 from rfl] at hx139_6)
        (try rw [show 1 * 9 = 9 from rfl] at hx139_6)
        (try rw [show ((1 : Int)).toNat = 1 from rfl] at hx139_7)
        (try rw [show 1 * 9 = 9 from rfl] at hx139_7)
        (try rw [show ((1 : Int)).toNat = 1 from rfl] at hx139_8)
        (try rw [show 1 * 9 = 9 from rfl] at hx139_8)
        replace p139 := eq_true p139
        replace q139 := eq_true q139
        refine start_ (n := 7) (S := fun w' => w'.cell? ⟨gb125, 0, none⟩ = some (.string ⟨#[97]⟩) ∧ w'.cell? ⟨gb125, 1, none⟩ = some (.int .i64 t104) ∧ w'.cell? ⟨gb125, 2, none⟩ = some (.int .i64 t105) ∧ w'.cell? ⟨gb125, 3, none⟩ = some (.int .i64 t106) ∧ w'.cell? ⟨gb125, 4, none⟩ = some (.int .i64 t107) ∧ w'.cell? ⟨gb125, 5, none⟩ = some (.string ⟨#[98]⟩) ∧ w'.cell? ⟨gb125, 6, none⟩ = some (.int .i64 t108) ∧ w'.cell? ⟨gb125, 7, none⟩ = some (.int .i64 t109) ∧ w'.cell? ⟨gb125, 8, none⟩ = some (.int .i64 t110) ∧ w'.cell? ⟨gb125, 9, none⟩ = some (.int .i64 t111) ∧ w'.cell? ⟨gb125, 10, none⟩ = some (.string (rdOf ByteArray.empty y120 t123)) ∧ w'.cell? ⟨ad139.block, ad139.off + 9, none⟩ = some (.int .i64 ((rd_T44 x9_28 1).f0.f0)) ∧ w'.cell? ⟨ad139.block, ad139.off + 9 + 1, none⟩ = some (.int .i64 ((rd_T44 x9_28 1).f0.f1)) ∧ w'.cell? ⟨ad139.block, ad139.off + 9 + 2, none⟩ = some (.int .i64 ((rd_T44 x9_28 1).f0.f2)) ∧ w'.cell? ⟨ad139.block, ad139.off + 9 + 3, none⟩ = some (.int .i64 ((rd_T44 x9_28 1).f0.f3)) ∧ w'.cell? ⟨ad139.block, ad139.off + 9 + 4, none⟩ = some (.int .i64 ((rd_T44 x9_28 1).f1.f0)) ∧ w'.cell? ⟨ad139.block, ad139.off + 9 + 5, none⟩ = some (.int .i64 ((rd_T44 x9_28 1).f1.f1)) ∧ w'.cell? ⟨ad139.block, ad139.off + 9 + 6, none⟩ = some (.int .i64 ((rd_T44 x9_28 1).f1.f2)) ∧ w'.cell? ⟨ad139.block, ad139.off + 9 + 7, none⟩ = some (.int .i64 ((rd_T44 x9_28 1).f1.f3)) ∧ w'.cell? ⟨ad139.block, ad139.off + 9 + 8, none⟩ = some (.string ((rd_T44 x9_28 1).f2))) (ds := []) #[false, false, false, false, false, false, false] (by kernel_rfl) rfl rfl ⟨(blk_cell BK125.out 0).trans rfl, (blk_cell BK125.out 1).trans rfl, (blk_cell BK125.out 2).trans rfl, (blk_cell BK125.out 3).trans rfl, (blk_cell BK125.out 4).trans rfl, (blk_cell BK125.out 5).trans rfl, (blk_cell BK125.out 6).trans rfl, (blk_cell BK125.out 7).trans rfl, (blk_cell BK125.out 8).trans rfl, (blk_cell BK125.out 9).trans rfl, (blk_cell BK125.out 10).trans rfl, hx139_0, hx139_1, hx139_2, hx139_3, hx139_4, hx139_5, hx139_6, hx139_7, hx139_8⟩ (fun hHeld => ?_)
        generalize w97.drew = w98 at HO_9 HO122 BK101 BK102 BK125 BK136 HB hx139_0 hx139_1 hx139_2 hx139_3 hx139_4 hx139_5 hx139_6 hx139_7 hx139_8 hHeld ⊢
        refine pure_ (i := 0) (N := some 66) (v := ?_) (a' := ?_) #[true, false, false, false, false, false, false] rfl rfl (by kernel_rfl) (fun _ _ _ h => h) (Or.inl ⟨by rfl, ?_⟩) ?_ ?_
        rotate_left
        ·intro w'
         go_simp
         with_reducible rfl
        rotate_left
        ·simp only [Act.put, xset_a, xset_z, xset_s, i64_w, i32_w]
         rfl
        refine pure_ (i := 2) (N := some 68) (v := ?_) (a' := ?_) #[true, false, true, false, false, false, false] rfl rfl (by kernel_rfl) (fun _ _ _ h => h) (Or.inl ⟨by rfl, ?_⟩) ?_ ?_
        rotate_left
        ·intro w'
         go_simp
         with_reducible rfl
        rotate_left
        ·simp only [Act.put, xset_a, xset_z, xset_s, i64_w, i32_w]
         rfl
        refine pure_ (i := 3) (N := some 69) (v := ?_) (a' := ?_) #[true, false, true, true, false, false, false] rfl rfl (by kernel_rfl) (fun _ _ _ h => h) (Or.inl ⟨by rfl, ?_⟩) ?_ ?_
        rotate_left
        ·intro w'
         go_simp
         with_reducible rfl
        rotate_left
        ·simp only [Act.put, xset_a, xset_z, xset_s, i64_w, i32_w]
         rfl
        refine pure_ (i := 4) (N := some 70) (v := ?_) (a' := ?_) #[true, false, true, true, true, false, false] rfl rfl (by kernel_rfl) (fun _ _ _ h => h) (Or.inl ⟨by rfl, ?_⟩) ?_ ?_
        rotate_left
        ·intro w'
         go_simp
         with_reducible rfl
        rotate_left
        ·simp only [Act.put, xset_a, xset_z, xset_s, i64_w, i32_w]
         rfl
        refine take_ (i := 1) (N := some 67) (v := ?_) (a' := ?_) #[true, true, true, true, true, false, false] rfl rfl (by kernel_rfl) (fun _ _ _ h => h) (Or.inl ⟨by rfl, ?_⟩) hHeld ?_ ?_
        rotate_left
        ·rintro w' ⟨s0, s1, s2, s3, s4, s5, s6, s7, s8, s9, s10, s11, s12, s13, s14, s15, s16, s17, s18, s19⟩
         go_simp
         with_reducible rfl
        rotate_left
        ·simp only [Act.put, xset_a, xset_z, xset_s, i64_w, i32_w]
         rfl
        refine take_ (i := 5) (N := some 71) (v := ?_) (a' := ?_) #[true, true, true, true, true, true, false] rfl rfl (by kernel_rfl) (fun _ _ _ h => h) (Or.inl ⟨by rfl, ?_⟩) hHeld ?_ ?_
        rotate_left
        ·rintro w' ⟨s0, s1, s2, s3, s4, s5, s6, s7, s8, s9, s10, s11, s12, s13, s14, s15, s16, s17, s18, s19⟩
         go_simp
         with_reducible rfl
        rotate_left
        ·simp only [Act.put, xset_a, xset_z, xset_s, i64_w, i32_w]
         rfl
        refine pure_ (i := 6) (N := some 72) (v := ?_) (a' := ?_) #[true, true, true, true, true, true, true] rfl rfl (by kernel_rfl) (fun _ _ _ h => h) (Or.inl ⟨by rfl, ?_⟩) ?_ ?_
        rotate_left
        ·intro w'
         go_simp
         with_reducible rfl
        rotate_left
        ·simp only [Act.put, xset_a, xset_z, xset_s, i64_w, i32_w]
         rfl
        refine done_ (by kernel_rfl) ?_
        go_upto_if 72 with (fail)
        go_cut [15] (fun v15 wc => ∃ (kq : Nat) (x15_66 : Int), v15 = .int .i64 x15_66 ∧ Aside0 (donjonlaw18_MailFirst.j1 kq x9_28 t135 t137 t138 x15_66 (⟨#[97]⟩ : ByteArray) t104 t105 t106 t107 (⟨#[98]⟩ : ByteArray) t108 t109 t110 t111 (rdOf ByteArray.empty y120 t123) t126 t127 t128 t129 t130 t131 t132 t133 t134 = some r) ∧ Aside0 (kq ≤ kj28) ∧ Aside0 (Kd.R k44 44 wc w.heap.size (fun k_ => k_ ≠ gb136) (.slice (some ad139) x9_28.length co89) x9_28) ∧ Aside0 (wc.heap[gb101]? = some (.cells #[.int .i64 t104, .int .i64 t105, .int .i64 t106, .int .i64 t107] 26 (0, 0))) ∧ Aside0 (wc.heap[gb102]? = some (.cells #[.int .i64 t108, .int .i64 t109, .int .i64 t110, .int .i64 t111] 26 (0, 0))) ∧ Aside0 (wc.heap[gb125]? = some (.cells #[.string ⟨#[97]⟩, .int .i64 t104, .int .i64 t105, .int .i64 t106, .int .i64 t107, .string ⟨#[98]⟩, .int .i64 t108, .int .i64 t109, .int .i64 t110, .int .i64 t111, .string (rdOf ByteArray.empty y120 t123)] 28 (0, 0))) ∧ Aside0 (wc.heap[gb136]? = some (.cells #[.int .i64 t126, .int .i64 t127, .int .i64 t128, .int .i64 t129, .int .i64 t130, .int .i64 t131, .int .i64 t132, .int .i64 t133, .string t134] 44 (0, 0))) ∧ Aside0 (Below w.heap.size w wc))
        case first =>
         have H := HC67.out
         clear HC67
         by_cases c99 : (rdOf ByteArray.empty y120 t123).toList = ((rd_T44 x9_28 1).f2).toList
         ·rw [if_pos c99] at H
          have c99b0 : ((rdOf ByteArray.empty y120 t123).toList == ((rd_T44 x9_28 1).f2).toList) = true := beq_iff_eq.mpr c99
          have c99b1 : ((rdOf ByteArray.empty y120 t123).toList != ((rd_T44 x9_28 1).f2).toList) = false := bne_eq_false_iff_eq.mpr c99
          clear c99
          (first | rw [c99b0] | (simp only [i64_w, i32_w]; rw [c99b0]) | skip)
          have H' := Aside0.mk H
          clear H
          go_wp2
          go_meet
          case rel => exact ⟨_, (6), (by first | rfl | (simp; done) | (simp [*]; done)), H', ⟨by have := HJ28.out; first | omega | exact Nat.le_refl _⟩, ⟨by (with_reducible repeat (first | apply Kd.R_alloc | apply Kd.R_drewN | apply Kd.R_drew)); exact Kd.R_mono HO_9.out (fun _ hk => hk.2)⟩, ⟨by (with_reducible repeat (first | refine blk_drewN ?_ _ | refine blk_drew ?_ | refine blk_alloc ?_ _)); exact BK101.out⟩, ⟨by (with_reducible repeat (first | refine blk_drewN ?_ _ | refine blk_drew ?_ | refine blk_alloc ?_ _)); exact BK102.out⟩, ⟨by (with_reducible repeat (first | refine blk_drewN ?_ _ | refine blk_drew ?_ | refine blk_alloc ?_ _)); exact BK125.out⟩, ⟨by (with_reducible repeat (first | refine blk_drewN ?_ _ | refine blk_drew ?_ | refine blk_alloc ?_ _)); exact BK136.out⟩, ⟨by repeat (first | (with_reducible first | exact HB.out | apply below_alloc | apply pw_below_drewN | apply below_drew1 | refine below_set ?_ GE101.out | refine below_set ?_ GE102.out | refine below_set ?_ GE125.out | refine below_set ?_ GE136.out) | exact HB.out)⟩⟩
         ·rw [if_neg c99] at H
          have c99b0 : ((rdOf ByteArray.empty y120 t123).toList == ((rd_T44 x9_28 1).f2).toList) = false := beq_eq_false_iff_ne.mpr c99
          have c99b1 : ((rdOf ByteArray.empty y120 t123).toList != ((rd_T44 x9_28 1).f2).toList) = true := bne_iff_ne.mpr c99
          (first | rw [c99b0] | (simp only [i64_w, i32_w]; rw [c99b0]) | skip)
          have H' := Aside0.mk H
          clear H
          go_wp2
          go_meet
          case rel => exact ⟨_, (0), (by first | rfl | (simp; done) | (simp [*]; done)), H', ⟨by have := HJ28.out; first | omega | exact Nat.le_refl _⟩, ⟨by (with_reducible repeat (first | apply Kd.R_alloc | apply Kd.R_drewN | apply Kd.R_drew)); exact Kd.R_mono HO_9.out (fun _ hk => hk.2)⟩, ⟨by (with_reducible repeat (first | refine blk_drewN ?_ _ | refine blk_drew ?_ | refine blk_alloc ?_ _)); exact BK101.out⟩, ⟨by (with_reducible repeat (first | refine blk_drewN ?_ _ | refine blk_drew ?_ | refine blk_alloc ?_ _)); exact BK102.out⟩, ⟨by (with_reducible repeat (first | refine blk_drewN ?_ _ | refine blk_drew ?_ | refine blk_alloc ?_ _)); exact BK125.out⟩, ⟨by (with_reducible repeat (first | refine blk_drewN ?_ _ | refine blk_drew ?_ | refine blk_alloc ?_ _)); exact BK136.out⟩, ⟨by repeat (first | (with_reducible first | exact HB.out | apply below_alloc | apply pw_below_drewN | apply below_drew1 | refine below_set ?_ GE101.out | refine below_set ?_ GE102.out | refine below_set ?_ GE125.out | refine below_set ?_ GE136.out) | exact HB.out)⟩⟩
        case rest =>
         clear HC67
         try clear c1
         try clear p1
         try clear q1
         try clear hx1
         try clear qi1
         try clear p2
         try clear c8
         try clear c9
         try clear c10
         try clear c11
         try clear p12
         try clear q12
         try clear hx12
         try clear p13
         try clear q13
         try clear hx13
         try clear qi13
         try clear c19
         try clear c86
         try clear c87
         try clear c92
         try clear c93
         try clear c94
         try clear c99
         try clear c99b0
         try clear c99b1
         try clear hcz88_0
         try clear hcz88_1
         try clear hcz88_10
         try clear hcz88_2
         try clear hcz88_3
         try clear hcz88_4
         try clear hcz88_5
         try clear hcz88_6
         try clear hcz88_7
         try clear hcz88_8
         try clear hcz88_9
         try clear hcz95_0
         try clear hcz95_1
         try clear hcz95_2
         try clear hcz95_3
         try clear hcz95_4
         try clear hcz95_5
         try clear hcz95_6
         try clear hcz95_7
         try clear hcz95_8
         try clear hcz96_0
         try clear hcz96_1
         try clear hcz96_10
         try clear hcz96_2
         try clear hcz96_3
         try clear hcz96_4
         try clear hcz96_5
         try clear hcz96_6
         try clear hcz96_7
         try clear hcz96_8
         try clear hcz96_9
         try clear hfz88_0
         try clear hfz88_1
         try clear hfz88_10
         try clear hfz88_2
         try clear hfz88_3
         try clear hfz88_4
         try clear hfz88_5
         try clear hfz88_6
         try clear hfz88_7
         try clear hfz88_8
         try clear hfz88_9
         try clear hfz95_0
         try clear hfz95_1
         try clear hfz95_2
         try clear hfz95_3
         try clear hfz95_4
         try clear hfz95_5
         try clear hfz95_6
         try clear hfz95_7
         try clear hfz95_8
         try clear hfz96_0
         try clear hfz96_1
         try clear hfz96_10
         try clear hfz96_2
         try clear hfz96_3
         try clear hfz96_4
         try clear hfz96_5
         try clear hfz96_6
         try clear hfz96_7
         try clear hfz96_8
         try clear hfz96_9
         try clear hx124_0
         try clear hx139_0
         try clear hx139_1
         try clear hx139_2
         try clear hx139_3
         try clear hx139_4
         try clear hx139_5
         try clear hx139_6
         try clear hx139_7
         try clear hx139_8
         try clear p124
         try clear p139
         try clear q124
         try clear q139
         obtain ⟨kq, x15_66, rfl, HA, HJ66, HO_9, BK101, BK102, BK125, BK136, HB⟩ := hcut
         cases kq with
         | zero => exact absurd HA.out (by simp [donjonlaw18_MailFirst.j1])
         | succ kj66 =>
          have H := HA.out
          clear HA
          simp only [donjonlaw18_MailFirst.j1] at H
          by_cases c100 : t135 = true
          ·subst c100
           have H1 : (if 1 < (x9_28.length : Int) then (if ((t126 == ((rd_T44 x9_28 1).f0.f0) && (t127 == ((rd_T44 x9_28 1).f0.f1) && (t128 == ((rd_T44 x9_28 1).f0.f2) && (t129 == ((rd_T44 x9_28 1).f0.f3))))) && ((t130 == ((rd_T44 x9_28 1).f1.f0) && (t131 == ((rd_T44 x9_28 1).f1.f1) && (t132 == ((rd_T44 x9_28 1).f1.f2) && (t133 == ((rd_T44 x9_28 1).f1.f3))))) && (t134.toList == (((rd_T44 x9_28 1).f2).toList)))) = true then (if t137 = 2 then (if t138 = 0 then ((mail_Release.f kj66 x9_28 (⟨#[97]⟩ : ByteArray) t104 t105 t106 t107 (⟨#[98]⟩ : ByteArray) t108 t109 t110 t111 (rdOf ByteArray.empty y120 t123)).bind fun t141 => (some (t141 == x15_66))) else (some false)) else (some false)) else (some false)) else (none)) = some r := by rw [if_pos rfl] at H; exact H
           clear H
           have H := H1
           clear H1
           by_cases c101 : 1 < (x9_28.length : Int)
           ·rw [if_pos c101] at H
            have c101b0 : decide (1 < (x9_28.length : Int)) = true := decide_eq_true c101
            have c101b1 : decide (1 < x9_28.length) = true := decide_eq_true (by omega)
            clear c101
            by_cases c102 : ((t126 == ((rd_T44 x9_28 1).f0.f0) && (t127 == ((rd_T44 x9_28 1).f0.f1) && (t128 == ((rd_T44 x9_28 1).f0.f2) && (t129 == ((rd_T44 x9_28 1).f0.f3))))) && ((t130 == ((rd_T44 x9_28 1).f1.f0) && (t131 == ((rd_T44 x9_28 1).f1.f1) && (t132 == ((rd_T44 x9_28 1).f1.f2) && (t133 == ((rd_T44 x9_28 1).f1.f3))))) && (t134.toList == (((rd_T44 x9_28 1).f2).toList)))) = true
            ·rw [if_pos c102] at H
             have c102b0 : ((t126 == ((rd_T44 x9_28 1).f0.f0) && (t127 == ((rd_T44 x9_28 1).f0.f1) && (t128 == ((rd_T44 x9_28 1).f0.f2) && (t129 == ((rd_T44 x9_28 1).f0.f3))))) && ((t130 == ((rd_T44 x9_28 1).f1.f0) && (t131 == ((rd_T44 x9_28 1).f1.f1) && (t132 == ((rd_T44 x9_28 1).f1.f2) && (t133 == ((rd_T44 x9_28 1).f1.f3))))) && (t134.toList == (((rd_T44 x9_28 1).f2).toList)))) = true := c102
             clear c102
             by_cases c103 : t137 = 2
             ·rw [if_pos c103] at H
              have c103b0 : (t137 == 2) = true := beq_iff_eq.mpr c103
              have c103b1 : (t137 != 2) = false := bne_eq_false_iff_eq.mpr c103
              clear c103
              by_cases c104 : t138 = 0
              ·rw [if_pos c104] at H
               have c104b0 : (t138 == 0) = true := beq_iff_eq.mpr c104
               have c104b1 : (t138 != 0) = false := bne_eq_false_iff_eq.mpr c104
               clear c104
               replace H := Option.bind_eq_some_iff.mp H
               obtain ⟨t141, A1050, H⟩ := H
               replace H : (some (t141 == x15_66)) = some r := H
               have A105 := Aside0.mk A1050
               clear A1050
               obtain rfl := Option.some.inj H
               try go_wp2
               have n0_ := Aside0.mk (Kd.R_drew HO_9.out)
               have n1_ := Aside0.mk (blk_drew BK101.out)
               have n2_ := Aside0.mk (blk_drew BK102.out)
               have n3_ := Aside0.mk (blk_drew BK125.out)
               have n4_ := Aside0.mk (blk_drew BK136.out)
               have n5_ := Aside0.mk (below_drew1 HB.out)
               clear HO_9 BK101 BK102 BK125 BK136 HB
               have HO_9 := n0_; have BK101 := n1_; have BK102 := n2_; have BK125 := n3_; have BK136 := n4_; have HB := n5_
               clear n0_ n1_ n2_ n3_ n4_ n5_
               have p140 : 0 ≤ (1 : Int) := (by omega)
               have q140 : 1 < (x9_28.length : Int) := of_decide_eq_true (by first | (with_reducible assumption) | assumption)
               obtain ⟨ad140, e140, hx140_0, hx140_1, hx140_2, hx140_3, hx140_4, hx140_5, hx140_6, hx140_7, hx140_8⟩ := at_T44 (Kd.R_reads' HO_9.out).2.2 1 p140 q140
               obtain rfl : ad139 = ad140 := (by injection e140)
               (try simp only [show (1 : Int).toNat = 1 from rfl, Nat.reduceMul, Nat.reduceEqDiff, Go.Addr.add, ↓reduceIte] at hx140_0)
               (try simp only [show (1 : Int).toNat = 1 from rfl, Nat.reduceMul, Nat.reduceEqDiff, Go.Addr.add, ↓reduceIte] at hx140_1)
               (try simp only [show (1 : Int).toNat = 1 from rfl, Nat.reduceMul, Nat.reduceEqDiff, Go.Addr.add, ↓reduceIte] at hx140_2)
               (try simp only [show (1 : Int).toNat = 1 from rfl, Nat.reduceMul, Nat.reduceEqDiff, Go.Addr.add, ↓reduceIte] at hx140_3)
               (try simp only [show (1 : Int).toNat = 1 from rfl, Nat.reduceMul, Nat.reduceEqDiff, Go.Addr.add, ↓reduceIte] at hx140_4)
               (try simp only [show (1 : Int).toNat = 1 from rfl, Nat.reduceMul, Nat.reduceEqDiff, Go.Addr.add, ↓reduceIte] at hx140_5)
               (try simp only [show (1 : Int).toNat = 1 from rfl, Nat.reduceMul, Nat.reduceEqDiff, Go.Addr.add, ↓reduceIte] at hx140_6)
               (try simp only [show (1 : Int).toNat = 1 from rfl, Nat.reduceMul, Nat.reduceEqDiff, Go.Addr.add, ↓reduceIte] at hx140_7)
               (try simp only [show (1 : Int).toNat = 1 from rfl, Nat.reduceMul, Nat.reduceEqDiff, Go.Addr.add, ↓reduceIte] at hx140_8)
               have qi140 : (1 < x9_28.length) = True := eq_true (by omega)
               (try rw [show ((1 : Int)).toNat = 1 from rfl] at hx140_0)
               (try rw [show 1 * 9 = 9 from rfl] at hx140_0)
               (try rw [show ((1 : Int)).toNat = 1 from rfl] at hx140_1)
               (try rw [show 1 * 9 = 9 from rfl] at hx140_1)
               (try rw [show ((1 : Int)).toNat = 1 from rfl] at hx140_2)
               (try rw [show 1 * 9 = 9 from rfl] at hx140_2)
               (try rw [show ((1 : Int)).toNat = 1 from rfl] at hx140_3)
               (try rw [show 1 * 9 = 9 from rfl] at hx140_3)
               (try rw [show ((1 : Int)).toNat = 1 from rfl] at hx140_4)
               (try rw [show 1 * 9 = 9 from rfl] at hx140_4)
               (try rw [show ((1 : Int)).toNat = 1 from rfl] at hx140_5)
               (try rw [show 1 * 9 = 9 from rfl] at hx140_5)
               (try rw [show ((1 : Int)).toNat = 1 from rfl] at hx140_6)
               (try rw [show 1 * 9 = 9 from rfl] at hx140_6)
               (try rw [show ((1 : Int)).toNat = 1 from rfl] at hx140_7)
               (try rw [show 1 * 9 = 9 from rfl] at hx140_7)
               (try rw [show ((1 : Int)).toNat = 1 from rfl] at hx140_8)
               (try rw [show 1 * 9 = 9 from rfl] at hx140_8)
               replace p140 := eq_true p140
               replace q140 := eq_true q140
               refine start_ (n := 24) (S := fun w' => w'.cell? ⟨gb136, 0, none⟩ = some (.int .i64 t126) ∧ w'.cell? ⟨gb136, 1, none⟩ = some (.int .i64 t127) ∧ w'.cell? ⟨gb136, 2, none⟩ = some (.int .i64 t128) ∧ w'.cell? ⟨gb136, 3, none⟩ = some (.int .i64 t129) ∧ w'.cell? ⟨gb136, 4, none⟩ = some (.int .i64 t130) ∧ w'.cell? ⟨gb136, 5, none⟩ = some (.int .i64 t131) ∧ w'.cell? ⟨gb136, 6, none⟩ = some (.int .i64 t132) ∧ w'.cell? ⟨gb136, 7, none⟩ = some (.int .i64 t133) ∧ w'.cell? ⟨gb136, 8, none⟩ = some (.string t134) ∧ w'.cell? ⟨gb125, 0, none⟩ = some (.string ⟨#[97]⟩) ∧ w'.cell? ⟨gb125, 1, none⟩ = some (.int .i64 t104) ∧ w'.cell? ⟨gb125, 2, none⟩ = some (.int .i64 t105) ∧ w'.cell? ⟨gb125, 3, none⟩ = some (.int .i64 t106) ∧ w'.cell? ⟨gb125, 4, none⟩ = some (.int .i64 t107) ∧ w'.cell? ⟨gb125, 5, none⟩ = some (.string ⟨#[98]⟩) ∧ w'.cell? ⟨gb125, 6, none⟩ = some (.int .i64 t108) ∧ w'.cell? ⟨gb125, 7, none⟩ = some (.int .i64 t109) ∧ w'.cell? ⟨gb125, 8, none⟩ = some (.int .i64 t110) ∧ w'.cell? ⟨gb125, 9, none⟩ = some (.int .i64 t111) ∧ w'.cell? ⟨gb125, 10, none⟩ = some (.string (rdOf ByteArray.empty y120 t123)) ∧ w'.cell? ⟨ad139.block, ad139.off + 9, none⟩ = some (.int .i64 ((rd_T44 x9_28 1).f0.f0)) ∧ w'.cell? ⟨ad139.block, ad139.off + 9 + 1, none⟩ = some (.int .i64 ((rd_T44 x9_28 1).f0.f1)) ∧ w'.cell? ⟨ad139.block, ad139.off + 9 + 2, none⟩ = some (.int .i64 ((rd_T44 x9_28 1).f0.f2)) ∧ w'.cell? ⟨ad139.block, ad139.off + 9 + 3, none⟩ = some (.int .i64 ((rd_T44 x9_28 1).f0.f3)) ∧ w'.cell? ⟨ad139.block, ad139.off + 9 + 4, none⟩ = some (.int .i64 ((rd_T44 x9_28 1).f1.f0)) ∧ w'.cell? ⟨ad139.block, ad139.off + 9 + 5, none⟩ = some (.int .i64 ((rd_T44 x9_28 1).f1.f1)) ∧ w'.cell? ⟨ad139.block, ad139.off + 9 + 6, none⟩ = some (.int .i64 ((rd_T44 x9_28 1).f1.f2)) ∧ w'.cell? ⟨ad139.block, ad139.off + 9 + 7, none⟩ = some (.int .i64 ((rd_T44 x9_28 1).f1.f3)) ∧ w'.cell? ⟨ad139.block, ad139.off + 9 + 8, none⟩ = some (.string ((rd_T44 x9_28 1).f2))) (ds := []) #[false, false, false, false, false, false, false, false, false, false, false, false, false, false, false, false, false, false, false, false, false, false, false, false] (by kernel_rfl) rfl rfl ⟨(blk_cell BK136.out 0).trans rfl, (blk_cell BK136.out 1).trans rfl, (blk_cell BK136.out 2).trans rfl, (blk_cell BK136.out 3).trans rfl, (blk_cell BK136.out 4).trans rfl, (blk_cell BK136.out 5).trans rfl, (blk_cell BK136.out 6).trans rfl, (blk_cell BK136.out 7).trans rfl, (blk_cell BK136.out 8).trans rfl, (blk_cell BK125.out 0).trans rfl, (blk_cell BK125.out 1).trans rfl, (blk_cell BK125.out 2).trans rfl, (blk_cell BK125.out 3).trans rfl, (blk_cell BK125.out 4).trans rfl, (blk_cell BK125.out 5).trans rfl, (blk_cell BK125.out 6).trans rfl, (blk_cell BK125.out 7).trans rfl, (blk_cell BK125.out 8).trans rfl, (blk_cell BK125.out 9).trans rfl, (blk_cell BK125.out 10).trans rfl, hx140_0, hx140_1, hx140_2, hx140_3, hx140_4, hx140_5, hx140_6, hx140_7, hx140_8⟩ (fun hHeld => ?_); refine with_tabW donjonlaw18_MailFirst.tab15 donjonlaw18_MailFirst.bits15 (fun HT_ HW_ => ?_)
               generalize wc.drew = w106 at HO_9 BK101 BK102 BK125 BK136 HB hx140_0 hx140_1 hx140_2 hx140_3 hx140_4 hx140_5 hx140_6 hx140_7 hx140_8 hHeld ⊢
               refine pure_ (i := 0) (N := some 73) (v := ?_) (a' := ?_) #[true, false, false, false, false, false, false, false, false, false, false, false, false, false, false, false, false, false, false, false, false, false, false, false] rfl rfl (any_of HT_.out (by kernel_rfl)) (fun _ _ _ h => h) (Or.inl ⟨by rfl, ?_⟩) ?_ ?_
               rotate_left
               ·intro w'
                go_simp
                with_reducible rfl
               rotate_left
               ·simp only [Act.put, xset_a, xset_z, xset_s, i64_w, i32_w]
                rfl
               refine pure_ (i := 1) (N := some 74) (v := ?_) (a' := ?_) #[true, true, false, false, false, false, false, false, false, false, false, false, false, false, false, false, false, false, false, false, false, false, false, false] rfl rfl (any_of HT_.out (by kernel_rfl)) (fun _ _ _ h => h) (Or.inl ⟨by rfl, ?_⟩) ?_ ?_
               rotate_left
               ·intro w'
                go_simp
                with_reducible rfl
               rotate_left
               ·simp only [Act.put, xset_a, xset_z, xset_s, i64_w, i32_w]
                rfl
               refine pure_ (i := 3) (N := some 76) (v := ?_) (a' := ?_) #[true, true, false, true, false, false, false, false, false, false, false, false, false, false, false, false, false, false, false, false, false, false, false, false] rfl rfl (any_of HT_.out (by kernel_rfl)) (fun _ _ _ h => h) (Or.inl ⟨by rfl, ?_⟩) ?_ ?_
               rotate_left
               ·intro w'
                go_simp
                with_reducible rfl
               rotate_left
               ·simp only [Act.put, xset_a, xset_z, xset_s, i64_w, i32_w]
                rfl
               refine pure_ (i := 4) (N := some 77) (v := ?_) (a' := ?_) #[true, true, false, true, true, false, false, false, false, false, false, false, false, false, false, false, false, false, false, false, false, false, false, false] rfl rfl (any_of HT_.out (by kernel_rfl)) (fun _ _ _ h => h) (Or.inl ⟨by rfl, ?_⟩) ?_ ?_
               rotate_left
               ·intro w'
                go_simp
                with_reducible rfl
               rotate_left
               ·simp only [Act.put, xset_a, xset_z, xset_s, i64_w, i32_w]
                rfl
               refine take_ (i := 2) (N := some 75) (v := ?_) (a' := ?_) #[true, true, true, true, true, false, false, false, false, false, false, false, false, false, false, false, false, false, false, false, false, false, false, false] rfl rfl (take_ofW HT_.out HW_.out (by kernel_rfl)) (fun _ _ _ h => h) (Or.inl ⟨by rfl, ?_⟩) hHeld ?_ ?_
               rotate_left
               ·rintro w' ⟨s0, s1, s2, s3, s4, s5, s6, s7, s8, s9, s10, s11, s12, s13, s14, s15, s16, s17, s18, s19, s20, s21, s22, s23, s24, s25, s26, s27, s28⟩
                go_simp
                with_reducible rfl
               rotate_left
               ·simp only [Act.put, xset_a, xset_z, xset_s, i64_w, i32_w]
                rfl
               refine take_ (i := 5) (N := some 78) (v := ?_) (a' := ?_) #[true, true, true, true, true, true, false, false, false, false, false, false, false, false, false, false, false, false, false, false, false, false, false, false] rfl rfl (take_ofW HT_.out HW_.out (by kernel_rfl)) (fun _ _ _ h => h) (Or.inl ⟨by rfl, ?_⟩) hHeld ?_ ?_
               rotate_left
               ·rintro w' ⟨s0, s1, s2, s3, s4, s5, s6, s7, s8, s9, s10, s11, s12, s13, s14, s15, s16, s17, s18, s19, s20, s21, s22, s23, s24, s25, s26, s27, s28⟩
                go_simp
                with_reducible rfl
               rotate_left
               ·simp only [Act.put, xset_a, xset_z, xset_s, i64_w, i32_w]
                rfl
               refine pure_ (i := 6) (N := some 79) (v := ?_) (a' := ?_) #[true, true, true, true, true, true, true, false, false, false, false, false, false, false, false, false, false, false, false, false, false, false, false, false] rfl rfl (any_of HT_.out (by kernel_rfl)) (fun _ _ _ h => h) (Or.inl ⟨by rfl, ?_⟩) ?_ ?_
               rotate_left
               ·intro w'
                go_simp
                with_reducible rfl
               rotate_left
               ·simp only [Act.put, xset_a, xset_z, xset_s, i64_w, i32_w]
                rfl
               refine pure_ (i := 7) (N := some 80) (v := ?_) (a' := ?_) #[true, true, true, true, true, true, true, true, false, false, false, false, false, false, false, false, false, false, false, false, false, false, false, false] rfl rfl (any_of HT_.out (by kernel_rfl)) (fun _ _ _ h => h) (Or.inl ⟨by rfl, ?_⟩) ?_ ?_
               rotate_left
               ·intro w'
                go_simp
                with_reducible rfl
               rotate_left
               ·simp only [Act.put, xset_a, xset_z, xset_s, i64_w, i32_w]
                rfl
               refine pure_ (i := 8) (N := some 81) (v := ?_) (a' := ?_) #[true, true, true, true, true, true, true, true, true, false, false, false, false, false, false, false, false, false, false, false, false, false, false, false] rfl rfl (any_of HT_.out (by kernel_rfl)) (fun _ _ _ h => h) (Or.inl ⟨by rfl, ?_⟩) ?_ ?_
               rotate_left
               ·intro w'
                go_simp
                with_reducible rfl
               rotate_left
               ·simp only [Act.put, xset_a, xset_z, xset_s, i64_w, i32_w]
                rfl
               refine pure_ (i := 9) (N := some 82) (v := ?_) (a' := ?_) #[true, true, true, true, true, true, true, true, true, true, false, false, false, false, false, false, false, false, false, false, false, false, false, false] rfl rfl (any_of HT_.out (by kernel_rfl)) (fun _ _ _ h => h) (Or.inl ⟨by rfl, ?_⟩) ?_ ?_
               rotate_left
               ·intro w'
                go_simp
                with_reducible rfl
               rotate_left
               ·simp only [Act.put, xset_a, xset_z, xset_s, i64_w, i32_w]
                rfl
               refine pure_ (i := 10) (N := some 83) (v := ?_) (a' := ?_) #[true, true, true, true, true, true, true, true, true, true, true, false, false, false, false, false, false, false, false, false, false, false, false, false] rfl rfl (any_of HT_.out (by kernel_rfl)) (fun _ _ _ h => h) (Or.inl ⟨by rfl, ?_⟩) ?_ ?_
               rotate_left
               ·intro w'
                go_simp
                with_reducible rfl
               rotate_left
               ·simp only [Act.put, xset_a, xset_z, xset_s, i64_w, i32_w]
                rfl
               refine pure_ (i := 11) (N := some 84) (v := ?_) (a' := ?_) #[true, true, true, true, true, true, true, true, true, true, true, true, false, false, false, false, false, false, false, false, false, false, false, false] rfl rfl (any_of HT_.out (by kernel_rfl)) (fun _ _ _ h => h) (Or.inl ⟨by rfl, ?_⟩) ?_ ?_
               rotate_left
               ·intro w'
                go_simp
                with_reducible rfl
               rotate_left
               ·simp only [Act.put, xset_a, xset_z, xset_s, i64_w, i32_w]
                rfl
               refine pure_ (i := 12) (N := some 85) (v := ?_) (a' := ?_) #[true, true, true, true, true, true, true, true, true, true, true, true, true, false, false, false, false, false, false, false, false, false, false, false] rfl rfl (any_of HT_.out (by kernel_rfl)) (fun _ _ _ h => h) (Or.inl ⟨by rfl, ?_⟩) ?_ ?_
               rotate_left
               ·intro w'
                go_simp
                with_reducible rfl
               rotate_left
               ·simp only [Act.put, xset_a, xset_z, xset_s, i64_w, i32_w]
                rfl
               refine pure_ (i := 13) (N := some 86) (v := ?_) (a' := ?_) #[true, true, true, true, true, true, true, true, true, true, true, true, true, true, false, false, false, false, false, false, false, false, false, false] rfl rfl (any_of HT_.out (by kernel_rfl)) (fun _ _ _ h => h) (Or.inl ⟨by rfl, ?_⟩) ?_ ?_
               rotate_left
               ·intro w'
                go_simp
                with_reducible rfl
               rotate_left
               ·simp only [Act.put, xset_a, xset_z, xset_s, i64_w, i32_w]
                rfl
               refine pure_ (i := 14) (N := some 87) (v := ?_) (a' := ?_) #[true, true, true, true, true, true, true, true, true, true, true, true, true, true, true, false, false, false, false, false, false, false, false, false] rfl rfl (any_of HT_.out (by kernel_rfl)) (fun _ _ _ h => h) (Or.inl ⟨by rfl, ?_⟩) ?_ ?_
               rotate_left
               ·intro w'
                go_simp
                with_reducible rfl
               rotate_left
               ·simp only [Act.put, xset_a, xset_z, xset_s, i64_w, i32_w]
                rfl
               refine pure_ (i := 15) (N := some 88) (v := ?_) (a' := ?_) #[true, true, true, true, true, true, true, true, true, true, true, true, true, true, true, true, false, false, false, false, false, false, false, false] rfl rfl (any_of HT_.out (by kernel_rfl)) (fun _ _ _ h => h) (Or.inl ⟨by rfl, ?_⟩) ?_ ?_
               rotate_left
               ·intro w'
                go_simp
                with_reducible rfl
               rotate_left
               ·simp only [Act.put, xset_a, xset_z, xset_s, i64_w, i32_w]
                rfl
               refine pure_ (i := 16) (N := some 89) (v := ?_) (a' := ?_) #[true, true, true, true, true, true, true, true, true, true, true, true, true, true, true, true, true, false, false, false, false, false, false, false] rfl rfl (any_of HT_.out (by kernel_rfl)) (fun _ _ _ h => h) (Or.inl ⟨by rfl, ?_⟩) ?_ ?_
               rotate_left
               ·intro w'
                go_simp
                with_reducible rfl
               rotate_left
               ·simp only [Act.put, xset_a, xset_z, xset_s, i64_w, i32_w]
                rfl
               refine pure_ (i := 17) (N := some 90) (v := ?_) (a' := ?_) #[true, true, true, true, true, true, true, true, true, true, true, true, true, true, true, true, true, true, false, false, false, false, false, false] rfl rfl (any_of HT_.out (by kernel_rfl)) (fun _ _ _ h => h) (Or.inl ⟨by rfl, ?_⟩) ?_ ?_
               rotate_left
               ·intro w'
                go_simp
                with_reducible rfl
               rotate_left
               ·simp only [Act.put, xset_a, xset_z, xset_s, i64_w, i32_w]
                rfl
               refine pure_ (i := 20) (N := some 93) (v := ?_) (a' := ?_) #[true, true, true, true, true, true, true, true, true, true, true, true, true, true, true, true, true, true, false, false, true, false, false, false] rfl rfl (any_of HT_.out (by kernel_rfl)) (fun _ _ _ h => h) (Or.inl ⟨by rfl, ?_⟩) ?_ ?_
               rotate_left
               ·intro w'
                go_simp
                with_reducible rfl
               rotate_left
               ·simp only [Act.put, xset_a, xset_z, xset_s, i64_w, i32_w]
                rfl
               refine take_ (i := 18) (N := some 91) (v := ?_) (a' := ?_) #[true, true, true, true, true, true, true, true, true, true, true, true, true, true, true, true, true, true, true, false, true, false, false, false] rfl rfl (take_ofW HT_.out HW_.out (by kernel_rfl)) (fun _ _ _ h => h) (Or.inl ⟨by rfl, ?_⟩) hHeld ?_ ?_
               rotate_left
               ·rintro w' ⟨s0, s1, s2, s3, s4, s5, s6, s7, s8, s9, s10, s11, s12, s13, s14, s15, s16, s17, s18, s19, s20, s21, s22, s23, s24, s25, s26, s27, s28⟩
                go_simp
                with_reducible rfl
               rotate_left
               ·simp only [Act.put, xset_a, xset_z, xset_s, i64_w, i32_w]
                rfl
               refine one_ (i := 19) (N := some 92) #[true, true, true, true, true, true, true, true, true, true, true, true, true, true, true, true, true, true, true, true, true, false, false, false] rfl rfl (one_of HT_.out (by kernel_rfl)) (by decide) (fun K hK => ?_)
               refine goes_ Try.func21 (by kernel_rfl) rfl #[.slice (some ad139) x9_28.length co89, .agg #[.string ⟨#[97]⟩, .int .i64 t104, .int .i64 t105, .int .i64 t106, .int .i64 t107, .string ⟨#[98]⟩, .int .i64 t108, .int .i64 t109, .int .i64 t110, .int .i64 t111, .string (rdOf ByteArray.empty y120 t123)]] (by rfl) rfl rfl (by (try simp only [List.map_toArray, List.map_cons, List.map_nil]); first | done | rfl | (simp only [List.length_drop, List.length_take]; rfl)) ?_
               with_reducible refine (mail_Release.calls kj66 _ _ x9_28 (⟨#[97]⟩ : ByteArray) t104 t105 t106 t107 (⟨#[98]⟩ : ByteArray) t108 t109 t110 t111 (rdOf ByteArray.empty y120 t123) t141 _ (by first | exact HG.out | exact MaxAt.below HG.out (by repeat (first | (with_reducible first | exact HB.out | apply below_alloc | apply pw_below_drewN | apply below_drew1 | refine below_set ?_ (Aside0.out (by assumption))) | exact HB.out))) ?side1 ?side2 A105.out).mono ?_
               (case side1 => repeat (first | exact (Kd.R_reads' HO_9.out).2.2 | (with_reducible refine Kd.C_alloc ?_ _) | (with_reducible refine Kd.C_drewN ?_ _) | (with_reducible refine Kd.C_drew ?_)))
               (case side2 => exact (Kd.R_reads' HO_9.out).2.1)
               rintro e w107 ⟨rfl, hb⟩
               have HS20_ := (hb.cell (World.block_lt_of_cell? _ _ (hHeld.2.2.2.2.2.2.2.2.2.2.2.2.2.2.2.2.2.2.2.2.1))).trans (hHeld.2.2.2.2.2.2.2.2.2.2.2.2.2.2.2.2.2.2.2.2.1)
               have HS21_ := (hb.cell (World.block_lt_of_cell? _ _ (hHeld.2.2.2.2.2.2.2.2.2.2.2.2.2.2.2.2.2.2.2.2.2.1))).trans (hHeld.2.2.2.2.2.2.2.2.2.2.2.2.2.2.2.2.2.2.2.2.2.1)
               have HS22_ := (hb.cell (World.block_lt_of_cell? _ _ (hHeld.2.2.2.2.2.2.2.2.2.2.2.2.2.2.2.2.2.2.2.2.2.2.1))).trans (hHeld.2.2.2.2.2.2.2.2.2.2.2.2.2.2.2.2.2.2.2.2.2.2.1)
               have HS23_ := (hb.cell (World.block_lt_of_cell? _ _ (hHeld.2.2.2.2.2.2.2.2.2.2.2.2.2.2.2.2.2.2.2.2.2.2.2.1))).trans (hHeld.2.2.2.2.2.2.2.2.2.2.2.2.2.2.2.2.2.2.2.2.2.2.2.1)
               have HS24_ := (hb.cell (World.block_lt_of_cell? _ _ (hHeld.2.2.2.2.2.2.2.2.2.2.2.2.2.2.2.2.2.2.2.2.2.2.2.2.1))).trans (hHeld.2.2.2.2.2.2.2.2.2.2.2.2.2.2.2.2.2.2.2.2.2.2.2.2.1)
               have HS25_ := (hb.cell (World.block_lt_of_cell? _ _ (hHeld.2.2.2.2.2.2.2.2.2.2.2.2.2.2.2.2.2.2.2.2.2.2.2.2.2.1))).trans (hHeld.2.2.2.2.2.2.2.2.2.2.2.2.2.2.2.2.2.2.2.2.2.2.2.2.2.1)
               have HS26_ := (hb.cell (World.block_lt_of_cell? _ _ (hHeld.2.2.2.2.2.2.2.2.2.2.2.2.2.2.2.2.2.2.2.2.2.2.2.2.2.2.1))).trans (hHeld.2.2.2.2.2.2.2.2.2.2.2.2.2.2.2.2.2.2.2.2.2.2.2.2.2.2.1)
               have HS27_ := (hb.cell (World.block_lt_of_cell? _ _ (hHeld.2.2.2.2.2.2.2.2.2.2.2.2.2.2.2.2.2.2.2.2.2.2.2.2.2.2.2.1))).trans (hHeld.2.2.2.2.2.2.2.2.2.2.2.2.2.2.2.2.2.2.2.2.2.2.2.2.2.2.2.1)
               have HS28_ := (hb.cell (World.block_lt_of_cell? _ _ (hHeld.2.2.2.2.2.2.2.2.2.2.2.2.2.2.2.2.2.2.2.2.2.2.2.2.2.2.2.2))).trans (hHeld.2.2.2.2.2.2.2.2.2.2.2.2.2.2.2.2.2.2.2.2.2.2.2.2.2.2.2.2)
               refine ⟨_, rfl, ?_⟩
               have n0_ := Aside0.mk (Kd.R_below (by (with_reducible repeat (first | apply Kd.R_alloc | apply Kd.R_drewN | apply Kd.R_drew)); exact HO_9.out) hb)
               have n1_ := Aside0.mk (blk_below (g := gb101) (o := .cells #[.int .i64 t104, .int .i64 t105, .int .i64 t106, .int .i64 t107] 26 (0, 0)) (by (with_reducible repeat (first | refine blk_drewN ?_ _ | refine blk_drew ?_ | refine blk_alloc ?_ _)); exact BK101.out) hb)
               have n2_ := Aside0.mk (blk_below (g := gb102) (o := .cells #[.int .i64 t108, .int .i64 t109, .int .i64 t110, .int .i64 t111] 26 (0, 0)) (by (with_reducible repeat (first | refine blk_drewN ?_ _ | refine blk_drew ?_ | refine blk_alloc ?_ _)); exact BK102.out) hb)
               have n3_ := Aside0.mk (blk_below (g := gb125) (o := .cells #[.string ⟨#[97]⟩, .int .i64 t104, .int .i64 t105, .int .i64 t106, .int .i64 t107, .string ⟨#[98]⟩, .int .i64 t108, .int .i64 t109, .int .i64 t110, .int .i64 t111, .string (rdOf ByteArray.empty y120 t123)] 28 (0, 0)) (by (with_reducible repeat (first | refine blk_drewN ?_ _ | refine blk_drew ?_ | refine blk_alloc ?_ _)); exact BK125.out) hb)
               have n4_ := Aside0.mk (blk_below (g := gb136) (o := .cells #[.int .i64 t126, .int .i64 t127, .int .i64 t128, .int .i64 t129, .int .i64 t130, .int .i64 t131, .int .i64 t132, .int .i64 t133, .string t134] 44 (0, 0)) (by (with_reducible repeat (first | refine blk_drewN ?_ _ | refine blk_drew ?_ | refine blk_alloc ?_ _)); exact BK136.out) hb)
               have n5_ := Aside0.mk (below_step (by repeat (first | (with_reducible first | exact HB.out | apply below_alloc | apply pw_below_drewN | apply below_drew1 | refine below_set ?_ GE101.out | refine below_set ?_ GE102.out | refine below_set ?_ GE125.out | refine below_set ?_ GE136.out) | exact HB.out)) hb)
               clear HO_9 BK101 BK102 BK125 BK136 HB
               have HO_9 := n0_; have BK101 := n1_; have BK102 := n2_; have BK125 := n3_; have BK136 := n4_; have HB := n5_
               clear n0_ n1_ n2_ n3_ n4_ n5_
               (try clear hb)
               (try clear hb2)
               (try clear hk)
               (try clear hi)
               refine hK.out _ _ ⟨(blk_cell BK136.out 0).trans rfl, (blk_cell BK136.out 1).trans rfl, (blk_cell BK136.out 2).trans rfl, (blk_cell BK136.out 3).trans rfl, (blk_cell BK136.out 4).trans rfl, (blk_cell BK136.out 5).trans rfl, (blk_cell BK136.out 6).trans rfl, (blk_cell BK136.out 7).trans rfl, (blk_cell BK136.out 8).trans rfl, (blk_cell BK125.out 0).trans rfl, (blk_cell BK125.out 1).trans rfl, (blk_cell BK125.out 2).trans rfl, (blk_cell BK125.out 3).trans rfl, (blk_cell BK125.out 4).trans rfl, (blk_cell BK125.out 5).trans rfl, (blk_cell BK125.out 6).trans rfl, (blk_cell BK125.out 7).trans rfl, (blk_cell BK125.out 8).trans rfl, (blk_cell BK125.out 9).trans rfl, (blk_cell BK125.out 10).trans rfl, HS20_, HS21_, HS22_, HS23_, HS24_, HS25_, HS26_, HS27_, HS28_⟩ (fun hHeld => ?_)
               clear hK K
               refine norm_ (a' := ?_) ?_ ?_
               rotate_left
               ·show Act.put _ (some 92) _ = _
                simp only [Act.put, xset_a, xset_z, xset_s, i64_w, i32_w]
                rfl
               refine pure_ (i := 21) (N := some 94) (v := ?_) (a' := ?_) #[true, true, true, true, true, true, true, true, true, true, true, true, true, true, true, true, true, true, true, true, true, true, false, false] rfl rfl (any_of HT_.out (by kernel_rfl)) (fun _ _ _ h => h) (Or.inl ⟨by rfl, ?_⟩) ?_ ?_
               rotate_left
               ·intro w'
                go_simp
                with_reducible rfl
               rotate_left
               ·simp only [Act.put, xset_a, xset_z, xset_s, i64_w, i32_w]
                rfl
               refine pure_ (i := 22) (N := some 95) (v := ?_) (a' := ?_) #[true, true, true, true, true, true, true, true, true, true, true, true, true, true, true, true, true, true, true, true, true, true, true, false] rfl rfl (any_of HT_.out (by kernel_rfl)) (fun _ _ _ h => h) (Or.inl ⟨by rfl, ?_⟩) ?_ ?_
               rotate_left
               ·intro w'
                go_simp
                with_reducible rfl
               rotate_left
               ·simp only [Act.put, xset_a, xset_z, xset_s, i64_w, i32_w]
                rfl
               refine pure_ (i := 23) (N := some 8) (v := ?_) (a' := ?_) #[true, true, true, true, true, true, true, true, true, true, true, true, true, true, true, true, true, true, true, true, true, true, true, true] rfl rfl (any_of HT_.out (by kernel_rfl)) (fun _ _ _ h => h) (Or.inl ⟨by rfl, ?_⟩) ?_ ?_
               rotate_left
               ·intro w'
                go_simp
                with_reducible rfl
               rotate_left
               ·simp only [Act.put, xset_a, xset_z, xset_s, i64_w, i32_w]
                rfl
               refine done_ (done_of HT_.out (by kernel_rfl)) ?_
               try go_wp2
               go_ret
               exact ⟨by first | rfl | (simp [errW_none, errW_some] <;> rfl) | (simp [*, errW_none, errW_some] <;> rfl), by repeat (first | (with_reducible first | exact HB.out | apply below_alloc | apply pw_below_drewN | apply below_drew1 | refine below_set ?_ GE101.out | refine below_set ?_ GE102.out | refine below_set ?_ GE125.out | refine below_set ?_ GE136.out) | exact HB.out)⟩
              ·rw [if_neg c104] at H
               have c104b0 : (t138 == 0) = false := beq_eq_false_iff_ne.mpr c104
               have c104b1 : (t138 != 0) = true := bne_iff_ne.mpr c104
               obtain rfl := Option.some.inj H
               exact absurd HRT.out (by decide)
             ·rw [if_neg c103] at H
              have c103b0 : (t137 == 2) = false := beq_eq_false_iff_ne.mpr c103
              have c103b1 : (t137 != 2) = true := bne_iff_ne.mpr c103
              obtain rfl := Option.some.inj H
              exact absurd HRT.out (by decide)
            ·rw [if_neg c102] at H
             have c102b0 : ((t126 == ((rd_T44 x9_28 1).f0.f0) && (t127 == ((rd_T44 x9_28 1).f0.f1) && (t128 == ((rd_T44 x9_28 1).f0.f2) && (t129 == ((rd_T44 x9_28 1).f0.f3))))) && ((t130 == ((rd_T44 x9_28 1).f1.f0) && (t131 == ((rd_T44 x9_28 1).f1.f1) && (t132 == ((rd_T44 x9_28 1).f1.f2) && (t133 == ((rd_T44 x9_28 1).f1.f3))))) && (t134.toList == (((rd_T44 x9_28 1).f2).toList)))) = false := by simpa using c102
             clear c102
             obtain rfl := Option.some.inj H
             exact absurd HRT.out (by decide)
           ·rw [if_neg c101] at H
            exact absurd H (by simp)
          ·replace c100 := Bool.eq_false_iff.mpr c100
           subst c100
           have H1 : (some false) = some r := by rw [if_neg (show ¬ (false = true) by decide)] at H; exact H
           clear H
           have H := H1
           clear H1
           obtain rfl := Option.some.inj H
           exact absurd HRT.out (by decide)
       ·rw [if_neg c66] at H
        exact absurd H (by simp)
      ·rw [if_neg c63] at H
       exact absurd H (by simp)
     ·rw [if_neg c62] at H
      exact absurd H (by simp)
 ·replace c6 := Bool.eq_false_iff.mpr c6
  subst c6
  have H1 : (some false) = some r := by rw [if_neg (show ¬ (false = true) by decide)] at H; exact H
  clear H
  have H := H1
  clear H1
  obtain rfl := Option.some.inj H
  exact absurd HRT.out (by decide)

end Go.Proofs.Ytdbnjjkapelekaa.X
