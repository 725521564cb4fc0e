/- Written by a program of this session over the kit's print: YtophnhmlknbmeaaF4. -/
import Derived.Test.YtophnhmlknbmeaaH
import Derived.Test.YtophnhmlknbmeaaE42
import Derived.Test.YtophnhmlknbmeaaE45
import Derived.Test.YtophnhmlknbmeaaF6
import Derived.Test.YtophnhmlknbmeaaF9
import Derived.Test.YtophnhmlknbmeaaF10
import Derived.Test.YtophnhmlknbmeaaF13
import Derived.Test.YtophnhmlknbmeaaF14
import Derived.Test.YtophnhmlknbmeaaF15
import Derived.Test.YtophnhmlknbmeaaF16
import Derived.Test.YtophnhmlknbmeaaF17
import Derived.Test.YtophnhmlknbmeaaF18
namespace Go.Proofs.Ytophnhmlknbmeaa.X
open Go.RowKit Go.Proofs.YtophnhmlknbmeaaW.PrintWords Go.Proofs.YtophnhmlknbmeaaW.PrintLast Go.Proofs.YtophnhmlknbmeaaW.PrintMore Go.Proofs.Ytophnhmlknbmeaa.More
attribute [local go_sem] max2_int min2_int max_two min_two max_three min_three max_four min_four binOp_string_leq binOp_string_gtr   -- for this text's walks alone
set_option linter.unusedVariables false
set_option linter.unusedSimpArgs false

attribute [local go_sem high] eqA42 eqA45
/-! ### donjonlaw10_NodeOthers: function 4 -/
def donjonlaw10_NodeOthers.j0 : Nat → Bool → ByteArray → Int → Int → Int → Int → ByteArray → Int → Int → Int → Int → ByteArray → Int → Int → Int → Int → Int → ByteArray → Int → ByteArray → Int → Option (Bool)
  | 0, _, _, _, _, _, _, _, _, _, _, _, _, _, _, _, _, _, _, _, _, _ => none
  | k + 1, x40, x102000, x102001, x102002, x102003, x102004, x102005, x102006, x102007, x102008, x102009, x102010, x103000, x103001, x103002, x103003, x103004, x103005, x103006, x103007, x103008 => if x40 = true then (some true) else ((donjonlaw4_Good.f x102001 x102002 x102003 x102004).bind fun bt104 => ((donjonlaw4_Good.f x102006 x102007 x102008 x102009).bind fun bt108 => ((donjonlaw4_Good.f x103001 x103002 x103003 x103004).bind fun bt112 => ((donjonlaw10_within.f x103006 256).bind fun t116 => ((donjonlaw10_within.f x103008 256).bind fun t117 => ((node_EncodeMessage.f x102000 bt104.1 bt104.2.1 bt104.2.2.1 bt104.2.2.2 x102005 bt108.1 bt108.2.1 bt108.2.2.1 bt108.2.2.2 x102010).bind fun t118 => ((node_EncodeEntry.f x103000 bt112.1 bt112.2.1 bt112.2.2.1 bt112.2.2.2 x103005 t116 x103007 t117).bind fun t121 => ((node_ParseMessage.f t118).bind fun bt124 => ((node_ParseEntry.f t121).bind fun bt137 => ((donjonref10_EncodeMessage.f x102000 bt104.1 bt104.2.1 bt104.2.2.1 bt104.2.2.2 x102005 bt108.1 bt108.2.1 bt108.2.2.1 bt108.2.2.2 x102010).bind fun t148 => (if (strOfNums t118).toList = (strOfNums t148).toList then ((donjonref10_EncodeEntry.f k x103000 bt112.1 bt112.2.1 bt112.2.2.1 bt112.2.2.2 x103005 t116 x103007 t117).bind fun t151 => (if (strOfNums t121).toList = (strOfNums t151).toList then (if bt124.2.2.2.2.2.2.2.2.2.2.2 = 0 then (if bt137.2.2.2.2.2.2.2.2.2 = 0 then (if (bt124.1.toList == x102000.toList && ((bt124.2.1 == bt104.1 && (bt124.2.2.1 == bt104.2.1 && (bt124.2.2.2.1 == bt104.2.2.1 && (bt124.2.2.2.2.1 == bt104.2.2.2)))) && (bt124.2.2.2.2.2.1.toList == x102005.toList && ((bt124.2.2.2.2.2.2.1 == bt108.1 && (bt124.2.2.2.2.2.2.2.1 == bt108.2.1 && (bt124.2.2.2.2.2.2.2.2.1 == bt108.2.2.1 && (bt124.2.2.2.2.2.2.2.2.2.1 == bt108.2.2.2)))) && (bt124.2.2.2.2.2.2.2.2.2.2.1.toList == x102010.toList))))) = true then (some (bt137.1 == x103000 && ((bt137.2.1 == bt112.1 && (bt137.2.2.1 == bt112.2.1 && (bt137.2.2.2.1 == bt112.2.2.1 && (bt137.2.2.2.2.1 == bt112.2.2.2)))) && (bt137.2.2.2.2.2.1.toList == x103005.toList && (bt137.2.2.2.2.2.2.1 == t116 && (bt137.2.2.2.2.2.2.2.1.toList == x103007.toList && (bt137.2.2.2.2.2.2.2.2.1 == t117))))))) else (some false)) else (some false)) else (some false)) else (some false))) else (some false))))))))))))
def donjonlaw10_NodeOthers.f (k : Nat) (a0_0 : ByteArray) (a0_1 : Int) (a0_2 : Int) (a0_3 : Int) (a0_4 : Int) (a0_5 : ByteArray) (a0_6 : Int) (a0_7 : Int) (a0_8 : Int) (a0_9 : Int) (a0_10 : ByteArray) (a1_0 : Int) (a1_1 : Int) (a1_2 : Int) (a1_3 : Int) (a1_4 : Int) (a1_5 : ByteArray) (a1_6 : Int) (a1_7 : ByteArray) (a1_8 : Int) : Option (Bool) := (donjonlaw10_known.f).bind fun t103 => (if t103 = true then (if (a0_0.size : Int) > 255 then (donjonlaw10_NodeOthers.j0 k true a0_0 a0_1 a0_2 a0_3 a0_4 a0_5 a0_6 a0_7 a0_8 a0_9 a0_10 a1_0 a1_1 a1_2 a1_3 a1_4 a1_5 a1_6 a1_7 a1_8) else (if (a0_5.size : Int) > 255 then (donjonlaw10_NodeOthers.j0 k true a0_0 a0_1 a0_2 a0_3 a0_4 a0_5 a0_6 a0_7 a0_8 a0_9 a0_10 a1_0 a1_1 a1_2 a1_3 a1_4 a1_5 a1_6 a1_7 a1_8) else (if (a0_10.size : Int) > 255 then (donjonlaw10_NodeOthers.j0 k true a0_0 a0_1 a0_2 a0_3 a0_4 a0_5 a0_6 a0_7 a0_8 a0_9 a0_10 a1_0 a1_1 a1_2 a1_3 a1_4 a1_5 a1_6 a1_7 a1_8) else (if (a1_5.size : Int) > 255 then (donjonlaw10_NodeOthers.j0 k true a0_0 a0_1 a0_2 a0_3 a0_4 a0_5 a0_6 a0_7 a0_8 a0_9 a0_10 a1_0 a1_1 a1_2 a1_3 a1_4 a1_5 a1_6 a1_7 a1_8) else (donjonlaw10_NodeOthers.j0 k (decide ((a1_7.size : Int) > 255)) a0_0 a0_1 a0_2 a0_3 a0_4 a0_5 a0_6 a0_7 a0_8 a0_9 a0_10 a1_0 a1_1 a1_2 a1_3 a1_4 a1_5 a1_6 a1_7 a1_8))))) else (some false))
theorem donjonlaw10_NodeOthers.mono_l : ∀ k, (∀ y0 y1 y2 y3 y4 y5 y6 y7 y8 y9 y10 y11 y12 y13 y14 y15 y16 y17 y18 y19 y20, LeO (donjonlaw10_NodeOthers.j0 k y0 y1 y2 y3 y4 y5 y6 y7 y8 y9 y10 y11 y12 y13 y14 y15 y16 y17 y18 y19 y20) (donjonlaw10_NodeOthers.j0 (k + 1) y0 y1 y2 y3 y4 y5 y6 y7 y8 y9 y10 y11 y12 y13 y14 y15 y16 y17 y18 y19 y20))
  | 0 => fun _ _ _ _ _ _ _ _ _ _ _ _ _ _ _ _ _ _ _ _ _ r h => by simp [donjonlaw10_NodeOthers.j0] at h
  | k + 1 => by
    have ih0 := donjonlaw10_NodeOthers.mono_l k
    · intro y0 y1 y2 y3 y4 y5 y6 y7 y8 y9 y10 y11 y12 y13 y14 y15 y16 y17 y18 y19 y20
      unfold donjonlaw10_NodeOthers.j0
      repeat' first
      | (with_reducible exact ih0 _ _ _ _ _ _ _ _ _ _ _ _ _ _ _ _ _ _ _ _ _)
      | (with_reducible exact donjonref10_EncodeEntry.mono _ _ _ _ _ _ _ _ _ _)
      | (with_reducible exact LeO.refl _)
      | (with_reducible exact LeO.none _)
      | (with_reducible refine LeO.ite ?_ ?_)
      | (with_reducible refine LeO.bind ?_ (fun _ => ?_))
      | exact ih0 _ _ _ _ _ _ _ _ _ _ _ _ _ _ _ _ _ _ _ _ _
      | exact donjonref10_EncodeEntry.mono _ _ _ _ _ _ _ _ _ _
      | exact LeO.none _
      | refine LeO.ite ?_ ?_
      | refine LeO.bind ?_ (fun _ => ?_)
theorem donjonlaw10_NodeOthers.mono : ∀ a0 a1 a2 a3 a4 a5 a6 a7 a8 a9 a10 a11 a12 a13 a14 a15 a16 a17 a18 a19 k, LeO (donjonlaw10_NodeOthers.f k a0 a1 a2 a3 a4 a5 a6 a7 a8 a9 a10 a11 a12 a13 a14 a15 a16 a17 a18 a19) (donjonlaw10_NodeOthers.f (k + 1) a0 a1 a2 a3 a4 a5 a6 a7 a8 a9 a10 a11 a12 a13 a14 a15 a16 a17 a18 a19) := by
  intro a0 a1 a2 a3 a4 a5 a6 a7 a8 a9 a10 a11 a12 a13 a14 a15 a16 a17 a18 a19 k
  have ih0 := donjonlaw10_NodeOthers.mono_l k
  unfold donjonlaw10_NodeOthers.f
  repeat' first
      | (with_reducible exact ih0 _ _ _ _ _ _ _ _ _ _ _ _ _ _ _ _ _ _ _ _ _)
      | (with_reducible exact donjonref10_EncodeEntry.mono _ _ _ _ _ _ _ _ _ _)
      | (with_reducible exact LeO.refl _)
      | (with_reducible exact LeO.none _)
      | (with_reducible refine LeO.ite ?_ ?_)
      | (with_reducible refine LeO.bind ?_ (fun _ => ?_))
      | exact ih0 _ _ _ _ _ _ _ _ _ _ _ _ _ _ _ _ _ _ _ _ _
      | exact donjonref10_EncodeEntry.mono _ _ _ _ _ _ _ _ _ _
      | exact LeO.none _
      | refine LeO.ite ?_ ?_
      | refine LeO.bind ?_ (fun _ => ?_)
def donjonlaw10_NodeOthers.T5 : Bool × List (List Nat × List Nat) := (true, [([], []), ([0], [0]), ([1], [1]), ([], []), ([3], [3]), ([4, 2], [4]), ([], []), ([6], [6]), ([7, 5], [7]), ([0, 1, 2, 3, 4], []), ([9, 2, 8, 0, 1, 2, 3, 4], [2, 9]), ([0, 1, 2, 3, 4, 5, 9, 10], []), ([11, 5, 10, 0, 1, 2, 3, 4, 5, 9, 10], [5, 11]), ([0, 1, 2, 3, 4, 5, 6, 7, 8, 9, 10, 11, 12], []), ([13, 8, 12, 0, 1, 2, 3, 4, 5, 6, 7, 8, 9, 10, 11, 12], [8, 13])])
def donjonlaw10_NodeOthers.B5 : List Nat := [0, 1, 3, 0, 8, 31, 0, 64, 255, 31, 1023, 2047, 4095, 8191, 16383]
theorem donjonlaw10_NodeOthers.tab5 : rtab .any (opsOf Try.f4 5) = donjonlaw10_NodeOthers.T5 := by kernel_rfl
theorem donjonlaw10_NodeOthers.bits5 : waitsOk donjonlaw10_NodeOthers.T5.2 donjonlaw10_NodeOthers.B5 = true := by kernel_rfl
def donjonlaw10_NodeOthers.T6 : Bool × List (List Nat × List Nat) := (true, [([], []), ([0], [0]), ([1], [1]), ([], []), ([3], [3]), ([4, 2], [4]), ([0, 1, 2, 3, 4], []), ([6, 2, 5, 0, 1, 2, 3, 4], [2, 6]), ([0, 1, 2, 3, 4, 5, 6, 7], []), ([8, 5, 7, 0, 1, 2, 3, 4, 5, 6, 7], [5, 8])])
def donjonlaw10_NodeOthers.B6 : List Nat := [0, 1, 3, 0, 8, 31, 31, 127, 255, 511]
theorem donjonlaw10_NodeOthers.tab6 : rtab .any (opsOf Try.f4 6) = donjonlaw10_NodeOthers.T6 := by kernel_rfl
theorem donjonlaw10_NodeOthers.bits6 : waitsOk donjonlaw10_NodeOthers.T6.2 donjonlaw10_NodeOthers.B6 = true := by kernel_rfl
def donjonlaw10_NodeOthers.T10 : Bool × List (List Nat × List Nat) := (true, [([], []), ([0], [0]), ([], []), ([2], [2]), ([3], [3]), ([1, 4], [1, 4]), ([5, 3], [5]), ([6], [6]), ([7, 6], [6, 7]), ([6], [6]), ([9, 6, 6], [6, 9]), ([10, 6], [6, 10]), ([8, 11, 6], [6, 8, 11]), ([6, 12], [6, 12]), ([13, 10], [13]), ([14], [14]), ([15, 14], [14, 15]), ([14, 16], [14, 16]), ([17, 14], [17]), ([18], [18]), ([19, 18], [18, 19]), ([18, 20], [18, 20]), ([21, 18], [21]), ([22], [22]), ([22], [22]), ([23, 24, 22], [22, 23, 24]), ([22, 25], [22, 25]), ([26, 22], [26]), ([27], [27]), ([27], [27]), ([28, 29, 27], [27, 28, 29]), ([27, 30], [27, 30]), ([31, 27, 0, 1, 2, 3, 4, 5, 6, 7, 8, 9, 10, 11, 12, 13, 14, 15, 16, 17, 18, 19, 20, 21, 22, 23, 24, 25, 26, 27, 28, 29, 30, 31], [31])])
def donjonlaw10_NodeOthers.B10 : List Nat := [0, 1, 0, 4, 12, 31, 63, 127, 255, 127, 639, 1663, 4095, 8191, 16383, 32767, 65535, 131071, 262143, 524287, 1048575, 2097151, 4194303, 8388607, 8388607, 33554431, 67108863, 134217727, 268435455, 268435455, 1073741823, 2147483647, 4294967295]
theorem donjonlaw10_NodeOthers.tab10 : rtab .any (opsOf Try.f4 10) = donjonlaw10_NodeOthers.T10 := by kernel_rfl
theorem donjonlaw10_NodeOthers.bits10 : waitsOk donjonlaw10_NodeOthers.T10.2 donjonlaw10_NodeOthers.B10 = true := by kernel_rfl
set_option maxHeartbeats 8000000 in
set_option maxRecDepth 100000 in
theorem donjonlaw10_NodeOthers.calls (k : Nat) (a0_0 : ByteArray) (a0_1 : Int) (a0_2 : Int) (a0_3 : Int) (a0_4 : Int) (a0_5 : ByteArray) (a0_6 : Int) (a0_7 : Int) (a0_8 : Int) (a0_9 : Int) (a0_10 : ByteArray) (a1_0 : Int) (a1_1 : Int) (a1_2 : Int) (a1_3 : Int) (a1_4 : Int) (a1_5 : ByteArray) (a1_6 : Int) (a1_7 : ByteArray) (a1_8 : Int) (r : Bool) (w : World) (hrt0 : r = true) (h : donjonlaw10_NodeOthers.f k a0_0 a0_1 a0_2 a0_3 a0_4 a0_5 a0_6 a0_7 a0_8 a0_9 a0_10 a1_0 a1_1 a1_2 a1_3 a1_4 a1_5 a1_6 a1_7 a1_8 = some r) :
    Calls Try.prog 4 #[.agg #[.string a0_0, .int .i64 a0_1, .int .i64 a0_2, .int .i64 a0_3, .int .i64 a0_4, .string a0_5, .int .i64 a0_6, .int .i64 a0_7, .int .i64 a0_8, .int .i64 a0_9, .string a0_10], .agg #[.int .i64 a1_0, .int .i64 a1_1, .int .i64 a1_2, .int .i64 a1_3, .int .i64 a1_4, .string a1_5, .int .i64 a1_6, .string a1_7, .int .i64 a1_8]] w fun e w' => e = .returned (.bool r) ∧ Below w.heap.size w w' := by
  have HRT := Aside0.mk hrt0
  clear hrt0
  have hu42 := Try.underlying42
  have hu45 := Try.underlying45
  have hu23 := Try.underlying23
  have HB := Aside0.mk (Below.refl w.heap.size w)
  have H : ((donjonlaw10_known.f).bind fun t103 => (if t103 = true then (if (a0_0.size : Int) > 255 then (donjonlaw10_NodeOthers.j0 k true a0_0 a0_1 a0_2 a0_3 a0_4 a0_5 a0_6 a0_7 a0_8 a0_9 a0_10 a1_0 a1_1 a1_2 a1_3 a1_4 a1_5 a1_6 a1_7 a1_8) else (if (a0_5.size : Int) > 255 then (donjonlaw10_NodeOthers.j0 k true a0_0 a0_1 a0_2 a0_3 a0_4 a0_5 a0_6 a0_7 a0_8 a0_9 a0_10 a1_0 a1_1 a1_2 a1_3 a1_4 a1_5 a1_6 a1_7 a1_8) else (if (a0_10.size : Int) > 255 then (donjonlaw10_NodeOthers.j0 k true a0_0 a0_1 a0_2 a0_3 a0_4 a0_5 a0_6 a0_7 a0_8 a0_9 a0_10 a1_0 a1_1 a1_2 a1_3 a1_4 a1_5 a1_6 a1_7 a1_8) else (if (a1_5.size : Int) > 255 then (donjonlaw10_NodeOthers.j0 k true a0_0 a0_1 a0_2 a0_3 a0_4 a0_5 a0_6 a0_7 a0_8 a0_9 a0_10 a1_0 a1_1 a1_2 a1_3 a1_4 a1_5 a1_6 a1_7 a1_8) else (donjonlaw10_NodeOthers.j0 k (decide ((a1_7.size : Int) > 255)) a0_0 a0_1 a0_2 a0_3 a0_4 a0_5 a0_6 a0_7 a0_8 a0_9 a0_10 a1_0 a1_1 a1_2 a1_3 a1_4 a1_5 a1_6 a1_7 a1_8))))) else (some false))) = some r := h
  clear h
  replace H := Option.bind_eq_some_iff.mp H
  obtain ⟨t103, A30, H⟩ := H
  replace H : (if t103 = true then (if (a0_0.size : Int) > 255 then (donjonlaw10_NodeOthers.j0 k true a0_0 a0_1 a0_2 a0_3 a0_4 a0_5 a0_6 a0_7 a0_8 a0_9 a0_10 a1_0 a1_1 a1_2 a1_3 a1_4 a1_5 a1_6 a1_7 a1_8) else (if (a0_5.size : Int) > 255 then (donjonlaw10_NodeOthers.j0 k true a0_0 a0_1 a0_2 a0_3 a0_4 a0_5 a0_6 a0_7 a0_8 a0_9 a0_10 a1_0 a1_1 a1_2 a1_3 a1_4 a1_5 a1_6 a1_7 a1_8) else (if (a0_10.size : Int) > 255 then (donjonlaw10_NodeOthers.j0 k true a0_0 a0_1 a0_2 a0_3 a0_4 a0_5 a0_6 a0_7 a0_8 a0_9 a0_10 a1_0 a1_1 a1_2 a1_3 a1_4 a1_5 a1_6 a1_7 a1_8) else (if (a1_5.size : Int) > 255 then (donjonlaw10_NodeOthers.j0 k true a0_0 a0_1 a0_2 a0_3 a0_4 a0_5 a0_6 a0_7 a0_8 a0_9 a0_10 a1_0 a1_1 a1_2 a1_3 a1_4 a1_5 a1_6 a1_7 a1_8) else (donjonlaw10_NodeOthers.j0 k (decide ((a1_7.size : Int) > 255)) a0_0 a0_1 a0_2 a0_3 a0_4 a0_5 a0_6 a0_7 a0_8 a0_9 a0_10 a1_0 a1_1 a1_2 a1_3 a1_4 a1_5 a1_6 a1_7 a1_8))))) else (some false)) = some r := H
  have A3 := Aside0.mk A30
  clear A30
  by_cases c4 : t103 = true
  · subst c4
    have H1 : (if (a0_0.size : Int) > 255 then (donjonlaw10_NodeOthers.j0 k true a0_0 a0_1 a0_2 a0_3 a0_4 a0_5 a0_6 a0_7 a0_8 a0_9 a0_10 a1_0 a1_1 a1_2 a1_3 a1_4 a1_5 a1_6 a1_7 a1_8) else (if (a0_5.size : Int) > 255 then (donjonlaw10_NodeOthers.j0 k true a0_0 a0_1 a0_2 a0_3 a0_4 a0_5 a0_6 a0_7 a0_8 a0_9 a0_10 a1_0 a1_1 a1_2 a1_3 a1_4 a1_5 a1_6 a1_7 a1_8) else (if (a0_10.size : Int) > 255 then (donjonlaw10_NodeOthers.j0 k true a0_0 a0_1 a0_2 a0_3 a0_4 a0_5 a0_6 a0_7 a0_8 a0_9 a0_10 a1_0 a1_1 a1_2 a1_3 a1_4 a1_5 a1_6 a1_7 a1_8) else (if (a1_5.size : Int) > 255 then (donjonlaw10_NodeOthers.j0 k true a0_0 a0_1 a0_2 a0_3 a0_4 a0_5 a0_6 a0_7 a0_8 a0_9 a0_10 a1_0 a1_1 a1_2 a1_3 a1_4 a1_5 a1_6 a1_7 a1_8) else (donjonlaw10_NodeOthers.j0 k (decide ((a1_7.size : Int) > 255)) a0_0 a0_1 a0_2 a0_3 a0_4 a0_5 a0_6 a0_7 a0_8 a0_9 a0_10 a1_0 a1_1 a1_2 a1_3 a1_4 a1_5 a1_6 a1_7 a1_8))))) = some r := by rw [if_pos rfl] at H; exact H
    clear H
    have H := H1
    clear H1
    have HC5 := Aside0.mk H
    clear H
    go_enter Try.func4, Try.ntmps4
    go_upto_region 3 with (first | ((with_reducible refine gate_dst (N := 2) rfl ?_); (try (refine gate_guard (by rfl) ?_; dsimp only)); refine box_event ?hg (N := 2) ?hd (cs := #[.string a0_0, .int .i64 a0_1, .int .i64 a0_2, .int .i64 a0_3, .int .i64 a0_4, .string a0_5, .int .i64 a0_6, .int .i64 a0_7, .int .i64 a0_8, .int .i64 a0_9, .string a0_10]) (t := 42) ?hr ?_; (case hd => rfl); (case hg => rfl); (case hr => first | (go_simp; done) | (go_simp; rfl)); intro gb101 hg w6 hbox hb; have n0_ := Aside0.mk (below_step (by repeat (first | (with_reducible first | exact HB.out | apply below_alloc | apply pw_below_drewN | apply below_drew1) | exact HB.out)) hb); have n1_ := Aside0.mk (hbox); have n2_ := Aside0.mk ((by rw [hg]; exact (below_size (by repeat (first | (with_reducible first | exact HB.out | apply below_alloc | apply pw_below_drewN | apply below_drew1) | exact HB.out))) : w.heap.size ≤ gb101)); have n3_ := Aside0.mk ((by rw [hg]; exact (below_size (by repeat (first | (with_reducible first | exact HB.out | apply below_alloc | apply pw_below_drewN | apply below_drew1) | exact HB.out))) : w.heap.size ≤ gb101)); clear HB; have HB := n0_; have BK101 := n1_; have GW101 := n2_; have GE101 := n3_; clear n0_ n1_ n2_ n3_; clear hb hbox hg) | ((with_reducible refine gate_dst (N := 3) rfl ?_); (try (refine gate_guard (by rfl) ?_; dsimp only)); refine box_event ?hg (N := 3) ?hd (cs := #[.int .i64 a1_0, .int .i64 a1_1, .int .i64 a1_2, .int .i64 a1_3, .int .i64 a1_4, .string a1_5, .int .i64 a1_6, .string a1_7, .int .i64 a1_8]) (t := 45) ?hr ?_; (case hd => rfl); (case hg => rfl); (case hr => first | (go_simp; done) | (go_simp; rfl)); intro gb102 hg w7 hbox hb; have n0_ := Aside0.mk (blk_below (g := gb101) (o := .cells #[.string a0_0, .int .i64 a0_1, .int .i64 a0_2, .int .i64 a0_3, .int .i64 a0_4, .string a0_5, .int .i64 a0_6, .int .i64 a0_7, .int .i64 a0_8, .int .i64 a0_9, .string a0_10] 42 (0, 0)) (by (with_reducible repeat (first | refine blk_drewN ?_ _ | refine blk_drew ?_ | refine blk_alloc ?_ _)); exact BK101.out) hb); have n1_ := Aside0.mk (below_step (by repeat (first | (with_reducible first | exact HB.out | apply below_alloc | apply pw_below_drewN | apply below_drew1 | refine below_set ?_ GE101.out) | exact HB.out)) hb); have n2_ := Aside0.mk (hbox); have n3_ := Aside0.mk ((by rw [hg]; exact (below_size (by repeat (first | (with_reducible first | exact HB.out | apply below_alloc | apply pw_below_drewN | apply below_drew1 | refine below_set ?_ GE101.out) | exact HB.out))) : w.heap.size ≤ gb102)); have n4_ := Aside0.mk ((by rw [hg]; exact (below_size (by repeat (first | (with_reducible first | exact HB.out | apply below_alloc | apply pw_below_drewN | apply below_drew1 | refine below_set ?_ GE101.out) | exact HB.out))) : w.heap.size ≤ gb102)); have n5_ := Aside0.mk ((by rw [hg]; exact Nat.ne_of_lt (blk_lt (g := gb101) (o := .cells #[.string a0_0, .int .i64 a0_1, .int .i64 a0_2, .int .i64 a0_3, .int .i64 a0_4, .string a0_5, .int .i64 a0_6, .int .i64 a0_7, .int .i64 a0_8, .int .i64 a0_9, .string a0_10] 42 (0, 0)) (by (with_reducible repeat (first | refine blk_drewN ?_ _ | refine blk_drew ?_ | refine blk_alloc ?_ _)); exact BK101.out)) : gb101 ≠ gb102)); have n6_ := Aside0.mk ((by rw [hg]; exact Nat.ne_of_gt (blk_lt (g := gb101) (o := .cells #[.string a0_0, .int .i64 a0_1, .int .i64 a0_2, .int .i64 a0_3, .int .i64 a0_4, .string a0_5, .int .i64 a0_6, .int .i64 a0_7, .int .i64 a0_8, .int .i64 a0_9, .string a0_10] 42 (0, 0)) (by (with_reducible repeat (first | refine blk_drewN ?_ _ | refine blk_drew ?_ | refine blk_alloc ?_ _)); exact BK101.out)) : gb102 ≠ gb101)); clear BK101; clear HB; have BK101 := n0_; have HB := n1_; have BK102 := n2_; have GW102 := n3_; have GE102 := n4_; have NB101_102 := n5_; have NB102_101 := n6_; clear n0_ n1_ n2_ n3_ n4_ n5_ n6_; clear hb hbox hg) | ((with_reducible refine gate_callee (f := 6) rfl ?_); refine goesL_ (some 11) rfl rfl Try.func6 (by kernel_rfl) rfl #[] rfl (by (try simp only [List.map_toArray, List.map_cons, List.map_nil]); first | done | rfl | (simp only [List.length_drop, List.length_take]; rfl)) ?_; (with_reducible refine (donjonlaw10_known.calls  true _ A3.out).mono ?_); rintro e w8 ⟨rfl, hb⟩; refine ⟨_, rfl, ?_⟩; have n0_ := Aside0.mk (blk_below (g := gb101) (o := .cells #[.string a0_0, .int .i64 a0_1, .int .i64 a0_2, .int .i64 a0_3, .int .i64 a0_4, .string a0_5, .int .i64 a0_6, .int .i64 a0_7, .int .i64 a0_8, .int .i64 a0_9, .string a0_10] 42 (0, 0)) (by (with_reducible repeat (first | refine blk_drewN ?_ _ | refine blk_drew ?_ | refine blk_alloc ?_ _)); exact BK101.out) hb); have n1_ := Aside0.mk (blk_below (g := gb102) (o := .cells #[.int .i64 a1_0, .int .i64 a1_1, .int .i64 a1_2, .int .i64 a1_3, .int .i64 a1_4, .string a1_5, .int .i64 a1_6, .string a1_7, .int .i64 a1_8] 45 (0, 0)) (by (with_reducible repeat (first | refine blk_drewN ?_ _ | refine blk_drew ?_ | refine blk_alloc ?_ _)); exact BK102.out) hb); have n2_ := Aside0.mk (below_step (by repeat (first | (with_reducible first | exact HB.out | apply below_alloc | apply pw_below_drewN | apply below_drew1 | refine below_set ?_ GE101.out | refine below_set ?_ GE102.out) | exact HB.out)) hb); clear BK101; clear BK102; clear HB; have BK101 := n0_; have BK102 := n1_; have HB := n2_; clear n0_ n1_ n2_; (try clear hb); (try clear hb2); (try clear hk); (try clear hi)))
    (try simp only [Act.put, List.setIfInBounds_toArray, List.set_cons_zero, List.set_cons_succ])
    go_cut [40] (fun v40 wc => ∃ (kq : Nat) (x40_4 : Bool), v40 = .bool x40_4 ∧ Aside0 (donjonlaw10_NodeOthers.j0 kq x40_4 a0_0 a0_1 a0_2 a0_3 a0_4 a0_5 a0_6 a0_7 a0_8 a0_9 a0_10 a1_0 a1_1 a1_2 a1_3 a1_4 a1_5 a1_6 a1_7 a1_8 = some r) ∧ Aside0 (kq ≤ k) ∧ Aside0 (wc.heap[gb101]? = some (.cells #[.string a0_0, .int .i64 a0_1, .int .i64 a0_2, .int .i64 a0_3, .int .i64 a0_4, .string a0_5, .int .i64 a0_6, .int .i64 a0_7, .int .i64 a0_8, .int .i64 a0_9, .string a0_10] 42 (0, 0))) ∧ Aside0 (wc.heap[gb102]? = some (.cells #[.int .i64 a1_0, .int .i64 a1_1, .int .i64 a1_2, .int .i64 a1_3, .int .i64 a1_4, .string a1_5, .int .i64 a1_6, .string a1_7, .int .i64 a1_8] 45 (0, 0))) ∧ Aside0 (Below w.heap.size w wc))
    case first =>
      have H := HC5.out
      clear HC5
      by_cases c9 : (a0_0.size : Int) > 255
      · rw [if_pos c9] at H
        have c9b0 : decide (255 < (a0_0.size : Int)) = true := decide_eq_true c9
        have c9b1 : decide (255 < a0_0.size) = true := decide_eq_true (by omega)
        clear c9
        (first | rw [c9b0] | (simp only [i64_w, i32_w]; rw [c9b0]) | skip)
        have H' := Aside0.mk H
        clear H
        have hnb10 := NB101_102.out
        have hnc10 := NB102_101.out
        have hcz11_0 : w8.cell? ⟨gb101, 0, none⟩ = some (.string a0_0) := (blk_cell BK101.out 0).trans rfl
        have hcz11_1 : w8.cell? ⟨gb101, 1, none⟩ = some (.int .i64 a0_1) := (blk_cell BK101.out 1).trans rfl
        have hcz11_2 : w8.cell? ⟨gb101, 2, none⟩ = some (.int .i64 a0_2) := (blk_cell BK101.out 2).trans rfl
        have hcz11_3 : w8.cell? ⟨gb101, 3, none⟩ = some (.int .i64 a0_3) := (blk_cell BK101.out 3).trans rfl
        have hcz11_4 : w8.cell? ⟨gb101, 4, none⟩ = some (.int .i64 a0_4) := (blk_cell BK101.out 4).trans rfl
        have hcz11_5 : w8.cell? ⟨gb101, 5, none⟩ = some (.string a0_5) := (blk_cell BK101.out 5).trans rfl
        have hcz11_6 : w8.cell? ⟨gb101, 6, none⟩ = some (.int .i64 a0_6) := (blk_cell BK101.out 6).trans rfl
        have hcz11_7 : w8.cell? ⟨gb101, 7, none⟩ = some (.int .i64 a0_7) := (blk_cell BK101.out 7).trans rfl
        have hcz11_8 : w8.cell? ⟨gb101, 8, none⟩ = some (.int .i64 a0_8) := (blk_cell BK101.out 8).trans rfl
        have hcz11_9 : w8.cell? ⟨gb101, 9, none⟩ = some (.int .i64 a0_9) := (blk_cell BK101.out 9).trans rfl
        have hcz11_10 : w8.cell? ⟨gb101, 10, none⟩ = some (.string a0_10) := (blk_cell BK101.out 10).trans rfl
        have hfz11_0 := blk_frozen BK101.out 0
        have hfz11_1 := blk_frozen BK101.out 1
        have hfz11_2 := blk_frozen BK101.out 2
        have hfz11_3 := blk_frozen BK101.out 3
        have hfz11_4 := blk_frozen BK101.out 4
        have hfz11_5 := blk_frozen BK101.out 5
        have hfz11_6 := blk_frozen BK101.out 6
        have hfz11_7 := blk_frozen BK101.out 7
        have hfz11_8 := blk_frozen BK101.out 8
        have hfz11_9 := blk_frozen BK101.out 9
        have hfz11_10 := blk_frozen BK101.out 10
        go_wp2
        go_meet
        case rel => exact ⟨_, (true), (by first | rfl | (simp; done) | (simp [*]; done)), H', ⟨by first | omega | exact Nat.le_refl _⟩, ⟨by (with_reducible repeat (first | refine blk_drewN ?_ _ | refine blk_drew ?_ | refine blk_alloc ?_ _)); exact BK101.out⟩, ⟨by (with_reducible repeat (first | refine blk_drewN ?_ _ | refine blk_drew ?_ | refine blk_alloc ?_ _)); exact BK102.out⟩, ⟨by repeat (first | (with_reducible first | exact HB.out | apply below_alloc | apply pw_below_drewN | apply below_drew1 | refine below_set ?_ GE101.out | refine below_set ?_ GE102.out) | exact HB.out)⟩⟩
      · rw [if_neg c9] at H
        have c9b0 : decide (255 < (a0_0.size : Int)) = false := decide_eq_false c9
        have c9b1 : decide (255 < a0_0.size) = false := decide_eq_false (by omega)
        clear c9
        (first | rw [c9b0] | (simp only [i64_w, i32_w]; rw [c9b0]) | skip)
        by_cases c12 : (a0_5.size : Int) > 255
        · rw [if_pos c12] at H
          have c12b0 : decide (255 < (a0_5.size : Int)) = true := decide_eq_true c12
          have c12b1 : decide (255 < a0_5.size) = true := decide_eq_true (by omega)
          clear c12
          have H' := Aside0.mk H
          clear H
          have hnb13 := NB101_102.out
          have hnc13 := NB102_101.out
          have hcz14_0 : w8.cell? ⟨gb101, 0, none⟩ = some (.string a0_0) := (blk_cell BK101.out 0).trans rfl
          have hcz14_1 : w8.cell? ⟨gb101, 1, none⟩ = some (.int .i64 a0_1) := (blk_cell BK101.out 1).trans rfl
          have hcz14_2 : w8.cell? ⟨gb101, 2, none⟩ = some (.int .i64 a0_2) := (blk_cell BK101.out 2).trans rfl
          have hcz14_3 : w8.cell? ⟨gb101, 3, none⟩ = some (.int .i64 a0_3) := (blk_cell BK101.out 3).trans rfl
          have hcz14_4 : w8.cell? ⟨gb101, 4, none⟩ = some (.int .i64 a0_4) := (blk_cell BK101.out 4).trans rfl
          have hcz14_5 : w8.cell? ⟨gb101, 5, none⟩ = some (.string a0_5) := (blk_cell BK101.out 5).trans rfl
          have hcz14_6 : w8.cell? ⟨gb101, 6, none⟩ = some (.int .i64 a0_6) := (blk_cell BK101.out 6).trans rfl
          have hcz14_7 : w8.cell? ⟨gb101, 7, none⟩ = some (.int .i64 a0_7) := (blk_cell BK101.out 7).trans rfl
          have hcz14_8 : w8.cell? ⟨gb101, 8, none⟩ = some (.int .i64 a0_8) := (blk_cell BK101.out 8).trans rfl
          have hcz14_9 : w8.cell? ⟨gb101, 9, none⟩ = some (.int .i64 a0_9) := (blk_cell BK101.out 9).trans rfl
          have hcz14_10 : w8.cell? ⟨gb101, 10, none⟩ = some (.string a0_10) := (blk_cell BK101.out 10).trans rfl
          have hfz14_0 := blk_frozen BK101.out 0
          have hfz14_1 := blk_frozen BK101.out 1
          have hfz14_2 := blk_frozen BK101.out 2
          have hfz14_3 := blk_frozen BK101.out 3
          have hfz14_4 := blk_frozen BK101.out 4
          have hfz14_5 := blk_frozen BK101.out 5
          have hfz14_6 := blk_frozen BK101.out 6
          have hfz14_7 := blk_frozen BK101.out 7
          have hfz14_8 := blk_frozen BK101.out 8
          have hfz14_9 := blk_frozen BK101.out 9
          have hfz14_10 := blk_frozen BK101.out 10
          go_wp2
          go_meet
          case rel => exact ⟨_, (true), (by first | rfl | (simp; done) | (simp [*]; done)), H', ⟨by first | omega | exact Nat.le_refl _⟩, ⟨by (with_reducible repeat (first | refine blk_drewN ?_ _ | refine blk_drew ?_ | refine blk_alloc ?_ _)); exact BK101.out⟩, ⟨by (with_reducible repeat (first | refine blk_drewN ?_ _ | refine blk_drew ?_ | refine blk_alloc ?_ _)); exact BK102.out⟩, ⟨by repeat (first | (with_reducible first | exact HB.out | apply below_alloc | apply pw_below_drewN | apply below_drew1 | refine below_set ?_ GE101.out | refine below_set ?_ GE102.out) | exact HB.out)⟩⟩
        · rw [if_neg c12] at H
          have c12b0 : decide (255 < (a0_5.size : Int)) = false := decide_eq_false c12
          have c12b1 : decide (255 < a0_5.size) = false := decide_eq_false (by omega)
          clear c12
          by_cases c15 : (a0_10.size : Int) > 255
          · rw [if_pos c15] at H
            have c15b0 : decide (255 < (a0_10.size : Int)) = true := decide_eq_true c15
            have c15b1 : decide (255 < a0_10.size) = true := decide_eq_true (by omega)
            clear c15
            have H' := Aside0.mk H
            clear H
            have hnb16 := NB101_102.out
            have hnc16 := NB102_101.out
            have hcz17_0 : w8.cell? ⟨gb101, 0, none⟩ = some (.string a0_0) := (blk_cell BK101.out 0).trans rfl
            have hcz17_1 : w8.cell? ⟨gb101, 1, none⟩ = some (.int .i64 a0_1) := (blk_cell BK101.out 1).trans rfl
            have hcz17_2 : w8.cell? ⟨gb101, 2, none⟩ = some (.int .i64 a0_2) := (blk_cell BK101.out 2).trans rfl
            have hcz17_3 : w8.cell? ⟨gb101, 3, none⟩ = some (.int .i64 a0_3) := (blk_cell BK101.out 3).trans rfl
            have hcz17_4 : w8.cell? ⟨gb101, 4, none⟩ = some (.int .i64 a0_4) := (blk_cell BK101.out 4).trans rfl
            have hcz17_5 : w8.cell? ⟨gb101, 5, none⟩ = some (.string a0_5) := (blk_cell BK101.out 5).trans rfl
            have hcz17_6 : w8.cell? ⟨gb101, 6, none⟩ = some (.int .i64 a0_6) := (blk_cell BK101.out 6).trans rfl
            have hcz17_7 : w8.cell? ⟨gb101, 7, none⟩ = some (.int .i64 a0_7) := (blk_cell BK101.out 7).trans rfl
            have hcz17_8 : w8.cell? ⟨gb101, 8, none⟩ = some (.int .i64 a0_8) := (blk_cell BK101.out 8).trans rfl
            have hcz17_9 : w8.cell? ⟨gb101, 9, none⟩ = some (.int .i64 a0_9) := (blk_cell BK101.out 9).trans rfl
            have hcz17_10 : w8.cell? ⟨gb101, 10, none⟩ = some (.string a0_10) := (blk_cell BK101.out 10).trans rfl
            have hfz17_0 := blk_frozen BK101.out 0
            have hfz17_1 := blk_frozen BK101.out 1
            have hfz17_2 := blk_frozen BK101.out 2
            have hfz17_3 := blk_frozen BK101.out 3
            have hfz17_4 := blk_frozen BK101.out 4
            have hfz17_5 := blk_frozen BK101.out 5
            have hfz17_6 := blk_frozen BK101.out 6
            have hfz17_7 := blk_frozen BK101.out 7
            have hfz17_8 := blk_frozen BK101.out 8
            have hfz17_9 := blk_frozen BK101.out 9
            have hfz17_10 := blk_frozen BK101.out 10
            go_wp2
            go_meet
            case rel => exact ⟨_, (true), (by first | rfl | (simp; done) | (simp [*]; done)), H', ⟨by first | omega | exact Nat.le_refl _⟩, ⟨by (with_reducible repeat (first | refine blk_drewN ?_ _ | refine blk_drew ?_ | refine blk_alloc ?_ _)); exact BK101.out⟩, ⟨by (with_reducible repeat (first | refine blk_drewN ?_ _ | refine blk_drew ?_ | refine blk_alloc ?_ _)); exact BK102.out⟩, ⟨by repeat (first | (with_reducible first | exact HB.out | apply below_alloc | apply pw_below_drewN | apply below_drew1 | refine below_set ?_ GE101.out | refine below_set ?_ GE102.out) | exact HB.out)⟩⟩
          · rw [if_neg c15] at H
            have c15b0 : decide (255 < (a0_10.size : Int)) = false := decide_eq_false c15
            have c15b1 : decide (255 < a0_10.size) = false := decide_eq_false (by omega)
            clear c15
            by_cases c18 : (a1_5.size : Int) > 255
            · rw [if_pos c18] at H
              have c18b0 : decide (255 < (a1_5.size : Int)) = true := decide_eq_true c18
              have c18b1 : decide (255 < a1_5.size) = true := decide_eq_true (by omega)
              clear c18
              have H' := Aside0.mk H
              clear H
              have hnb19 := NB101_102.out
              have hnc19 := NB102_101.out
              have hcz20_0 : w8.cell? ⟨gb101, 0, none⟩ = some (.string a0_0) := (blk_cell BK101.out 0).trans rfl
              have hcz20_1 : w8.cell? ⟨gb101, 1, none⟩ = some (.int .i64 a0_1) := (blk_cell BK101.out 1).trans rfl
              have hcz20_2 : w8.cell? ⟨gb101, 2, none⟩ = some (.int .i64 a0_2) := (blk_cell BK101.out 2).trans rfl
              have hcz20_3 : w8.cell? ⟨gb101, 3, none⟩ = some (.int .i64 a0_3) := (blk_cell BK101.out 3).trans rfl
              have hcz20_4 : w8.cell? ⟨gb101, 4, none⟩ = some (.int .i64 a0_4) := (blk_cell BK101.out 4).trans rfl
              have hcz20_5 : w8.cell? ⟨gb101, 5, none⟩ = some (.string a0_5) := (blk_cell BK101.out 5).trans rfl
              have hcz20_6 : w8.cell? ⟨gb101, 6, none⟩ = some (.int .i64 a0_6) := (blk_cell BK101.out 6).trans rfl
              have hcz20_7 : w8.cell? ⟨gb101, 7, none⟩ = some (.int .i64 a0_7) := (blk_cell BK101.out 7).trans rfl
              have hcz20_8 : w8.cell? ⟨gb101, 8, none⟩ = some (.int .i64 a0_8) := (blk_cell BK101.out 8).trans rfl
              have hcz20_9 : w8.cell? ⟨gb101, 9, none⟩ = some (.int .i64 a0_9) := (blk_cell BK101.out 9).trans rfl
              have hcz20_10 : w8.cell? ⟨gb101, 10, none⟩ = some (.string a0_10) := (blk_cell BK101.out 10).trans rfl
              have hfz20_0 := blk_frozen BK101.out 0
              have hfz20_1 := blk_frozen BK101.out 1
              have hfz20_2 := blk_frozen BK101.out 2
              have hfz20_3 := blk_frozen BK101.out 3
              have hfz20_4 := blk_frozen BK101.out 4
              have hfz20_5 := blk_frozen BK101.out 5
              have hfz20_6 := blk_frozen BK101.out 6
              have hfz20_7 := blk_frozen BK101.out 7
              have hfz20_8 := blk_frozen BK101.out 8
              have hfz20_9 := blk_frozen BK101.out 9
              have hfz20_10 := blk_frozen BK101.out 10
              have hcz21_0 : w8.cell? ⟨gb102, 0, none⟩ = some (.int .i64 a1_0) := (blk_cell BK102.out 0).trans rfl
              have hcz21_1 : w8.cell? ⟨gb102, 1, none⟩ = some (.int .i64 a1_1) := (blk_cell BK102.out 1).trans rfl
              have hcz21_2 : w8.cell? ⟨gb102, 2, none⟩ = some (.int .i64 a1_2) := (blk_cell BK102.out 2).trans rfl
              have hcz21_3 : w8.cell? ⟨gb102, 3, none⟩ = some (.int .i64 a1_3) := (blk_cell BK102.out 3).trans rfl
              have hcz21_4 : w8.cell? ⟨gb102, 4, none⟩ = some (.int .i64 a1_4) := (blk_cell BK102.out 4).trans rfl
              have hcz21_5 : w8.cell? ⟨gb102, 5, none⟩ = some (.string a1_5) := (blk_cell BK102.out 5).trans rfl
              have hcz21_6 : w8.cell? ⟨gb102, 6, none⟩ = some (.int .i64 a1_6) := (blk_cell BK102.out 6).trans rfl
              have hcz21_7 : w8.cell? ⟨gb102, 7, none⟩ = some (.string a1_7) := (blk_cell BK102.out 7).trans rfl
              have hcz21_8 : w8.cell? ⟨gb102, 8, none⟩ = some (.int .i64 a1_8) := (blk_cell BK102.out 8).trans rfl
              have hfz21_0 := blk_frozen BK102.out 0
              have hfz21_1 := blk_frozen BK102.out 1
              have hfz21_2 := blk_frozen BK102.out 2
              have hfz21_3 := blk_frozen BK102.out 3
              have hfz21_4 := blk_frozen BK102.out 4
              have hfz21_5 := blk_frozen BK102.out 5
              have hfz21_6 := blk_frozen BK102.out 6
              have hfz21_7 := blk_frozen BK102.out 7
              have hfz21_8 := blk_frozen BK102.out 8
              go_wp2
              go_meet
              case rel => exact ⟨_, (true), (by first | rfl | (simp; done) | (simp [*]; done)), H', ⟨by first | omega | exact Nat.le_refl _⟩, ⟨by (with_reducible repeat (first | refine blk_drewN ?_ _ | refine blk_drew ?_ | refine blk_alloc ?_ _)); exact BK101.out⟩, ⟨by (with_reducible repeat (first | refine blk_drewN ?_ _ | refine blk_drew ?_ | refine blk_alloc ?_ _)); exact BK102.out⟩, ⟨by repeat (first | (with_reducible first | exact HB.out | apply below_alloc | apply pw_below_drewN | apply below_drew1 | refine below_set ?_ GE101.out | refine below_set ?_ GE102.out) | exact HB.out)⟩⟩
            · rw [if_neg c18] at H
              have c18b0 : decide (255 < (a1_5.size : Int)) = false := decide_eq_false c18
              have c18b1 : decide (255 < a1_5.size) = false := decide_eq_false (by omega)
              clear c18
              have H' := Aside0.mk H
              clear H
              have hnb22 := NB101_102.out
              have hnc22 := NB102_101.out
              have hcz23_0 : w8.cell? ⟨gb101, 0, none⟩ = some (.string a0_0) := (blk_cell BK101.out 0).trans rfl
              have hcz23_1 : w8.cell? ⟨gb101, 1, none⟩ = some (.int .i64 a0_1) := (blk_cell BK101.out 1).trans rfl
              have hcz23_2 : w8.cell? ⟨gb101, 2, none⟩ = some (.int .i64 a0_2) := (blk_cell BK101.out 2).trans rfl
              have hcz23_3 : w8.cell? ⟨gb101, 3, none⟩ = some (.int .i64 a0_3) := (blk_cell BK101.out 3).trans rfl
              have hcz23_4 : w8.cell? ⟨gb101, 4, none⟩ = some (.int .i64 a0_4) := (blk_cell BK101.out 4).trans rfl
              have hcz23_5 : w8.cell? ⟨gb101, 5, none⟩ = some (.string a0_5) := (blk_cell BK101.out 5).trans rfl
              have hcz23_6 : w8.cell? ⟨gb101, 6, none⟩ = some (.int .i64 a0_6) := (blk_cell BK101.out 6).trans rfl
              have hcz23_7 : w8.cell? ⟨gb101, 7, none⟩ = some (.int .i64 a0_7) := (blk_cell BK101.out 7).trans rfl
              have hcz23_8 : w8.cell? ⟨gb101, 8, none⟩ = some (.int .i64 a0_8) := (blk_cell BK101.out 8).trans rfl
              have hcz23_9 : w8.cell? ⟨gb101, 9, none⟩ = some (.int .i64 a0_9) := (blk_cell BK101.out 9).trans rfl
              have hcz23_10 : w8.cell? ⟨gb101, 10, none⟩ = some (.string a0_10) := (blk_cell BK101.out 10).trans rfl
              have hfz23_0 := blk_frozen BK101.out 0
              have hfz23_1 := blk_frozen BK101.out 1
              have hfz23_2 := blk_frozen BK101.out 2
              have hfz23_3 := blk_frozen BK101.out 3
              have hfz23_4 := blk_frozen BK101.out 4
              have hfz23_5 := blk_frozen BK101.out 5
              have hfz23_6 := blk_frozen BK101.out 6
              have hfz23_7 := blk_frozen BK101.out 7
              have hfz23_8 := blk_frozen BK101.out 8
              have hfz23_9 := blk_frozen BK101.out 9
              have hfz23_10 := blk_frozen BK101.out 10
              have hcz24_0 : w8.cell? ⟨gb102, 0, none⟩ = some (.int .i64 a1_0) := (blk_cell BK102.out 0).trans rfl
              have hcz24_1 : w8.cell? ⟨gb102, 1, none⟩ = some (.int .i64 a1_1) := (blk_cell BK102.out 1).trans rfl
              have hcz24_2 : w8.cell? ⟨gb102, 2, none⟩ = some (.int .i64 a1_2) := (blk_cell BK102.out 2).trans rfl
              have hcz24_3 : w8.cell? ⟨gb102, 3, none⟩ = some (.int .i64 a1_3) := (blk_cell BK102.out 3).trans rfl
              have hcz24_4 : w8.cell? ⟨gb102, 4, none⟩ = some (.int .i64 a1_4) := (blk_cell BK102.out 4).trans rfl
              have hcz24_5 : w8.cell? ⟨gb102, 5, none⟩ = some (.string a1_5) := (blk_cell BK102.out 5).trans rfl
              have hcz24_6 : w8.cell? ⟨gb102, 6, none⟩ = some (.int .i64 a1_6) := (blk_cell BK102.out 6).trans rfl
              have hcz24_7 : w8.cell? ⟨gb102, 7, none⟩ = some (.string a1_7) := (blk_cell BK102.out 7).trans rfl
              have hcz24_8 : w8.cell? ⟨gb102, 8, none⟩ = some (.int .i64 a1_8) := (blk_cell BK102.out 8).trans rfl
              have hfz24_0 := blk_frozen BK102.out 0
              have hfz24_1 := blk_frozen BK102.out 1
              have hfz24_2 := blk_frozen BK102.out 2
              have hfz24_3 := blk_frozen BK102.out 3
              have hfz24_4 := blk_frozen BK102.out 4
              have hfz24_5 := blk_frozen BK102.out 5
              have hfz24_6 := blk_frozen BK102.out 6
              have hfz24_7 := blk_frozen BK102.out 7
              have hfz24_8 := blk_frozen BK102.out 8
              go_wp2
              go_meet
              case rel => exact ⟨_, (decide ((a1_7.size : Int) > 255)), (by first | rfl | (simp; done) | (simp [*]; done)), H', ⟨by first | omega | exact Nat.le_refl _⟩, ⟨by (with_reducible repeat (first | refine blk_drewN ?_ _ | refine blk_drew ?_ | refine blk_alloc ?_ _)); exact BK101.out⟩, ⟨by (with_reducible repeat (first | refine blk_drewN ?_ _ | refine blk_drew ?_ | refine blk_alloc ?_ _)); exact BK102.out⟩, ⟨by repeat (first | (with_reducible first | exact HB.out | apply below_alloc | apply pw_below_drewN | apply below_drew1 | refine below_set ?_ GE101.out | refine below_set ?_ GE102.out) | exact HB.out)⟩⟩
    case rest =>
      clear HC5
      try clear c1
      try clear c2
      try clear p2
      try clear c4
      try clear c6
      try clear c9
      try clear c9b0
      try clear c9b1
      try clear c10
      try clear c12
      try clear c12b0
      try clear c12b1
      try clear c13
      try clear c15
      try clear c15b0
      try clear c15b1
      try clear c16
      try clear c18
      try clear c18b0
      try clear c18b1
      try clear c19
      try clear c22
      try clear hcz11_0
      try clear hcz11_1
      try clear hcz11_10
      try clear hcz11_2
      try clear hcz11_3
      try clear hcz11_4
      try clear hcz11_5
      try clear hcz11_6
      try clear hcz11_7
      try clear hcz11_8
      try clear hcz11_9
      try clear hcz14_0
      try clear hcz14_1
      try clear hcz14_10
      try clear hcz14_2
      try clear hcz14_3
      try clear hcz14_4
      try clear hcz14_5
      try clear hcz14_6
      try clear hcz14_7
      try clear hcz14_8
      try clear hcz14_9
      try clear hcz17_0
      try clear hcz17_1
      try clear hcz17_10
      try clear hcz17_2
      try clear hcz17_3
      try clear hcz17_4
      try clear hcz17_5
      try clear hcz17_6
      try clear hcz17_7
      try clear hcz17_8
      try clear hcz17_9
      try clear hcz20_0
      try clear hcz20_1
      try clear hcz20_10
      try clear hcz20_2
      try clear hcz20_3
      try clear hcz20_4
      try clear hcz20_5
      try clear hcz20_6
      try clear hcz20_7
      try clear hcz20_8
      try clear hcz20_9
      try clear hcz21_0
      try clear hcz21_1
      try clear hcz21_2
      try clear hcz21_3
      try clear hcz21_4
      try clear hcz21_5
      try clear hcz21_6
      try clear hcz21_7
      try clear hcz21_8
      try clear hcz23_0
      try clear hcz23_1
      try clear hcz23_10
      try clear hcz23_2
      try clear hcz23_3
      try clear hcz23_4
      try clear hcz23_5
      try clear hcz23_6
      try clear hcz23_7
      try clear hcz23_8
      try clear hcz23_9
      try clear hcz24_0
      try clear hcz24_1
      try clear hcz24_2
      try clear hcz24_3
      try clear hcz24_4
      try clear hcz24_5
      try clear hcz24_6
      try clear hcz24_7
      try clear hcz24_8
      try clear hfz11_0
      try clear hfz11_1
      try clear hfz11_10
      try clear hfz11_2
      try clear hfz11_3
      try clear hfz11_4
      try clear hfz11_5
      try clear hfz11_6
      try clear hfz11_7
      try clear hfz11_8
      try clear hfz11_9
      try clear hfz14_0
      try clear hfz14_1
      try clear hfz14_10
      try clear hfz14_2
      try clear hfz14_3
      try clear hfz14_4
      try clear hfz14_5
      try clear hfz14_6
      try clear hfz14_7
      try clear hfz14_8
      try clear hfz14_9
      try clear hfz17_0
      try clear hfz17_1
      try clear hfz17_10
      try clear hfz17_2
      try clear hfz17_3
      try clear hfz17_4
      try clear hfz17_5
      try clear hfz17_6
      try clear hfz17_7
      try clear hfz17_8
      try clear hfz17_9
      try clear hfz20_0
      try clear hfz20_1
      try clear hfz20_10
      try clear hfz20_2
      try clear hfz20_3
      try clear hfz20_4
      try clear hfz20_5
      try clear hfz20_6
      try clear hfz20_7
      try clear hfz20_8
      try clear hfz20_9
      try clear hfz21_0
      try clear hfz21_1
      try clear hfz21_2
      try clear hfz21_3
      try clear hfz21_4
      try clear hfz21_5
      try clear hfz21_6
      try clear hfz21_7
      try clear hfz21_8
      try clear hfz23_0
      try clear hfz23_1
      try clear hfz23_10
      try clear hfz23_2
      try clear hfz23_3
      try clear hfz23_4
      try clear hfz23_5
      try clear hfz23_6
      try clear hfz23_7
      try clear hfz23_8
      try clear hfz23_9
      try clear hfz24_0
      try clear hfz24_1
      try clear hfz24_2
      try clear hfz24_3
      try clear hfz24_4
      try clear hfz24_5
      try clear hfz24_6
      try clear hfz24_7
      try clear hfz24_8
      obtain ⟨kq, x40_4, rfl, HA, HJ4, BK101, BK102, HB⟩ := hcut
      cases kq with
      | zero => exact absurd HA.out (by simp [donjonlaw10_NodeOthers.j0])
      | succ kj4 =>
        have H := HA.out
        clear HA
        simp only [donjonlaw10_NodeOthers.j0] at H
        by_cases c25 : x40_4 = true
        · subst c25
          have H1 : (some true) = some r := by rw [if_pos rfl] at H; exact H
          clear H
          have H := H1
          clear H1
          obtain rfl := Option.some.inj H
          go_wp2
          go_ret
          exact ⟨by first | rfl | (simp [errW_none, errW_some] <;> rfl) | (simp [*, errW_none, errW_some] <;> rfl), by repeat (first | (with_reducible first | exact HB.out | apply below_alloc | apply pw_below_drewN | apply below_drew1 | refine below_set ?_ GE101.out | refine below_set ?_ GE102.out) | exact HB.out)⟩
        · replace c25 := Bool.eq_false_iff.mpr c25
          subst c25
          have H1 : ((donjonlaw4_Good.f a0_1 a0_2 a0_3 a0_4).bind fun bt104 => ((donjonlaw4_Good.f a0_6 a0_7 a0_8 a0_9).bind fun bt108 => ((donjonlaw4_Good.f a1_1 a1_2 a1_3 a1_4).bind fun bt112 => ((donjonlaw10_within.f a1_6 256).bind fun t116 => ((donjonlaw10_within.f a1_8 256).bind fun t117 => ((node_EncodeMessage.f a0_0 bt104.1 bt104.2.1 bt104.2.2.1 bt104.2.2.2 a0_5 bt108.1 bt108.2.1 bt108.2.2.1 bt108.2.2.2 a0_10).bind fun t118 => ((node_EncodeEntry.f a1_0 bt112.1 bt112.2.1 bt112.2.2.1 bt112.2.2.2 a1_5 t116 a1_7 t117).bind fun t121 => ((node_ParseMessage.f t118).bind fun bt124 => ((node_ParseEntry.f t121).bind fun bt137 => ((donjonref10_EncodeMessage.f a0_0 bt104.1 bt104.2.1 bt104.2.2.1 bt104.2.2.2 a0_5 bt108.1 bt108.2.1 bt108.2.2.1 bt108.2.2.2 a0_10).bind fun t148 => (if (strOfNums t118).toList = (strOfNums t148).toList then ((donjonref10_EncodeEntry.f kj4 a1_0 bt112.1 bt112.2.1 bt112.2.2.1 bt112.2.2.2 a1_5 t116 a1_7 t117).bind fun t151 => (if (strOfNums t121).toList = (strOfNums t151).toList then (if bt124.2.2.2.2.2.2.2.2.2.2.2 = 0 then (if bt137.2.2.2.2.2.2.2.2.2 = 0 then (if (bt124.1.toList == a0_0.toList && ((bt124.2.1 == bt104.1 && (bt124.2.2.1 == bt104.2.1 && (bt124.2.2.2.1 == bt104.2.2.1 && (bt124.2.2.2.2.1 == bt104.2.2.2)))) && (bt124.2.2.2.2.2.1.toList == a0_5.toList && ((bt124.2.2.2.2.2.2.1 == bt108.1 && (bt124.2.2.2.2.2.2.2.1 == bt108.2.1 && (bt124.2.2.2.2.2.2.2.2.1 == bt108.2.2.1 && (bt124.2.2.2.2.2.2.2.2.2.1 == bt108.2.2.2)))) && (bt124.2.2.2.2.2.2.2.2.2.2.1.toList == a0_10.toList))))) = true then (some (bt137.1 == a1_0 && ((bt137.2.1 == bt112.1 && (bt137.2.2.1 == bt112.2.1 && (bt137.2.2.2.1 == bt112.2.2.1 && (bt137.2.2.2.2.1 == bt112.2.2.2)))) && (bt137.2.2.2.2.2.1.toList == a1_5.toList && (bt137.2.2.2.2.2.2.1 == t116 && (bt137.2.2.2.2.2.2.2.1.toList == a1_7.toList && (bt137.2.2.2.2.2.2.2.2.1 == t117))))))) else (some false)) else (some false)) else (some false)) else (some false))) else (some false)))))))))))) = some r := by rw [if_neg (show ¬ (false = true) by decide)] at H; exact H
          clear H
          have H := H1
          clear H1
          replace H := Option.bind_eq_some_iff.mp H
          obtain ⟨⟨t104, t105, t106, t107⟩, A260, H⟩ := H
          replace H : ((donjonlaw4_Good.f a0_6 a0_7 a0_8 a0_9).bind fun bt108 => ((donjonlaw4_Good.f a1_1 a1_2 a1_3 a1_4).bind fun bt112 => ((donjonlaw10_within.f a1_6 256).bind fun t116 => ((donjonlaw10_within.f a1_8 256).bind fun t117 => ((node_EncodeMessage.f a0_0 t104 t105 t106 t107 a0_5 bt108.1 bt108.2.1 bt108.2.2.1 bt108.2.2.2 a0_10).bind fun t118 => ((node_EncodeEntry.f a1_0 bt112.1 bt112.2.1 bt112.2.2.1 bt112.2.2.2 a1_5 t116 a1_7 t117).bind fun t121 => ((node_ParseMessage.f t118).bind fun bt124 => ((node_ParseEntry.f t121).bind fun bt137 => ((donjonref10_EncodeMessage.f a0_0 t104 t105 t106 t107 a0_5 bt108.1 bt108.2.1 bt108.2.2.1 bt108.2.2.2 a0_10).bind fun t148 => (if (strOfNums t118).toList = (strOfNums t148).toList then ((donjonref10_EncodeEntry.f kj4 a1_0 bt112.1 bt112.2.1 bt112.2.2.1 bt112.2.2.2 a1_5 t116 a1_7 t117).bind fun t151 => (if (strOfNums t121).toList = (strOfNums t151).toList then (if bt124.2.2.2.2.2.2.2.2.2.2.2 = 0 then (if bt137.2.2.2.2.2.2.2.2.2 = 0 then (if (bt124.1.toList == a0_0.toList && ((bt124.2.1 == t104 && (bt124.2.2.1 == t105 && (bt124.2.2.2.1 == t106 && (bt124.2.2.2.2.1 == t107)))) && (bt124.2.2.2.2.2.1.toList == a0_5.toList && ((bt124.2.2.2.2.2.2.1 == bt108.1 && (bt124.2.2.2.2.2.2.2.1 == bt108.2.1 && (bt124.2.2.2.2.2.2.2.2.1 == bt108.2.2.1 && (bt124.2.2.2.2.2.2.2.2.2.1 == bt108.2.2.2)))) && (bt124.2.2.2.2.2.2.2.2.2.2.1.toList == a0_10.toList))))) = true then (some (bt137.1 == a1_0 && ((bt137.2.1 == bt112.1 && (bt137.2.2.1 == bt112.2.1 && (bt137.2.2.2.1 == bt112.2.2.1 && (bt137.2.2.2.2.1 == bt112.2.2.2)))) && (bt137.2.2.2.2.2.1.toList == a1_5.toList && (bt137.2.2.2.2.2.2.1 == t116 && (bt137.2.2.2.2.2.2.2.1.toList == a1_7.toList && (bt137.2.2.2.2.2.2.2.2.1 == t117))))))) else (some false)) else (some false)) else (some false)) else (some false))) else (some false))))))))))) = some r := H
          have A26 := Aside0.mk A260
          clear A260
          replace H := Option.bind_eq_some_iff.mp H
          obtain ⟨⟨t108, t109, t110, t111⟩, A270, H⟩ := H
          replace H : ((donjonlaw4_Good.f a1_1 a1_2 a1_3 a1_4).bind fun bt112 => ((donjonlaw10_within.f a1_6 256).bind fun t116 => ((donjonlaw10_within.f a1_8 256).bind fun t117 => ((node_EncodeMessage.f a0_0 t104 t105 t106 t107 a0_5 t108 t109 t110 t111 a0_10).bind fun t118 => ((node_EncodeEntry.f a1_0 bt112.1 bt112.2.1 bt112.2.2.1 bt112.2.2.2 a1_5 t116 a1_7 t117).bind fun t121 => ((node_ParseMessage.f t118).bind fun bt124 => ((node_ParseEntry.f t121).bind fun bt137 => ((donjonref10_EncodeMessage.f a0_0 t104 t105 t106 t107 a0_5 t108 t109 t110 t111 a0_10).bind fun t148 => (if (strOfNums t118).toList = (strOfNums t148).toList then ((donjonref10_EncodeEntry.f kj4 a1_0 bt112.1 bt112.2.1 bt112.2.2.1 bt112.2.2.2 a1_5 t116 a1_7 t117).bind fun t151 => (if (strOfNums t121).toList = (strOfNums t151).toList then (if bt124.2.2.2.2.2.2.2.2.2.2.2 = 0 then (if bt137.2.2.2.2.2.2.2.2.2 = 0 then (if (bt124.1.toList == a0_0.toList && ((bt124.2.1 == t104 && (bt124.2.2.1 == t105 && (bt124.2.2.2.1 == t106 && (bt124.2.2.2.2.1 == t107)))) && (bt124.2.2.2.2.2.1.toList == a0_5.toList && ((bt124.2.2.2.2.2.2.1 == t108 && (bt124.2.2.2.2.2.2.2.1 == t109 && (bt124.2.2.2.2.2.2.2.2.1 == t110 && (bt124.2.2.2.2.2.2.2.2.2.1 == t111)))) && (bt124.2.2.2.2.2.2.2.2.2.2.1.toList == a0_10.toList))))) = true then (some (bt137.1 == a1_0 && ((bt137.2.1 == bt112.1 && (bt137.2.2.1 == bt112.2.1 && (bt137.2.2.2.1 == bt112.2.2.1 && (bt137.2.2.2.2.1 == bt112.2.2.2)))) && (bt137.2.2.2.2.2.1.toList == a1_5.toList && (bt137.2.2.2.2.2.2.1 == t116 && (bt137.2.2.2.2.2.2.2.1.toList == a1_7.toList && (bt137.2.2.2.2.2.2.2.2.1 == t117))))))) else (some false)) else (some false)) else (some false)) else (some false))) else (some false)))))))))) = some r := H
          have A27 := Aside0.mk A270
          clear A270
          replace H := Option.bind_eq_some_iff.mp H
          obtain ⟨⟨t112, t113, t114, t115⟩, A280, H⟩ := H
          replace H : ((donjonlaw10_within.f a1_6 256).bind fun t116 => ((donjonlaw10_within.f a1_8 256).bind fun t117 => ((node_EncodeMessage.f a0_0 t104 t105 t106 t107 a0_5 t108 t109 t110 t111 a0_10).bind fun t118 => ((node_EncodeEntry.f a1_0 t112 t113 t114 t115 a1_5 t116 a1_7 t117).bind fun t121 => ((node_ParseMessage.f t118).bind fun bt124 => ((node_ParseEntry.f t121).bind fun bt137 => ((donjonref10_EncodeMessage.f a0_0 t104 t105 t106 t107 a0_5 t108 t109 t110 t111 a0_10).bind fun t148 => (if (strOfNums t118).toList = (strOfNums t148).toList then ((donjonref10_EncodeEntry.f kj4 a1_0 t112 t113 t114 t115 a1_5 t116 a1_7 t117).bind fun t151 => (if (strOfNums t121).toList = (strOfNums t151).toList then (if bt124.2.2.2.2.2.2.2.2.2.2.2 = 0 then (if bt137.2.2.2.2.2.2.2.2.2 = 0 then (if (bt124.1.toList == a0_0.toList && ((bt124.2.1 == t104 && (bt124.2.2.1 == t105 && (bt124.2.2.2.1 == t106 && (bt124.2.2.2.2.1 == t107)))) && (bt124.2.2.2.2.2.1.toList == a0_5.toList && ((bt124.2.2.2.2.2.2.1 == t108 && (bt124.2.2.2.2.2.2.2.1 == t109 && (bt124.2.2.2.2.2.2.2.2.1 == t110 && (bt124.2.2.2.2.2.2.2.2.2.1 == t111)))) && (bt124.2.2.2.2.2.2.2.2.2.2.1.toList == a0_10.toList))))) = true then (some (bt137.1 == a1_0 && ((bt137.2.1 == t112 && (bt137.2.2.1 == t113 && (bt137.2.2.2.1 == t114 && (bt137.2.2.2.2.1 == t115)))) && (bt137.2.2.2.2.2.1.toList == a1_5.toList && (bt137.2.2.2.2.2.2.1 == t116 && (bt137.2.2.2.2.2.2.2.1.toList == a1_7.toList && (bt137.2.2.2.2.2.2.2.2.1 == t117))))))) else (some false)) else (some false)) else (some false)) else (some false))) else (some false))))))))) = some r := H
          have A28 := Aside0.mk A280
          clear A280
          replace H := Option.bind_eq_some_iff.mp H
          obtain ⟨t116, A290, H⟩ := H
          replace H : ((donjonlaw10_within.f a1_8 256).bind fun t117 => ((node_EncodeMessage.f a0_0 t104 t105 t106 t107 a0_5 t108 t109 t110 t111 a0_10).bind fun t118 => ((node_EncodeEntry.f a1_0 t112 t113 t114 t115 a1_5 t116 a1_7 t117).bind fun t121 => ((node_ParseMessage.f t118).bind fun bt124 => ((node_ParseEntry.f t121).bind fun bt137 => ((donjonref10_EncodeMessage.f a0_0 t104 t105 t106 t107 a0_5 t108 t109 t110 t111 a0_10).bind fun t148 => (if (strOfNums t118).toList = (strOfNums t148).toList then ((donjonref10_EncodeEntry.f kj4 a1_0 t112 t113 t114 t115 a1_5 t116 a1_7 t117).bind fun t151 => (if (strOfNums t121).toList = (strOfNums t151).toList then (if bt124.2.2.2.2.2.2.2.2.2.2.2 = 0 then (if bt137.2.2.2.2.2.2.2.2.2 = 0 then (if (bt124.1.toList == a0_0.toList && ((bt124.2.1 == t104 && (bt124.2.2.1 == t105 && (bt124.2.2.2.1 == t106 && (bt124.2.2.2.2.1 == t107)))) && (bt124.2.2.2.2.2.1.toList == a0_5.toList && ((bt124.2.2.2.2.2.2.1 == t108 && (bt124.2.2.2.2.2.2.2.1 == t109 && (bt124.2.2.2.2.2.2.2.2.1 == t110 && (bt124.2.2.2.2.2.2.2.2.2.1 == t111)))) && (bt124.2.2.2.2.2.2.2.2.2.2.1.toList == a0_10.toList))))) = true then (some (bt137.1 == a1_0 && ((bt137.2.1 == t112 && (bt137.2.2.1 == t113 && (bt137.2.2.2.1 == t114 && (bt137.2.2.2.2.1 == t115)))) && (bt137.2.2.2.2.2.1.toList == a1_5.toList && (bt137.2.2.2.2.2.2.1 == t116 && (bt137.2.2.2.2.2.2.2.1.toList == a1_7.toList && (bt137.2.2.2.2.2.2.2.2.1 == t117))))))) else (some false)) else (some false)) else (some false)) else (some false))) else (some false)))))))) = some r := H
          have A29 := Aside0.mk A290
          clear A290
          replace H := Option.bind_eq_some_iff.mp H
          obtain ⟨t117, A300, H⟩ := H
          replace H : ((node_EncodeMessage.f a0_0 t104 t105 t106 t107 a0_5 t108 t109 t110 t111 a0_10).bind fun t118 => ((node_EncodeEntry.f a1_0 t112 t113 t114 t115 a1_5 t116 a1_7 t117).bind fun t121 => ((node_ParseMessage.f t118).bind fun bt124 => ((node_ParseEntry.f t121).bind fun bt137 => ((donjonref10_EncodeMessage.f a0_0 t104 t105 t106 t107 a0_5 t108 t109 t110 t111 a0_10).bind fun t148 => (if (strOfNums t118).toList = (strOfNums t148).toList then ((donjonref10_EncodeEntry.f kj4 a1_0 t112 t113 t114 t115 a1_5 t116 a1_7 t117).bind fun t151 => (if (strOfNums t121).toList = (strOfNums t151).toList then (if bt124.2.2.2.2.2.2.2.2.2.2.2 = 0 then (if bt137.2.2.2.2.2.2.2.2.2 = 0 then (if (bt124.1.toList == a0_0.toList && ((bt124.2.1 == t104 && (bt124.2.2.1 == t105 && (bt124.2.2.2.1 == t106 && (bt124.2.2.2.2.1 == t107)))) && (bt124.2.2.2.2.2.1.toList == a0_5.toList && ((bt124.2.2.2.2.2.2.1 == t108 && (bt124.2.2.2.2.2.2.2.1 == t109 && (bt124.2.2.2.2.2.2.2.2.1 == t110 && (bt124.2.2.2.2.2.2.2.2.2.1 == t111)))) && (bt124.2.2.2.2.2.2.2.2.2.2.1.toList == a0_10.toList))))) = true then (some (bt137.1 == a1_0 && ((bt137.2.1 == t112 && (bt137.2.2.1 == t113 && (bt137.2.2.2.1 == t114 && (bt137.2.2.2.2.1 == t115)))) && (bt137.2.2.2.2.2.1.toList == a1_5.toList && (bt137.2.2.2.2.2.2.1 == t116 && (bt137.2.2.2.2.2.2.2.1.toList == a1_7.toList && (bt137.2.2.2.2.2.2.2.2.1 == t117))))))) else (some false)) else (some false)) else (some false)) else (some false))) else (some false))))))) = some r := H
          have A30 := Aside0.mk A300
          clear A300
          replace H := Option.bind_eq_some_iff.mp H
          obtain ⟨t118, A310, H⟩ := H
          replace H : ((node_EncodeEntry.f a1_0 t112 t113 t114 t115 a1_5 t116 a1_7 t117).bind fun t121 => ((node_ParseMessage.f t118).bind fun bt124 => ((node_ParseEntry.f t121).bind fun bt137 => ((donjonref10_EncodeMessage.f a0_0 t104 t105 t106 t107 a0_5 t108 t109 t110 t111 a0_10).bind fun t148 => (if (strOfNums t118).toList = (strOfNums t148).toList then ((donjonref10_EncodeEntry.f kj4 a1_0 t112 t113 t114 t115 a1_5 t116 a1_7 t117).bind fun t151 => (if (strOfNums t121).toList = (strOfNums t151).toList then (if bt124.2.2.2.2.2.2.2.2.2.2.2 = 0 then (if bt137.2.2.2.2.2.2.2.2.2 = 0 then (if (bt124.1.toList == a0_0.toList && ((bt124.2.1 == t104 && (bt124.2.2.1 == t105 && (bt124.2.2.2.1 == t106 && (bt124.2.2.2.2.1 == t107)))) && (bt124.2.2.2.2.2.1.toList == a0_5.toList && ((bt124.2.2.2.2.2.2.1 == t108 && (bt124.2.2.2.2.2.2.2.1 == t109 && (bt124.2.2.2.2.2.2.2.2.1 == t110 && (bt124.2.2.2.2.2.2.2.2.2.1 == t111)))) && (bt124.2.2.2.2.2.2.2.2.2.2.1.toList == a0_10.toList))))) = true then (some (bt137.1 == a1_0 && ((bt137.2.1 == t112 && (bt137.2.2.1 == t113 && (bt137.2.2.2.1 == t114 && (bt137.2.2.2.2.1 == t115)))) && (bt137.2.2.2.2.2.1.toList == a1_5.toList && (bt137.2.2.2.2.2.2.1 == t116 && (bt137.2.2.2.2.2.2.2.1.toList == a1_7.toList && (bt137.2.2.2.2.2.2.2.2.1 == t117))))))) else (some false)) else (some false)) else (some false)) else (some false))) else (some false)))))) = some r := H
          have A31 := Aside0.mk A310
          clear A310
          replace H := Option.bind_eq_some_iff.mp H
          obtain ⟨t121, A320, H⟩ := H
          replace H : ((node_ParseMessage.f t118).bind fun bt124 => ((node_ParseEntry.f t121).bind fun bt137 => ((donjonref10_EncodeMessage.f a0_0 t104 t105 t106 t107 a0_5 t108 t109 t110 t111 a0_10).bind fun t148 => (if (strOfNums t118).toList = (strOfNums t148).toList then ((donjonref10_EncodeEntry.f kj4 a1_0 t112 t113 t114 t115 a1_5 t116 a1_7 t117).bind fun t151 => (if (strOfNums t121).toList = (strOfNums t151).toList then (if bt124.2.2.2.2.2.2.2.2.2.2.2 = 0 then (if bt137.2.2.2.2.2.2.2.2.2 = 0 then (if (bt124.1.toList == a0_0.toList && ((bt124.2.1 == t104 && (bt124.2.2.1 == t105 && (bt124.2.2.2.1 == t106 && (bt124.2.2.2.2.1 == t107)))) && (bt124.2.2.2.2.2.1.toList == a0_5.toList && ((bt124.2.2.2.2.2.2.1 == t108 && (bt124.2.2.2.2.2.2.2.1 == t109 && (bt124.2.2.2.2.2.2.2.2.1 == t110 && (bt124.2.2.2.2.2.2.2.2.2.1 == t111)))) && (bt124.2.2.2.2.2.2.2.2.2.2.1.toList == a0_10.toList))))) = true then (some (bt137.1 == a1_0 && ((bt137.2.1 == t112 && (bt137.2.2.1 == t113 && (bt137.2.2.2.1 == t114 && (bt137.2.2.2.2.1 == t115)))) && (bt137.2.2.2.2.2.1.toList == a1_5.toList && (bt137.2.2.2.2.2.2.1 == t116 && (bt137.2.2.2.2.2.2.2.1.toList == a1_7.toList && (bt137.2.2.2.2.2.2.2.2.1 == t117))))))) else (some false)) else (some false)) else (some false)) else (some false))) else (some false))))) = some r := H
          have A32 := Aside0.mk A320
          clear A320
          replace H := Option.bind_eq_some_iff.mp H
          obtain ⟨⟨t124, t125, t126, t127, t128, t129, t130, t131, t132, t133, t134, t135⟩, A330, H⟩ := H
          replace H : ((node_ParseEntry.f t121).bind fun bt137 => ((donjonref10_EncodeMessage.f a0_0 t104 t105 t106 t107 a0_5 t108 t109 t110 t111 a0_10).bind fun t148 => (if (strOfNums t118).toList = (strOfNums t148).toList then ((donjonref10_EncodeEntry.f kj4 a1_0 t112 t113 t114 t115 a1_5 t116 a1_7 t117).bind fun t151 => (if (strOfNums t121).toList = (strOfNums t151).toList then (if t135 = 0 then (if bt137.2.2.2.2.2.2.2.2.2 = 0 then (if (t124.toList == a0_0.toList && ((t125 == t104 && (t126 == t105 && (t127 == t106 && (t128 == t107)))) && (t129.toList == a0_5.toList && ((t130 == t108 && (t131 == t109 && (t132 == t110 && (t133 == t111)))) && (t134.toList == a0_10.toList))))) = true then (some (bt137.1 == a1_0 && ((bt137.2.1 == t112 && (bt137.2.2.1 == t113 && (bt137.2.2.2.1 == t114 && (bt137.2.2.2.2.1 == t115)))) && (bt137.2.2.2.2.2.1.toList == a1_5.toList && (bt137.2.2.2.2.2.2.1 == t116 && (bt137.2.2.2.2.2.2.2.1.toList == a1_7.toList && (bt137.2.2.2.2.2.2.2.2.1 == t117))))))) else (some false)) else (some false)) else (some false)) else (some false))) else (some false)))) = some r := H
          have A33 := Aside0.mk A330
          clear A330
          replace H := Option.bind_eq_some_iff.mp H
          obtain ⟨⟨t137, t138, t139, t140, t141, t142, t143, t144, t145, t146⟩, A340, H⟩ := H
          replace H : ((donjonref10_EncodeMessage.f a0_0 t104 t105 t106 t107 a0_5 t108 t109 t110 t111 a0_10).bind fun t148 => (if (strOfNums t118).toList = (strOfNums t148).toList then ((donjonref10_EncodeEntry.f kj4 a1_0 t112 t113 t114 t115 a1_5 t116 a1_7 t117).bind fun t151 => (if (strOfNums t121).toList = (strOfNums t151).toList then (if t135 = 0 then (if t146 = 0 then (if (t124.toList == a0_0.toList && ((t125 == t104 && (t126 == t105 && (t127 == t106 && (t128 == t107)))) && (t129.toList == a0_5.toList && ((t130 == t108 && (t131 == t109 && (t132 == t110 && (t133 == t111)))) && (t134.toList == a0_10.toList))))) = true then (some (t137 == a1_0 && ((t138 == t112 && (t139 == t113 && (t140 == t114 && (t141 == t115)))) && (t142.toList == a1_5.toList && (t143 == t116 && (t144.toList == a1_7.toList && (t145 == t117))))))) else (some false)) else (some false)) else (some false)) else (some false))) else (some false))) = some r := H
          have A34 := Aside0.mk A340
          clear A340
          replace H := Option.bind_eq_some_iff.mp H
          obtain ⟨t148, A350, H⟩ := H
          replace H : (if (strOfNums t118).toList = (strOfNums t148).toList then ((donjonref10_EncodeEntry.f kj4 a1_0 t112 t113 t114 t115 a1_5 t116 a1_7 t117).bind fun t151 => (if (strOfNums t121).toList = (strOfNums t151).toList then (if t135 = 0 then (if t146 = 0 then (if (t124.toList == a0_0.toList && ((t125 == t104 && (t126 == t105 && (t127 == t106 && (t128 == t107)))) && (t129.toList == a0_5.toList && ((t130 == t108 && (t131 == t109 && (t132 == t110 && (t133 == t111)))) && (t134.toList == a0_10.toList))))) = true then (some (t137 == a1_0 && ((t138 == t112 && (t139 == t113 && (t140 == t114 && (t141 == t115)))) && (t142.toList == a1_5.toList && (t143 == t116 && (t144.toList == a1_7.toList && (t145 == t117))))))) else (some false)) else (some false)) else (some false)) else (some false))) else (some false)) = some r := H
          have A35 := Aside0.mk A350
          clear A350
          by_cases c36 : (strOfNums t118).toList = (strOfNums t148).toList
          · rw [if_pos c36] at H
            have c36b0 : ((strOfNums t118).toList == (strOfNums t148).toList) = true := beq_iff_eq.mpr c36
            have c36b1 : ((strOfNums t118).toList != (strOfNums t148).toList) = false := bne_eq_false_iff_eq.mpr c36
            clear c36
            replace H := Option.bind_eq_some_iff.mp H
            obtain ⟨t151, A370, H⟩ := H
            replace H : (if (strOfNums t121).toList = (strOfNums t151).toList then (if t135 = 0 then (if t146 = 0 then (if (t124.toList == a0_0.toList && ((t125 == t104 && (t126 == t105 && (t127 == t106 && (t128 == t107)))) && (t129.toList == a0_5.toList && ((t130 == t108 && (t131 == t109 && (t132 == t110 && (t133 == t111)))) && (t134.toList == a0_10.toList))))) = true then (some (t137 == a1_0 && ((t138 == t112 && (t139 == t113 && (t140 == t114 && (t141 == t115)))) && (t142.toList == a1_5.toList && (t143 == t116 && (t144.toList == a1_7.toList && (t145 == t117))))))) else (some false)) else (some false)) else (some false)) else (some false)) = some r := H
            have A37 := Aside0.mk A370
            clear A370
            by_cases c38 : (strOfNums t121).toList = (strOfNums t151).toList
            · rw [if_pos c38] at H
              have c38b0 : ((strOfNums t121).toList == (strOfNums t151).toList) = true := beq_iff_eq.mpr c38
              have c38b1 : ((strOfNums t121).toList != (strOfNums t151).toList) = false := bne_eq_false_iff_eq.mpr c38
              clear c38
              by_cases c39 : t135 = 0
              · rw [if_pos c39] at H
                have c39b0 : (t135 == 0) = true := beq_iff_eq.mpr c39
                have c39b1 : (t135 != 0) = false := bne_eq_false_iff_eq.mpr c39
                clear c39
                by_cases c40 : t146 = 0
                · rw [if_pos c40] at H
                  have c40b0 : (t146 == 0) = true := beq_iff_eq.mpr c40
                  have c40b1 : (t146 != 0) = false := bne_eq_false_iff_eq.mpr c40
                  clear c40
                  by_cases c41 : (t124.toList == a0_0.toList && ((t125 == t104 && (t126 == t105 && (t127 == t106 && (t128 == t107)))) && (t129.toList == a0_5.toList && ((t130 == t108 && (t131 == t109 && (t132 == t110 && (t133 == t111)))) && (t134.toList == a0_10.toList))))) = true
                  · rw [if_pos c41] at H
                    have c41b0 : (t124.toList == a0_0.toList && ((t125 == t104 && (t126 == t105 && (t127 == t106 && (t128 == t107)))) && (t129.toList == a0_5.toList && ((t130 == t108 && (t131 == t109 && (t132 == t110 && (t133 == t111)))) && (t134.toList == a0_10.toList))))) = true := c41
                    (try (have c41b1 : decide (t124.toList = a0_0.toList && ((t125 == t104 && (t126 == t105 && (t127 == t106 && (t128 == t107)))) && (t129.toList == a0_5.toList && ((t130 == t108 && (t131 == t109 && (t132 == t110 && (t133 == t111)))) && (t134.toList == a0_10.toList))))) = true := by simpa using c41))
                    (try (have c41b2 : (t124.toList == a0_0.toList && ((t125 == t104 && (t126 == t105 && (t127 == t106 && (t128 == t107)))) && (t129.toList == a0_5.toList && ((t130 == t108 && (t131 == t109 && (t132 == t110 && (t133 == t111)))) && (t134.toList == a0_10.toList))))) = true := by simpa using c41))
                    clear c41
                    obtain rfl := Option.some.inj H
                    try go_wp2
                    have n0_ := Aside0.mk (blk_drew BK101.out)
                    have n1_ := Aside0.mk (blk_drew BK102.out)
                    have n2_ := Aside0.mk (below_drew1 HB.out)
                    clear BK101
                    clear BK102
                    clear HB
                    have BK101 := n0_
                    have BK102 := n1_
                    have HB := n2_
                    clear n0_ n1_ n2_
                    refine start_ (n := 15) (S := fun w' => w'.cell? ⟨gb101, 0, none⟩ = some (.string a0_0) ∧ w'.cell? ⟨gb101, 1, none⟩ = some (.int .i64 a0_1) ∧ w'.cell? ⟨gb101, 2, none⟩ = some (.int .i64 a0_2) ∧ w'.cell? ⟨gb101, 3, none⟩ = some (.int .i64 a0_3) ∧ w'.cell? ⟨gb101, 4, none⟩ = some (.int .i64 a0_4) ∧ w'.cell? ⟨gb101, 5, none⟩ = some (.string a0_5) ∧ w'.cell? ⟨gb101, 6, none⟩ = some (.int .i64 a0_6) ∧ w'.cell? ⟨gb101, 7, none⟩ = some (.int .i64 a0_7) ∧ w'.cell? ⟨gb101, 8, none⟩ = some (.int .i64 a0_8) ∧ w'.cell? ⟨gb101, 9, none⟩ = some (.int .i64 a0_9) ∧ w'.cell? ⟨gb101, 10, none⟩ = some (.string a0_10) ∧ w'.cell? ⟨gb102, 0, none⟩ = some (.int .i64 a1_0) ∧ w'.cell? ⟨gb102, 1, none⟩ = some (.int .i64 a1_1) ∧ w'.cell? ⟨gb102, 2, none⟩ = some (.int .i64 a1_2) ∧ w'.cell? ⟨gb102, 3, none⟩ = some (.int .i64 a1_3) ∧ w'.cell? ⟨gb102, 4, none⟩ = some (.int .i64 a1_4) ∧ w'.cell? ⟨gb102, 5, none⟩ = some (.string a1_5) ∧ w'.cell? ⟨gb102, 6, none⟩ = some (.int .i64 a1_6) ∧ w'.cell? ⟨gb102, 7, none⟩ = some (.string a1_7) ∧ w'.cell? ⟨gb102, 8, none⟩ = some (.int .i64 a1_8)) (ds := [10, 12, 14]) #[false, false, false, false, false, false, false, false, false, false, false, false, false, false, false] (by kernel_rfl) rfl rfl ⟨(blk_cell BK101.out 0).trans rfl, (blk_cell BK101.out 1).trans rfl, (blk_cell BK101.out 2).trans rfl, (blk_cell BK101.out 3).trans rfl, (blk_cell BK101.out 4).trans rfl, (blk_cell BK101.out 5).trans rfl, (blk_cell BK101.out 6).trans rfl, (blk_cell BK101.out 7).trans rfl, (blk_cell BK101.out 8).trans rfl, (blk_cell BK101.out 9).trans rfl, (blk_cell BK101.out 10).trans rfl, (blk_cell BK102.out 0).trans rfl, (blk_cell BK102.out 1).trans rfl, (blk_cell BK102.out 2).trans rfl, (blk_cell BK102.out 3).trans rfl, (blk_cell BK102.out 4).trans rfl, (blk_cell BK102.out 5).trans rfl, (blk_cell BK102.out 6).trans rfl, (blk_cell BK102.out 7).trans rfl, (blk_cell BK102.out 8).trans rfl⟩ (fun hHeld => ?_); refine with_tabW donjonlaw10_NodeOthers.tab5 donjonlaw10_NodeOthers.bits5 (fun HT_ HW_ => ?_)
                    generalize wc.drew = w42 at BK101 BK102 HB hHeld ⊢
                    refine pure_ (i := 0) (N := some 41) (v := ?_) (a' := ?_) #[true, false, false, false, false, false, false, false, false, false, false, false, false, false, false] rfl rfl (any_of HT_.out (by kernel_rfl)) (fun _ _ _ h => h) (Or.inl ⟨by rfl, ?_⟩) ?_ ?_
                    rotate_left
                    · intro w'
                      go_simp
                      with_reducible rfl
                    rotate_left
                    · simp only [Act.put, List.setIfInBounds_toArray, List.set_cons_zero, List.set_cons_succ, i64_w, i32_w]
                      rfl
                    refine pure_ (i := 3) (N := some 44) (v := ?_) (a' := ?_) #[true, false, false, true, false, false, false, false, false, false, false, false, false, false, false] rfl rfl (any_of HT_.out (by kernel_rfl)) (fun _ _ _ h => h) (Or.inl ⟨by rfl, ?_⟩) ?_ ?_
                    rotate_left
                    · intro w'
                      go_simp
                      with_reducible rfl
                    rotate_left
                    · simp only [Act.put, List.setIfInBounds_toArray, List.set_cons_zero, List.set_cons_succ, i64_w, i32_w]
                      rfl
                    refine pure_ (i := 6) (N := some 47) (v := ?_) (a' := ?_) #[true, false, false, true, false, false, true, false, false, false, false, false, false, false, false] rfl rfl (any_of HT_.out (by kernel_rfl)) (fun _ _ _ h => h) (Or.inl ⟨by rfl, ?_⟩) ?_ ?_
                    rotate_left
                    · intro w'
                      go_simp
                      with_reducible rfl
                    rotate_left
                    · simp only [Act.put, List.setIfInBounds_toArray, List.set_cons_zero, List.set_cons_succ, i64_w, i32_w]
                      rfl
                    refine take_ (i := 1) (N := some 42) (v := ?_) (a' := ?_) #[true, true, false, true, false, false, true, false, false, false, false, false, false, false, false] rfl rfl (take_ofW HT_.out HW_.out (by kernel_rfl)) (fun _ _ _ h => h) (Or.inl ⟨by rfl, ?_⟩) hHeld ?_ ?_
                    rotate_left
                    · rintro w' ⟨s0, s1, s2, s3, s4, s5, s6, s7, s8, s9, s10, s11, s12, s13, s14, s15, s16, s17, s18, s19⟩
                      go_simp
                      with_reducible rfl
                    rotate_left
                    · simp only [Act.put, List.setIfInBounds_toArray, List.set_cons_zero, List.set_cons_succ, i64_w, i32_w]
                      rfl
                    refine take_ (i := 4) (N := some 45) (v := ?_) (a' := ?_) #[true, true, false, true, true, false, true, false, false, false, false, false, false, false, false] rfl rfl (take_ofW HT_.out HW_.out (by kernel_rfl)) (fun _ _ _ h => h) (Or.inl ⟨by rfl, ?_⟩) hHeld ?_ ?_
                    rotate_left
                    · rintro w' ⟨s0, s1, s2, s3, s4, s5, s6, s7, s8, s9, s10, s11, s12, s13, s14, s15, s16, s17, s18, s19⟩
                      go_simp
                      with_reducible rfl
                    rotate_left
                    · simp only [Act.put, List.setIfInBounds_toArray, List.set_cons_zero, List.set_cons_succ, i64_w, i32_w]
                      rfl
                    refine take_ (i := 7) (N := some 48) (v := ?_) (a' := ?_) #[true, true, false, true, true, false, true, true, false, false, false, false, false, false, false] rfl rfl (take_ofW HT_.out HW_.out (by kernel_rfl)) (fun _ _ _ h => h) (Or.inl ⟨by rfl, ?_⟩) hHeld ?_ ?_
                    rotate_left
                    · rintro w' ⟨s0, s1, s2, s3, s4, s5, s6, s7, s8, s9, s10, s11, s12, s13, s14, s15, s16, s17, s18, s19⟩
                      go_simp
                      with_reducible rfl
                    rotate_left
                    · simp only [Act.put, List.setIfInBounds_toArray, List.set_cons_zero, List.set_cons_succ, i64_w, i32_w]
                      rfl
                    refine one_ (i := 2) (N := some 43) #[true, true, true, true, true, false, true, true, false, false, false, false, false, false, false] rfl rfl (one_of HT_.out (by kernel_rfl)) (by decide) (fun K hK => ?_)
                    refine goes_ Try.func10 (by kernel_rfl) rfl #[.agg #[.int .i64 a0_1, .int .i64 a0_2, .int .i64 a0_3, .int .i64 a0_4]] (by rfl) rfl rfl (by (try simp only [List.map_toArray, List.map_cons, List.map_nil]); first | done | rfl | (simp only [List.length_drop, List.length_take]; rfl)) ?_
                    with_reducible refine (donjonlaw4_Good.calls a0_1 a0_2 a0_3 a0_4 t104 t105 t106 t107 _ A26.out).mono ?_
                    rintro e w43 ⟨rfl, hb⟩
                    refine ⟨_, rfl, ?_⟩
                    have n0_ := Aside0.mk (blk_below (g := gb101) (o := .cells #[.string a0_0, .int .i64 a0_1, .int .i64 a0_2, .int .i64 a0_3, .int .i64 a0_4, .string a0_5, .int .i64 a0_6, .int .i64 a0_7, .int .i64 a0_8, .int .i64 a0_9, .string a0_10] 42 (0, 0)) (by (with_reducible repeat (first | refine blk_drewN ?_ _ | refine blk_drew ?_ | refine blk_alloc ?_ _)); exact BK101.out) hb)
                    have n1_ := Aside0.mk (blk_below (g := gb102) (o := .cells #[.int .i64 a1_0, .int .i64 a1_1, .int .i64 a1_2, .int .i64 a1_3, .int .i64 a1_4, .string a1_5, .int .i64 a1_6, .string a1_7, .int .i64 a1_8] 45 (0, 0)) (by (with_reducible repeat (first | refine blk_drewN ?_ _ | refine blk_drew ?_ | refine blk_alloc ?_ _)); exact BK102.out) hb)
                    have n2_ := Aside0.mk (below_step (by repeat (first | (with_reducible first | exact HB.out | apply below_alloc | apply pw_below_drewN | apply below_drew1 | refine below_set ?_ GE101.out | refine below_set ?_ GE102.out) | exact HB.out)) hb)
                    clear BK101
                    clear BK102
                    clear HB
                    have BK101 := n0_
                    have BK102 := n1_
                    have HB := n2_
                    clear n0_ n1_ n2_
                    (try clear hb)
                    (try clear hb2)
                    (try clear hk)
                    (try clear hi)
                    refine hK.out _ _ ⟨(blk_cell BK101.out 0).trans rfl, (blk_cell BK101.out 1).trans rfl, (blk_cell BK101.out 2).trans rfl, (blk_cell BK101.out 3).trans rfl, (blk_cell BK101.out 4).trans rfl, (blk_cell BK101.out 5).trans rfl, (blk_cell BK101.out 6).trans rfl, (blk_cell BK101.out 7).trans rfl, (blk_cell BK101.out 8).trans rfl, (blk_cell BK101.out 9).trans rfl, (blk_cell BK101.out 10).trans rfl, (blk_cell BK102.out 0).trans rfl, (blk_cell BK102.out 1).trans rfl, (blk_cell BK102.out 2).trans rfl, (blk_cell BK102.out 3).trans rfl, (blk_cell BK102.out 4).trans rfl, (blk_cell BK102.out 5).trans rfl, (blk_cell BK102.out 6).trans rfl, (blk_cell BK102.out 7).trans rfl, (blk_cell BK102.out 8).trans rfl⟩ (fun hHeld => ?_)
                    clear hK K
                    refine norm_ (a' := ?_) ?_ ?_
                    rotate_left
                    · show Act.put _ (some 43) _ = _
                      simp only [Act.put, List.setIfInBounds_toArray, List.set_cons_zero, List.set_cons_succ, i64_w, i32_w]
                      rfl
                    refine pure_ (i := 9) (N := some 50) (v := ?_) (a' := ?_) #[true, true, true, true, true, false, true, true, false, true, false, false, false, false, false] rfl rfl (any_of HT_.out (by kernel_rfl)) (fun _ _ _ h => h) (Or.inl ⟨by rfl, ?_⟩) ?_ ?_
                    rotate_left
                    · intro w'
                      go_simp
                      with_reducible rfl
                    rotate_left
                    · simp only [Act.put, List.setIfInBounds_toArray, List.set_cons_zero, List.set_cons_succ, i64_w, i32_w]
                      rfl
                    refine one_ (i := 5) (N := some 46) #[true, true, true, true, true, true, true, true, false, true, false, false, false, false, false] rfl rfl (one_of HT_.out (by kernel_rfl)) (by decide) (fun K hK => ?_)
                    refine goes_ Try.func10 (by kernel_rfl) rfl #[.agg #[.int .i64 a0_6, .int .i64 a0_7, .int .i64 a0_8, .int .i64 a0_9]] (by rfl) rfl rfl (by (try simp only [List.map_toArray, List.map_cons, List.map_nil]); first | done | rfl | (simp only [List.length_drop, List.length_take]; rfl)) ?_
                    with_reducible refine (donjonlaw4_Good.calls a0_6 a0_7 a0_8 a0_9 t108 t109 t110 t111 _ A27.out).mono ?_
                    rintro e w44 ⟨rfl, hb⟩
                    refine ⟨_, rfl, ?_⟩
                    have n0_ := Aside0.mk (blk_below (g := gb101) (o := .cells #[.string a0_0, .int .i64 a0_1, .int .i64 a0_2, .int .i64 a0_3, .int .i64 a0_4, .string a0_5, .int .i64 a0_6, .int .i64 a0_7, .int .i64 a0_8, .int .i64 a0_9, .string a0_10] 42 (0, 0)) (by (with_reducible repeat (first | refine blk_drewN ?_ _ | refine blk_drew ?_ | refine blk_alloc ?_ _)); exact BK101.out) hb)
                    have n1_ := Aside0.mk (blk_below (g := gb102) (o := .cells #[.int .i64 a1_0, .int .i64 a1_1, .int .i64 a1_2, .int .i64 a1_3, .int .i64 a1_4, .string a1_5, .int .i64 a1_6, .string a1_7, .int .i64 a1_8] 45 (0, 0)) (by (with_reducible repeat (first | refine blk_drewN ?_ _ | refine blk_drew ?_ | refine blk_alloc ?_ _)); exact BK102.out) hb)
                    have n2_ := Aside0.mk (below_step (by repeat (first | (with_reducible first | exact HB.out | apply below_alloc | apply pw_below_drewN | apply below_drew1 | refine below_set ?_ GE101.out | refine below_set ?_ GE102.out) | exact HB.out)) hb)
                    clear BK101
                    clear BK102
                    clear HB
                    have BK101 := n0_
                    have BK102 := n1_
                    have HB := n2_
                    clear n0_ n1_ n2_
                    (try clear hb)
                    (try clear hb2)
                    (try clear hk)
                    (try clear hi)
                    refine hK.out _ _ ⟨(blk_cell BK101.out 0).trans rfl, (blk_cell BK101.out 1).trans rfl, (blk_cell BK101.out 2).trans rfl, (blk_cell BK101.out 3).trans rfl, (blk_cell BK101.out 4).trans rfl, (blk_cell BK101.out 5).trans rfl, (blk_cell BK101.out 6).trans rfl, (blk_cell BK101.out 7).trans rfl, (blk_cell BK101.out 8).trans rfl, (blk_cell BK101.out 9).trans rfl, (blk_cell BK101.out 10).trans rfl, (blk_cell BK102.out 0).trans rfl, (blk_cell BK102.out 1).trans rfl, (blk_cell BK102.out 2).trans rfl, (blk_cell BK102.out 3).trans rfl, (blk_cell BK102.out 4).trans rfl, (blk_cell BK102.out 5).trans rfl, (blk_cell BK102.out 6).trans rfl, (blk_cell BK102.out 7).trans rfl, (blk_cell BK102.out 8).trans rfl⟩ (fun hHeld => ?_)
                    clear hK K
                    refine norm_ (a' := ?_) ?_ ?_
                    rotate_left
                    · show Act.put _ (some 46) _ = _
                      simp only [Act.put, List.setIfInBounds_toArray, List.set_cons_zero, List.set_cons_succ, i64_w, i32_w]
                      rfl
                    refine one_ (i := 8) (N := some 49) #[true, true, true, true, true, true, true, true, true, true, false, false, false, false, false] rfl rfl (one_of HT_.out (by kernel_rfl)) (by decide) (fun K hK => ?_)
                    refine goes_ Try.func10 (by kernel_rfl) rfl #[.agg #[.int .i64 a1_1, .int .i64 a1_2, .int .i64 a1_3, .int .i64 a1_4]] (by rfl) rfl rfl (by (try simp only [List.map_toArray, List.map_cons, List.map_nil]); first | done | rfl | (simp only [List.length_drop, List.length_take]; rfl)) ?_
                    with_reducible refine (donjonlaw4_Good.calls a1_1 a1_2 a1_3 a1_4 t112 t113 t114 t115 _ A28.out).mono ?_
                    rintro e w45 ⟨rfl, hb⟩
                    refine ⟨_, rfl, ?_⟩
                    have n0_ := Aside0.mk (blk_below (g := gb101) (o := .cells #[.string a0_0, .int .i64 a0_1, .int .i64 a0_2, .int .i64 a0_3, .int .i64 a0_4, .string a0_5, .int .i64 a0_6, .int .i64 a0_7, .int .i64 a0_8, .int .i64 a0_9, .string a0_10] 42 (0, 0)) (by (with_reducible repeat (first | refine blk_drewN ?_ _ | refine blk_drew ?_ | refine blk_alloc ?_ _)); exact BK101.out) hb)
                    have n1_ := Aside0.mk (blk_below (g := gb102) (o := .cells #[.int .i64 a1_0, .int .i64 a1_1, .int .i64 a1_2, .int .i64 a1_3, .int .i64 a1_4, .string a1_5, .int .i64 a1_6, .string a1_7, .int .i64 a1_8] 45 (0, 0)) (by (with_reducible repeat (first | refine blk_drewN ?_ _ | refine blk_drew ?_ | refine blk_alloc ?_ _)); exact BK102.out) hb)
                    have n2_ := Aside0.mk (below_step (by repeat (first | (with_reducible first | exact HB.out | apply below_alloc | apply pw_below_drewN | apply below_drew1 | refine below_set ?_ GE101.out | refine below_set ?_ GE102.out) | exact HB.out)) hb)
                    clear BK101
                    clear BK102
                    clear HB
                    have BK101 := n0_
                    have BK102 := n1_
                    have HB := n2_
                    clear n0_ n1_ n2_
                    (try clear hb)
                    (try clear hb2)
                    (try clear hk)
                    (try clear hi)
                    refine hK.out _ _ ⟨(blk_cell BK101.out 0).trans rfl, (blk_cell BK101.out 1).trans rfl, (blk_cell BK101.out 2).trans rfl, (blk_cell BK101.out 3).trans rfl, (blk_cell BK101.out 4).trans rfl, (blk_cell BK101.out 5).trans rfl, (blk_cell BK101.out 6).trans rfl, (blk_cell BK101.out 7).trans rfl, (blk_cell BK101.out 8).trans rfl, (blk_cell BK101.out 9).trans rfl, (blk_cell BK101.out 10).trans rfl, (blk_cell BK102.out 0).trans rfl, (blk_cell BK102.out 1).trans rfl, (blk_cell BK102.out 2).trans rfl, (blk_cell BK102.out 3).trans rfl, (blk_cell BK102.out 4).trans rfl, (blk_cell BK102.out 5).trans rfl, (blk_cell BK102.out 6).trans rfl, (blk_cell BK102.out 7).trans rfl, (blk_cell BK102.out 8).trans rfl⟩ (fun hHeld => ?_)
                    clear hK K
                    refine norm_ (a' := ?_) ?_ ?_
                    rotate_left
                    · show Act.put _ (some 49) _ = _
                      simp only [Act.put, List.setIfInBounds_toArray, List.set_cons_zero, List.set_cons_succ, i64_w, i32_w]
                      rfl
                    refine last_ (i := 10) (N := none) #[true, true, true, true, true, true, true, true, true, true, true, false, false, false, false] rfl rfl (one_of HT_.out (by kernel_rfl)) (by decide) (fun K hK => ?_)
                    have hs46 : w45.cell? ⟨gb101, 1, none⟩ = some (.int .i64 a0_1) := (blk_cell BK101.out 1).trans rfl
                    have hfs46 := blk_frozen BK101.out 1
                    have hns46_1 := NB102_101.out
                    have hms46_1 := NB101_102.out
                    have hs47 : w45.cell? ⟨gb101, 2, none⟩ = some (.int .i64 a0_2) := (blk_cell BK101.out 2).trans rfl
                    have hfs47 := blk_frozen BK101.out 2
                    have hns47_1 := NB102_101.out
                    have hms47_1 := NB101_102.out
                    have hs48 : w45.cell? ⟨gb101, 3, none⟩ = some (.int .i64 a0_3) := (blk_cell BK101.out 3).trans rfl
                    have hfs48 := blk_frozen BK101.out 3
                    have hns48_1 := NB102_101.out
                    have hms48_1 := NB101_102.out
                    have hs49 : w45.cell? ⟨gb101, 4, none⟩ = some (.int .i64 a0_4) := (blk_cell BK101.out 4).trans rfl
                    have hfs49 := blk_frozen BK101.out 4
                    have hns49_1 := NB102_101.out
                    have hms49_1 := NB101_102.out
                    with_reducible refine skip_ (w1 := ?_) ?_ rfl ?_ ?_
                    rotate_left
                    · rfl
                    · go_simp
                      rfl
                    refine hK.out _ _ ?_
                    clear hK K
                    refine pure_ (i := 11) (N := some 51) (v := ?_) (a' := ?_) #[true, true, true, true, true, true, true, true, true, true, true, true, false, false, false] rfl rfl (any_of HT_.out (by kernel_rfl)) (fun _ _ _ h => h) (Or.inl ⟨by rfl, ?_⟩) ?_ ?_
                    rotate_left
                    · intro w'
                      go_simp
                      with_reducible rfl
                    rotate_left
                    · simp only [Act.put, List.setIfInBounds_toArray, List.set_cons_zero, List.set_cons_succ, i64_w, i32_w]
                      rfl
                    refine last_ (i := 12) (N := none) #[true, true, true, true, true, true, true, true, true, true, true, true, true, false, false] rfl rfl (one_of HT_.out (by kernel_rfl)) (by decide) (fun K hK => ?_)
                    have hs50 : w45.cell? ⟨gb101, 6, none⟩ = some (.int .i64 a0_6) := (blk_cell BK101.out 6).trans rfl
                    have hfs50 := blk_frozen BK101.out 6
                    have hns50_1 := NB102_101.out
                    have hms50_1 := NB101_102.out
                    have hs51 : w45.cell? ⟨gb101, 7, none⟩ = some (.int .i64 a0_7) := (blk_cell BK101.out 7).trans rfl
                    have hfs51 := blk_frozen BK101.out 7
                    have hns51_1 := NB102_101.out
                    have hms51_1 := NB101_102.out
                    have hs52 : w45.cell? ⟨gb101, 8, none⟩ = some (.int .i64 a0_8) := (blk_cell BK101.out 8).trans rfl
                    have hfs52 := blk_frozen BK101.out 8
                    have hns52_1 := NB102_101.out
                    have hms52_1 := NB101_102.out
                    have hs53 : w45.cell? ⟨gb101, 9, none⟩ = some (.int .i64 a0_9) := (blk_cell BK101.out 9).trans rfl
                    have hfs53 := blk_frozen BK101.out 9
                    have hns53_1 := NB102_101.out
                    have hms53_1 := NB101_102.out
                    with_reducible refine skip_ (w1 := ?_) ?_ rfl ?_ ?_
                    rotate_left
                    · rfl
                    · go_simp
                      rfl
                    refine hK.out _ _ ?_
                    clear hK K
                    refine pure_ (i := 13) (N := some 52) (v := ?_) (a' := ?_) #[true, true, true, true, true, true, true, true, true, true, true, true, true, true, false] rfl rfl (any_of HT_.out (by kernel_rfl)) (fun _ _ _ h => h) (Or.inl ⟨by rfl, ?_⟩) ?_ ?_
                    rotate_left
                    · intro w'
                      go_simp
                      with_reducible rfl
                    rotate_left
                    · simp only [Act.put, List.setIfInBounds_toArray, List.set_cons_zero, List.set_cons_succ, i64_w, i32_w]
                      rfl
                    refine last_ (i := 14) (N := none) #[true, true, true, true, true, true, true, true, true, true, true, true, true, true, true] rfl rfl (one_of HT_.out (by kernel_rfl)) (by decide) (fun K hK => ?_)
                    have hs54 : w45.cell? ⟨gb102, 1, none⟩ = some (.int .i64 a1_1) := (blk_cell BK102.out 1).trans rfl
                    have hfs54 := blk_frozen BK102.out 1
                    have hns54_0 := NB101_102.out
                    have hms54_0 := NB102_101.out
                    have hs55 : w45.cell? ⟨gb102, 2, none⟩ = some (.int .i64 a1_2) := (blk_cell BK102.out 2).trans rfl
                    have hfs55 := blk_frozen BK102.out 2
                    have hns55_0 := NB101_102.out
                    have hms55_0 := NB102_101.out
                    have hs56 : w45.cell? ⟨gb102, 3, none⟩ = some (.int .i64 a1_3) := (blk_cell BK102.out 3).trans rfl
                    have hfs56 := blk_frozen BK102.out 3
                    have hns56_0 := NB101_102.out
                    have hms56_0 := NB102_101.out
                    have hs57 : w45.cell? ⟨gb102, 4, none⟩ = some (.int .i64 a1_4) := (blk_cell BK102.out 4).trans rfl
                    have hfs57 := blk_frozen BK102.out 4
                    have hns57_0 := NB101_102.out
                    have hms57_0 := NB102_101.out
                    with_reducible refine skip_ (w1 := ?_) ?_ rfl ?_ ?_
                    rotate_left
                    · rfl
                    · go_simp
                      rfl
                    refine hK.out _ _ ?_
                    clear hK K
                    refine done_ (done_of HT_.out (by kernel_rfl)) ?_
                    try go_wp2
                    have n0_ : Aside0 (((((((((((((w45.setCell ⟨gb101, 1, none⟩ (.int .i64 t104)).setCell ⟨gb101, 2, none⟩ (.int .i64 t105)).setCell ⟨gb101, 3, none⟩ (.int .i64 t106)).setCell ⟨gb101, 4, none⟩ (.int .i64 t107)).setCell ⟨gb101, 6, none⟩ (.int .i64 t108)).setCell ⟨gb101, 7, none⟩ (.int .i64 t109)).setCell ⟨gb101, 8, none⟩ (.int .i64 t110)).setCell ⟨gb101, 9, none⟩ (.int .i64 t111)).setCell ⟨gb102, 1, none⟩ (.int .i64 t112)).setCell ⟨gb102, 2, none⟩ (.int .i64 t113)).setCell ⟨gb102, 3, none⟩ (.int .i64 t114)).setCell ⟨gb102, 4, none⟩ (.int .i64 t115)).heap[gb101]? = some (.cells #[.string a0_0, .int .i64 t104, .int .i64 t105, .int .i64 t106, .int .i64 t107, .string a0_5, .int .i64 t108, .int .i64 t109, .int .i64 t110, .int .i64 t111, .string a0_10] 42 (0, 0))) := ⟨by (with_reducible repeat (first | refine blk_drewN ?_ _ | refine blk_drew ?_ | refine blk_alloc ?_ _)); refine blk_far ?_ NB101_102.out _; (with_reducible repeat (first | refine blk_drewN ?_ _ | refine blk_drew ?_ | refine blk_alloc ?_ _)); refine blk_far ?_ NB101_102.out _; (with_reducible repeat (first | refine blk_drewN ?_ _ | refine blk_drew ?_ | refine blk_alloc ?_ _)); refine blk_far ?_ NB101_102.out _; (with_reducible repeat (first | refine blk_drewN ?_ _ | refine blk_drew ?_ | refine blk_alloc ?_ _)); refine blk_far ?_ NB101_102.out _; (with_reducible repeat (first | refine blk_drewN ?_ _ | refine blk_drew ?_ | refine blk_alloc ?_ _)); refine blk_put (cs := #[.string a0_0, .int .i64 t104, .int .i64 t105, .int .i64 t106, .int .i64 t107, .string a0_5, .int .i64 t108, .int .i64 t109, .int .i64 t110, .int .i64 a0_9, .string a0_10]) ?_ 9 _ rfl; (with_reducible repeat (first | refine blk_drewN ?_ _ | refine blk_drew ?_ | refine blk_alloc ?_ _)); refine blk_put (cs := #[.string a0_0, .int .i64 t104, .int .i64 t105, .int .i64 t106, .int .i64 t107, .string a0_5, .int .i64 t108, .int .i64 t109, .int .i64 a0_8, .int .i64 a0_9, .string a0_10]) ?_ 8 _ rfl; (with_reducible repeat (first | refine blk_drewN ?_ _ | refine blk_drew ?_ | refine blk_alloc ?_ _)); refine blk_put (cs := #[.string a0_0, .int .i64 t104, .int .i64 t105, .int .i64 t106, .int .i64 t107, .string a0_5, .int .i64 t108, .int .i64 a0_7, .int .i64 a0_8, .int .i64 a0_9, .string a0_10]) ?_ 7 _ rfl; (with_reducible repeat (first | refine blk_drewN ?_ _ | refine blk_drew ?_ | refine blk_alloc ?_ _)); refine blk_put (cs := #[.string a0_0, .int .i64 t104, .int .i64 t105, .int .i64 t106, .int .i64 t107, .string a0_5, .int .i64 a0_6, .int .i64 a0_7, .int .i64 a0_8, .int .i64 a0_9, .string a0_10]) ?_ 6 _ rfl; (with_reducible repeat (first | refine blk_drewN ?_ _ | refine blk_drew ?_ | refine blk_alloc ?_ _)); refine blk_put (cs := #[.string a0_0, .int .i64 t104, .int .i64 t105, .int .i64 t106, .int .i64 a0_4, .string a0_5, .int .i64 a0_6, .int .i64 a0_7, .int .i64 a0_8, .int .i64 a0_9, .string a0_10]) ?_ 4 _ rfl; (with_reducible repeat (first | refine blk_drewN ?_ _ | refine blk_drew ?_ | refine blk_alloc ?_ _)); refine blk_put (cs := #[.string a0_0, .int .i64 t104, .int .i64 t105, .int .i64 a0_3, .int .i64 a0_4, .string a0_5, .int .i64 a0_6, .int .i64 a0_7, .int .i64 a0_8, .int .i64 a0_9, .string a0_10]) ?_ 3 _ rfl; (with_reducible repeat (first | refine blk_drewN ?_ _ | refine blk_drew ?_ | refine blk_alloc ?_ _)); refine blk_put (cs := #[.string a0_0, .int .i64 t104, .int .i64 a0_2, .int .i64 a0_3, .int .i64 a0_4, .string a0_5, .int .i64 a0_6, .int .i64 a0_7, .int .i64 a0_8, .int .i64 a0_9, .string a0_10]) ?_ 2 _ rfl; (with_reducible repeat (first | refine blk_drewN ?_ _ | refine blk_drew ?_ | refine blk_alloc ?_ _)); refine blk_put (cs := #[.string a0_0, .int .i64 a0_1, .int .i64 a0_2, .int .i64 a0_3, .int .i64 a0_4, .string a0_5, .int .i64 a0_6, .int .i64 a0_7, .int .i64 a0_8, .int .i64 a0_9, .string a0_10]) ?_ 1 _ rfl; (with_reducible repeat (first | refine blk_drewN ?_ _ | refine blk_drew ?_ | refine blk_alloc ?_ _)); exact BK101.out⟩
                    have n1_ : Aside0 (((((((((((((w45.setCell ⟨gb101, 1, none⟩ (.int .i64 t104)).setCell ⟨gb101, 2, none⟩ (.int .i64 t105)).setCell ⟨gb101, 3, none⟩ (.int .i64 t106)).setCell ⟨gb101, 4, none⟩ (.int .i64 t107)).setCell ⟨gb101, 6, none⟩ (.int .i64 t108)).setCell ⟨gb101, 7, none⟩ (.int .i64 t109)).setCell ⟨gb101, 8, none⟩ (.int .i64 t110)).setCell ⟨gb101, 9, none⟩ (.int .i64 t111)).setCell ⟨gb102, 1, none⟩ (.int .i64 t112)).setCell ⟨gb102, 2, none⟩ (.int .i64 t113)).setCell ⟨gb102, 3, none⟩ (.int .i64 t114)).setCell ⟨gb102, 4, none⟩ (.int .i64 t115)).heap[gb102]? = some (.cells #[.int .i64 a1_0, .int .i64 t112, .int .i64 t113, .int .i64 t114, .int .i64 t115, .string a1_5, .int .i64 a1_6, .string a1_7, .int .i64 a1_8] 45 (0, 0))) := ⟨by (with_reducible repeat (first | refine blk_drewN ?_ _ | refine blk_drew ?_ | refine blk_alloc ?_ _)); refine blk_put (cs := #[.int .i64 a1_0, .int .i64 t112, .int .i64 t113, .int .i64 t114, .int .i64 a1_4, .string a1_5, .int .i64 a1_6, .string a1_7, .int .i64 a1_8]) ?_ 4 _ rfl; (with_reducible repeat (first | refine blk_drewN ?_ _ | refine blk_drew ?_ | refine blk_alloc ?_ _)); refine blk_put (cs := #[.int .i64 a1_0, .int .i64 t112, .int .i64 t113, .int .i64 a1_3, .int .i64 a1_4, .string a1_5, .int .i64 a1_6, .string a1_7, .int .i64 a1_8]) ?_ 3 _ rfl; (with_reducible repeat (first | refine blk_drewN ?_ _ | refine blk_drew ?_ | refine blk_alloc ?_ _)); refine blk_put (cs := #[.int .i64 a1_0, .int .i64 t112, .int .i64 a1_2, .int .i64 a1_3, .int .i64 a1_4, .string a1_5, .int .i64 a1_6, .string a1_7, .int .i64 a1_8]) ?_ 2 _ rfl; (with_reducible repeat (first | refine blk_drewN ?_ _ | refine blk_drew ?_ | refine blk_alloc ?_ _)); refine blk_put (cs := #[.int .i64 a1_0, .int .i64 a1_1, .int .i64 a1_2, .int .i64 a1_3, .int .i64 a1_4, .string a1_5, .int .i64 a1_6, .string a1_7, .int .i64 a1_8]) ?_ 1 _ rfl; (with_reducible repeat (first | refine blk_drewN ?_ _ | refine blk_drew ?_ | refine blk_alloc ?_ _)); refine blk_far ?_ NB102_101.out _; (with_reducible repeat (first | refine blk_drewN ?_ _ | refine blk_drew ?_ | refine blk_alloc ?_ _)); refine blk_far ?_ NB102_101.out _; (with_reducible repeat (first | refine blk_drewN ?_ _ | refine blk_drew ?_ | refine blk_alloc ?_ _)); refine blk_far ?_ NB102_101.out _; (with_reducible repeat (first | refine blk_drewN ?_ _ | refine blk_drew ?_ | refine blk_alloc ?_ _)); refine blk_far ?_ NB102_101.out _; (with_reducible repeat (first | refine blk_drewN ?_ _ | refine blk_drew ?_ | refine blk_alloc ?_ _)); refine blk_far ?_ NB102_101.out _; (with_reducible repeat (first | refine blk_drewN ?_ _ | refine blk_drew ?_ | refine blk_alloc ?_ _)); refine blk_far ?_ NB102_101.out _; (with_reducible repeat (first | refine blk_drewN ?_ _ | refine blk_drew ?_ | refine blk_alloc ?_ _)); refine blk_far ?_ NB102_101.out _; (with_reducible repeat (first | refine blk_drewN ?_ _ | refine blk_drew ?_ | refine blk_alloc ?_ _)); refine blk_far ?_ NB102_101.out _; (with_reducible repeat (first | refine blk_drewN ?_ _ | refine blk_drew ?_ | refine blk_alloc ?_ _)); exact BK102.out⟩
                    have n2_ : Aside0 (Below w.heap.size w ((((((((((((w45.setCell ⟨gb101, 1, none⟩ (.int .i64 t104)).setCell ⟨gb101, 2, none⟩ (.int .i64 t105)).setCell ⟨gb101, 3, none⟩ (.int .i64 t106)).setCell ⟨gb101, 4, none⟩ (.int .i64 t107)).setCell ⟨gb101, 6, none⟩ (.int .i64 t108)).setCell ⟨gb101, 7, none⟩ (.int .i64 t109)).setCell ⟨gb101, 8, none⟩ (.int .i64 t110)).setCell ⟨gb101, 9, none⟩ (.int .i64 t111)).setCell ⟨gb102, 1, none⟩ (.int .i64 t112)).setCell ⟨gb102, 2, none⟩ (.int .i64 t113)).setCell ⟨gb102, 3, none⟩ (.int .i64 t114)).setCell ⟨gb102, 4, none⟩ (.int .i64 t115))) := ⟨by repeat (first | (with_reducible first | exact HB.out | apply below_alloc | apply pw_below_drewN | apply below_drew1 | refine below_set ?_ GE101.out | refine below_set ?_ GE102.out) | exact HB.out)⟩
                    (try clear BK101)
                    (try clear BK102)
                    (try clear HB)
                    generalize ((((((((((((w45.setCell ⟨gb101, 1, none⟩ (.int .i64 t104)).setCell ⟨gb101, 2, none⟩ (.int .i64 t105)).setCell ⟨gb101, 3, none⟩ (.int .i64 t106)).setCell ⟨gb101, 4, none⟩ (.int .i64 t107)).setCell ⟨gb101, 6, none⟩ (.int .i64 t108)).setCell ⟨gb101, 7, none⟩ (.int .i64 t109)).setCell ⟨gb101, 8, none⟩ (.int .i64 t110)).setCell ⟨gb101, 9, none⟩ (.int .i64 t111)).setCell ⟨gb102, 1, none⟩ (.int .i64 t112)).setCell ⟨gb102, 2, none⟩ (.int .i64 t113)).setCell ⟨gb102, 3, none⟩ (.int .i64 t114)).setCell ⟨gb102, 4, none⟩ (.int .i64 t115)) = w58 at n0_ n1_ n2_ ⊢
                    have BK101 := n0_
                    have BK102 := n1_
                    have HB := n2_
                    clear n0_ n1_ n2_
                    have n0_ := Aside0.mk (blk_drew BK101.out)
                    have n1_ := Aside0.mk (blk_drew BK102.out)
                    have n2_ := Aside0.mk (below_drew1 HB.out)
                    clear BK101
                    clear BK102
                    clear HB
                    have BK101 := n0_
                    have BK102 := n1_
                    have HB := n2_
                    clear n0_ n1_ n2_
                    refine start_ (n := 10) (S := fun w' => w'.cell? ⟨gb102, 0, none⟩ = some (.int .i64 a1_0) ∧ w'.cell? ⟨gb102, 1, none⟩ = some (.int .i64 t112) ∧ w'.cell? ⟨gb102, 2, none⟩ = some (.int .i64 t113) ∧ w'.cell? ⟨gb102, 3, none⟩ = some (.int .i64 t114) ∧ w'.cell? ⟨gb102, 4, none⟩ = some (.int .i64 t115) ∧ w'.cell? ⟨gb102, 5, none⟩ = some (.string a1_5) ∧ w'.cell? ⟨gb102, 6, none⟩ = some (.int .i64 a1_6) ∧ w'.cell? ⟨gb102, 7, none⟩ = some (.string a1_7) ∧ w'.cell? ⟨gb102, 8, none⟩ = some (.int .i64 a1_8)) (ds := [7, 9]) #[false, false, false, false, false, false, false, false, false, false] (by kernel_rfl) rfl rfl ⟨(blk_cell BK102.out 0).trans rfl, (blk_cell BK102.out 1).trans rfl, (blk_cell BK102.out 2).trans rfl, (blk_cell BK102.out 3).trans rfl, (blk_cell BK102.out 4).trans rfl, (blk_cell BK102.out 5).trans rfl, (blk_cell BK102.out 6).trans rfl, (blk_cell BK102.out 7).trans rfl, (blk_cell BK102.out 8).trans rfl⟩ (fun hHeld => ?_); refine with_tabW donjonlaw10_NodeOthers.tab6 donjonlaw10_NodeOthers.bits6 (fun HT_ HW_ => ?_)
                    generalize w58.drew = w59 at BK101 BK102 HB hHeld ⊢
                    refine pure_ (i := 0) (N := some 53) (v := ?_) (a' := ?_) #[true, false, false, false, false, false, false, false, false, false] rfl rfl (any_of HT_.out (by kernel_rfl)) (fun _ _ _ h => h) (Or.inl ⟨by rfl, ?_⟩) ?_ ?_
                    rotate_left
                    · intro w'
                      go_simp
                      with_reducible rfl
                    rotate_left
                    · simp only [Act.put, List.setIfInBounds_toArray, List.set_cons_zero, List.set_cons_succ, i64_w, i32_w]
                      rfl
                    refine pure_ (i := 3) (N := some 56) (v := ?_) (a' := ?_) #[true, false, false, true, false, false, false, false, false, false] rfl rfl (any_of HT_.out (by kernel_rfl)) (fun _ _ _ h => h) (Or.inl ⟨by rfl, ?_⟩) ?_ ?_
                    rotate_left
                    · intro w'
                      go_simp
                      with_reducible rfl
                    rotate_left
                    · simp only [Act.put, List.setIfInBounds_toArray, List.set_cons_zero, List.set_cons_succ, i64_w, i32_w]
                      rfl
                    refine take_ (i := 1) (N := some 54) (v := ?_) (a' := ?_) #[true, true, false, true, false, false, false, false, false, false] rfl rfl (take_ofW HT_.out HW_.out (by kernel_rfl)) (fun _ _ _ h => h) (Or.inl ⟨by rfl, ?_⟩) hHeld ?_ ?_
                    rotate_left
                    · rintro w' ⟨s0, s1, s2, s3, s4, s5, s6, s7, s8⟩
                      go_simp
                      with_reducible rfl
                    rotate_left
                    · simp only [Act.put, List.setIfInBounds_toArray, List.set_cons_zero, List.set_cons_succ, i64_w, i32_w]
                      rfl
                    refine take_ (i := 4) (N := some 57) (v := ?_) (a' := ?_) #[true, true, false, true, true, false, false, false, false, false] rfl rfl (take_ofW HT_.out HW_.out (by kernel_rfl)) (fun _ _ _ h => h) (Or.inl ⟨by rfl, ?_⟩) hHeld ?_ ?_
                    rotate_left
                    · rintro w' ⟨s0, s1, s2, s3, s4, s5, s6, s7, s8⟩
                      go_simp
                      with_reducible rfl
                    rotate_left
                    · simp only [Act.put, List.setIfInBounds_toArray, List.set_cons_zero, List.set_cons_succ, i64_w, i32_w]
                      rfl
                    refine one_ (i := 2) (N := some 55) #[true, true, true, true, true, false, false, false, false, false] rfl rfl (one_of HT_.out (by kernel_rfl)) (by decide) (fun K hK => ?_)
                    refine goes_ Try.func9 (by kernel_rfl) rfl #[.int .i64 a1_6, .int .i64 256] (by rfl) rfl rfl (by (try simp only [List.map_toArray, List.map_cons, List.map_nil]); first | done | rfl | (simp only [List.length_drop, List.length_take]; rfl)) ?_
                    with_reducible refine (donjonlaw10_within.calls a1_6 256 t116 _ A29.out).mono ?_
                    rintro e w' ⟨rfl, ⟨nd, rfl⟩⟩
                    refine ⟨_, rfl, ?_⟩
                    refine hK.out _ _ ⟨(blk_cell BK102.out 0).trans rfl, (blk_cell BK102.out 1).trans rfl, (blk_cell BK102.out 2).trans rfl, (blk_cell BK102.out 3).trans rfl, (blk_cell BK102.out 4).trans rfl, (blk_cell BK102.out 5).trans rfl, (blk_cell BK102.out 6).trans rfl, (blk_cell BK102.out 7).trans rfl, (blk_cell BK102.out 8).trans rfl⟩ (fun hHeld => ?_)
                    clear hK K
                    refine norm_ (a' := ?_) ?_ ?_
                    rotate_left
                    · show Act.put _ (some 55) _ = _
                      simp only [Act.put, List.setIfInBounds_toArray, List.set_cons_zero, List.set_cons_succ, i64_w, i32_w]
                      rfl
                    refine pure_ (i := 6) (N := some 59) (v := ?_) (a' := ?_) #[true, true, true, true, true, false, true, false, false, false] rfl rfl (any_of HT_.out (by kernel_rfl)) (fun _ _ _ h => h) (Or.inl ⟨by rfl, ?_⟩) ?_ ?_
                    rotate_left
                    · intro w'
                      go_simp
                      with_reducible rfl
                    rotate_left
                    · simp only [Act.put, List.setIfInBounds_toArray, List.set_cons_zero, List.set_cons_succ, i64_w, i32_w]
                      rfl
                    refine one_ (i := 5) (N := some 58) #[true, true, true, true, true, true, true, false, false, false] rfl rfl (one_of HT_.out (by kernel_rfl)) (by decide) (fun K hK => ?_)
                    refine goes_ Try.func9 (by kernel_rfl) rfl #[.int .i64 a1_8, .int .i64 256] (by rfl) rfl rfl (by (try simp only [List.map_toArray, List.map_cons, List.map_nil]); first | done | rfl | (simp only [List.length_drop, List.length_take]; rfl)) ?_
                    with_reducible refine (donjonlaw10_within.calls a1_8 256 t117 _ A30.out).mono ?_
                    rintro e w' ⟨rfl, ⟨nd, rfl⟩⟩
                    refine ⟨_, rfl, ?_⟩
                    refine hK.out _ _ ⟨(blk_cell BK102.out 0).trans rfl, (blk_cell BK102.out 1).trans rfl, (blk_cell BK102.out 2).trans rfl, (blk_cell BK102.out 3).trans rfl, (blk_cell BK102.out 4).trans rfl, (blk_cell BK102.out 5).trans rfl, (blk_cell BK102.out 6).trans rfl, (blk_cell BK102.out 7).trans rfl, (blk_cell BK102.out 8).trans rfl⟩ (fun hHeld => ?_)
                    clear hK K
                    refine norm_ (a' := ?_) ?_ ?_
                    rotate_left
                    · show Act.put _ (some 58) _ = _
                      simp only [Act.put, List.setIfInBounds_toArray, List.set_cons_zero, List.set_cons_succ, i64_w, i32_w]
                      rfl
                    refine last_ (i := 7) (N := none) #[true, true, true, true, true, true, true, true, false, false] rfl rfl (one_of HT_.out (by kernel_rfl)) (by decide) (fun K hK => ?_)
                    have hs60 : w59.cell? ⟨gb102, 6, none⟩ = some (.int .i64 a1_6) := (blk_cell BK102.out 6).trans rfl
                    have hfs60 := blk_frozen BK102.out 6
                    have hns60_0 := NB101_102.out
                    have hms60_0 := NB102_101.out
                    with_reducible refine skip_ (w1 := ?_) ?_ rfl ?_ ?_
                    rotate_left
                    · rfl
                    · go_simp
                      rfl
                    refine hK.out _ _ ?_
                    clear hK K
                    refine pure_ (i := 8) (N := some 60) (v := ?_) (a' := ?_) #[true, true, true, true, true, true, true, true, true, false] rfl rfl (any_of HT_.out (by kernel_rfl)) (fun _ _ _ h => h) (Or.inl ⟨by rfl, ?_⟩) ?_ ?_
                    rotate_left
                    · intro w'
                      go_simp
                      with_reducible rfl
                    rotate_left
                    · simp only [Act.put, List.setIfInBounds_toArray, List.set_cons_zero, List.set_cons_succ, i64_w, i32_w]
                      rfl
                    refine last_ (i := 9) (N := none) #[true, true, true, true, true, true, true, true, true, true] rfl rfl (one_of HT_.out (by kernel_rfl)) (by decide) (fun K hK => ?_)
                    have hs61 : w59.cell? ⟨gb102, 8, none⟩ = some (.int .i64 a1_8) := (blk_cell BK102.out 8).trans rfl
                    have hfs61 := blk_frozen BK102.out 8
                    have hns61_0 := NB101_102.out
                    have hms61_0 := NB102_101.out
                    with_reducible refine skip_ (w1 := ?_) ?_ rfl ?_ ?_
                    rotate_left
                    · rfl
                    · go_simp
                      rfl
                    refine hK.out _ _ ?_
                    clear hK K
                    refine done_ (done_of HT_.out (by kernel_rfl)) ?_
                    try go_wp2
                    generalize hq9_ : World.drewN w59 _ = w9_; have m0_ : Aside0 (w9_.heap[gb101]? = some (.cells #[.string a0_0, .int .i64 t104, .int .i64 t105, .int .i64 t106, .int .i64 t107, .string a0_5, .int .i64 t108, .int .i64 t109, .int .i64 t110, .int .i64 t111, .string a0_10] 42 (0, 0))) := ⟨by rw [← hq9_]; exact blk_drewN BK101.out _⟩; have m1_ : Aside0 (w9_.heap[gb102]? = some (.cells #[.int .i64 a1_0, .int .i64 t112, .int .i64 t113, .int .i64 t114, .int .i64 t115, .string a1_5, .int .i64 a1_6, .string a1_7, .int .i64 a1_8] 45 (0, 0))) := ⟨by rw [← hq9_]; exact blk_drewN BK102.out _⟩; have m2_ : Aside0 (Below w.heap.size w w9_) := ⟨by rw [← hq9_]; exact pw_below_drewN HB.out _⟩; clear BK101 BK102 HB; have BK101 := m0_; have BK102 := m1_; have HB := m2_; clear m0_ m1_ m2_ hq9_; have n0_ : Aside0 (((w9_.setCell ⟨gb102, 6, none⟩ (.int .i64 t116)).setCell ⟨gb102, 8, none⟩ (.int .i64 t117)).heap[gb101]? = some (.cells #[.string a0_0, .int .i64 t104, .int .i64 t105, .int .i64 t106, .int .i64 t107, .string a0_5, .int .i64 t108, .int .i64 t109, .int .i64 t110, .int .i64 t111, .string a0_10] 42 (0, 0))) := ⟨by (with_reducible repeat (first | refine blk_drewN ?_ _ | refine blk_drew ?_ | refine blk_alloc ?_ _)); refine blk_far ?_ NB101_102.out _; (with_reducible repeat (first | refine blk_drewN ?_ _ | refine blk_drew ?_ | refine blk_alloc ?_ _)); refine blk_far ?_ NB101_102.out _; (with_reducible repeat (first | refine blk_drewN ?_ _ | refine blk_drew ?_ | refine blk_alloc ?_ _)); exact BK101.out⟩
                    have n1_ : Aside0 (((w9_.setCell ⟨gb102, 6, none⟩ (.int .i64 t116)).setCell ⟨gb102, 8, none⟩ (.int .i64 t117)).heap[gb102]? = some (.cells #[.int .i64 a1_0, .int .i64 t112, .int .i64 t113, .int .i64 t114, .int .i64 t115, .string a1_5, .int .i64 t116, .string a1_7, .int .i64 t117] 45 (0, 0))) := ⟨by (with_reducible repeat (first | refine blk_drewN ?_ _ | refine blk_drew ?_ | refine blk_alloc ?_ _)); refine blk_put (cs := #[.int .i64 a1_0, .int .i64 t112, .int .i64 t113, .int .i64 t114, .int .i64 t115, .string a1_5, .int .i64 t116, .string a1_7, .int .i64 a1_8]) ?_ 8 _ rfl; (with_reducible repeat (first | refine blk_drewN ?_ _ | refine blk_drew ?_ | refine blk_alloc ?_ _)); refine blk_put (cs := #[.int .i64 a1_0, .int .i64 t112, .int .i64 t113, .int .i64 t114, .int .i64 t115, .string a1_5, .int .i64 a1_6, .string a1_7, .int .i64 a1_8]) ?_ 6 _ rfl; (with_reducible repeat (first | refine blk_drewN ?_ _ | refine blk_drew ?_ | refine blk_alloc ?_ _)); exact BK102.out⟩
                    have n2_ : Aside0 (Below w.heap.size w ((w9_.setCell ⟨gb102, 6, none⟩ (.int .i64 t116)).setCell ⟨gb102, 8, none⟩ (.int .i64 t117))) := ⟨by repeat (first | (with_reducible first | exact HB.out | apply below_alloc | apply pw_below_drewN | apply below_drew1 | refine below_set ?_ GE101.out | refine below_set ?_ GE102.out) | exact HB.out)⟩
                    (try clear BK101)
                    (try clear BK102)
                    (try clear HB)
                    generalize ((w9_.setCell ⟨gb102, 6, none⟩ (.int .i64 t116)).setCell ⟨gb102, 8, none⟩ (.int .i64 t117)) = w62 at n0_ n1_ n2_ ⊢
                    have BK101 := n0_
                    have BK102 := n1_
                    have HB := n2_
                    clear n0_ n1_ n2_
                    (try (rw [drewN_self w62]; generalize hq_ : World.drewN w62 _ = w62; have n0_ : Aside0 (w62.heap[gb101]? = some (.cells #[.string a0_0, .int .i64 t104, .int .i64 t105, .int .i64 t106, .int .i64 t107, .string a0_5, .int .i64 t108, .int .i64 t109, .int .i64 t110, .int .i64 t111, .string a0_10] 42 (0, 0))) := ⟨by rw [← hq_]; exact (by (with_reducible repeat (first | refine blk_drewN ?_ _ | refine blk_drew ?_ | refine blk_alloc ?_ _)); exact BK101.out)⟩; have n1_ : Aside0 (w62.heap[gb102]? = some (.cells #[.int .i64 a1_0, .int .i64 t112, .int .i64 t113, .int .i64 t114, .int .i64 t115, .string a1_5, .int .i64 t116, .string a1_7, .int .i64 t117] 45 (0, 0))) := ⟨by rw [← hq_]; exact (by (with_reducible repeat (first | refine blk_drewN ?_ _ | refine blk_drew ?_ | refine blk_alloc ?_ _)); exact BK102.out)⟩; have n2_ : Aside0 (Below w.heap.size w w62) := ⟨by rw [← hq_]; exact (by repeat (first | (with_reducible first | exact HB.out | apply below_alloc | apply pw_below_drewN | apply below_drew1 | refine below_set ?_ GE101.out | refine below_set ?_ GE102.out) | exact HB.out))⟩; clear BK101 BK102 HB hq_; have BK101 := n0_; have BK102 := n1_; have HB := n2_; clear n0_ n1_ n2_))
                    have n0_ := Aside0.mk (blk_drew BK101.out)
                    have n1_ := Aside0.mk (blk_drew BK102.out)
                    have n2_ := Aside0.mk (below_drew1 HB.out)
                    clear BK101
                    clear BK102
                    clear HB
                    have BK101 := n0_
                    have BK102 := n1_
                    have HB := n2_
                    clear n0_ n1_ n2_
                    refine start_ (n := 6) (S := fun w' => w'.cell? ⟨gb101, 0, none⟩ = some (.string a0_0) ∧ w'.cell? ⟨gb101, 1, none⟩ = some (.int .i64 t104) ∧ w'.cell? ⟨gb101, 2, none⟩ = some (.int .i64 t105) ∧ w'.cell? ⟨gb101, 3, none⟩ = some (.int .i64 t106) ∧ w'.cell? ⟨gb101, 4, none⟩ = some (.int .i64 t107) ∧ w'.cell? ⟨gb101, 5, none⟩ = some (.string a0_5) ∧ w'.cell? ⟨gb101, 6, none⟩ = some (.int .i64 t108) ∧ w'.cell? ⟨gb101, 7, none⟩ = some (.int .i64 t109) ∧ w'.cell? ⟨gb101, 8, none⟩ = some (.int .i64 t110) ∧ w'.cell? ⟨gb101, 9, none⟩ = some (.int .i64 t111) ∧ w'.cell? ⟨gb101, 10, none⟩ = some (.string a0_10) ∧ w'.cell? ⟨gb102, 0, none⟩ = some (.int .i64 a1_0) ∧ w'.cell? ⟨gb102, 1, none⟩ = some (.int .i64 t112) ∧ w'.cell? ⟨gb102, 2, none⟩ = some (.int .i64 t113) ∧ w'.cell? ⟨gb102, 3, none⟩ = some (.int .i64 t114) ∧ w'.cell? ⟨gb102, 4, none⟩ = some (.int .i64 t115) ∧ w'.cell? ⟨gb102, 5, none⟩ = some (.string a1_5) ∧ w'.cell? ⟨gb102, 6, none⟩ = some (.int .i64 t116) ∧ w'.cell? ⟨gb102, 7, none⟩ = some (.string a1_7) ∧ w'.cell? ⟨gb102, 8, none⟩ = some (.int .i64 t117)) (ds := []) #[false, false, false, false, false, false] (by kernel_rfl) rfl rfl ⟨(blk_cell BK101.out 0).trans rfl, (blk_cell BK101.out 1).trans rfl, (blk_cell BK101.out 2).trans rfl, (blk_cell BK101.out 3).trans rfl, (blk_cell BK101.out 4).trans rfl, (blk_cell BK101.out 5).trans rfl, (blk_cell BK101.out 6).trans rfl, (blk_cell BK101.out 7).trans rfl, (blk_cell BK101.out 8).trans rfl, (blk_cell BK101.out 9).trans rfl, (blk_cell BK101.out 10).trans rfl, (blk_cell BK102.out 0).trans rfl, (blk_cell BK102.out 1).trans rfl, (blk_cell BK102.out 2).trans rfl, (blk_cell BK102.out 3).trans rfl, (blk_cell BK102.out 4).trans rfl, (blk_cell BK102.out 5).trans rfl, (blk_cell BK102.out 6).trans rfl, (blk_cell BK102.out 7).trans rfl, (blk_cell BK102.out 8).trans rfl⟩ (fun hHeld => ?_)
                    generalize w62.drew = w63 at BK101 BK102 HB hHeld ⊢
                    refine take_ (i := 0) (N := some 61) (v := ?_) (a' := ?_) #[true, false, false, false, false, false] rfl rfl (by kernel_rfl) (fun _ _ _ h => h) (Or.inl ⟨by rfl, ?_⟩) hHeld ?_ ?_
                    rotate_left
                    · rintro w' ⟨s0, s1, s2, s3, s4, s5, s6, s7, s8, s9, s10, s11, s12, s13, s14, s15, s16, s17, s18, s19⟩
                      go_simp
                      with_reducible rfl
                    rotate_left
                    · simp only [Act.put, List.setIfInBounds_toArray, List.set_cons_zero, List.set_cons_succ, i64_w, i32_w]
                      rfl
                    refine take_ (i := 2) (N := some 63) (v := ?_) (a' := ?_) #[true, false, true, false, false, false] rfl rfl (by kernel_rfl) (fun _ _ _ h => h) (Or.inl ⟨by rfl, ?_⟩) hHeld ?_ ?_
                    rotate_left
                    · rintro w' ⟨s0, s1, s2, s3, s4, s5, s6, s7, s8, s9, s10, s11, s12, s13, s14, s15, s16, s17, s18, s19⟩
                      go_simp
                      with_reducible rfl
                    rotate_left
                    · simp only [Act.put, List.setIfInBounds_toArray, List.set_cons_zero, List.set_cons_succ, i64_w, i32_w]
                      rfl
                    refine one_ (i := 1) (N := some 62) #[true, true, true, false, false, false] rfl rfl (by kernel_rfl) (by decide) (fun K hK => ?_)
                    refine goes_ Try.func13 (by kernel_rfl) rfl #[.agg #[.string a0_0, .int .i64 t104, .int .i64 t105, .int .i64 t106, .int .i64 t107, .string a0_5, .int .i64 t108, .int .i64 t109, .int .i64 t110, .int .i64 t111, .string a0_10]] (by rfl) rfl rfl (by (try simp only [List.map_toArray, List.map_cons, List.map_nil]); first | done | rfl | (simp only [List.length_drop, List.length_take]; rfl)) ?_
                    with_reducible refine (node_EncodeMessage.calls a0_0 t104 t105 t106 t107 a0_5 t108 t109 t110 t111 a0_10 t118 _ A31.out).mono ?_
                    rintro e w64 ⟨v119, rfl, ho0, hb⟩
                    refine ⟨_, rfl, ?_⟩
                    have n0_ := Aside0.mk (Kd.R_lower ho0 (below_size (by repeat (first | (with_reducible first | exact HB.out | apply below_alloc | apply pw_below_drewN | apply below_drew1 | refine below_set ?_ GE101.out | refine below_set ?_ GE102.out) | exact HB.out))))
                    have n1_ := Aside0.mk (blk_below (g := gb101) (o := .cells #[.string a0_0, .int .i64 t104, .int .i64 t105, .int .i64 t106, .int .i64 t107, .string a0_5, .int .i64 t108, .int .i64 t109, .int .i64 t110, .int .i64 t111, .string a0_10] 42 (0, 0)) (by (with_reducible repeat (first | refine blk_drewN ?_ _ | refine blk_drew ?_ | refine blk_alloc ?_ _)); exact BK101.out) hb)
                    have n2_ := Aside0.mk (blk_below (g := gb102) (o := .cells #[.int .i64 a1_0, .int .i64 t112, .int .i64 t113, .int .i64 t114, .int .i64 t115, .string a1_5, .int .i64 t116, .string a1_7, .int .i64 t117] 45 (0, 0)) (by (with_reducible repeat (first | refine blk_drewN ?_ _ | refine blk_drew ?_ | refine blk_alloc ?_ _)); exact BK102.out) hb)
                    have n3_ := Aside0.mk (below_step (by repeat (first | (with_reducible first | exact HB.out | apply below_alloc | apply pw_below_drewN | apply below_drew1 | refine below_set ?_ GE101.out | refine below_set ?_ GE102.out) | exact HB.out)) hb)
                    clear BK101
                    clear BK102
                    clear HB
                    have HO120 := n0_
                    have BK101 := n1_
                    have BK102 := n2_
                    have HB := n3_
                    clear n0_ n1_ n2_ n3_
                    (try clear hb)
                    (try clear hb2)
                    (try clear hk)
                    (try clear hi)
                    (try clear ho0)
                    refine hK.out _ _ ⟨(blk_cell BK101.out 0).trans rfl, (blk_cell BK101.out 1).trans rfl, (blk_cell BK101.out 2).trans rfl, (blk_cell BK101.out 3).trans rfl, (blk_cell BK101.out 4).trans rfl, (blk_cell BK101.out 5).trans rfl, (blk_cell BK101.out 6).trans rfl, (blk_cell BK101.out 7).trans rfl, (blk_cell BK101.out 8).trans rfl, (blk_cell BK101.out 9).trans rfl, (blk_cell BK101.out 10).trans rfl, (blk_cell BK102.out 0).trans rfl, (blk_cell BK102.out 1).trans rfl, (blk_cell BK102.out 2).trans rfl, (blk_cell BK102.out 3).trans rfl, (blk_cell BK102.out 4).trans rfl, (blk_cell BK102.out 5).trans rfl, (blk_cell BK102.out 6).trans rfl, (blk_cell BK102.out 7).trans rfl, (blk_cell BK102.out 8).trans rfl⟩ (fun hHeld => ?_)
                    clear hK K
                    refine norm_ (a' := ?_) ?_ ?_
                    rotate_left
                    · show Act.put _ (some 62) _ = _
                      simp only [Act.put, List.setIfInBounds_toArray, List.set_cons_zero, List.set_cons_succ, i64_w, i32_w]
                      rfl
                    refine one_ (i := 3) (N := some 64) #[true, true, true, true, false, false] rfl rfl (by kernel_rfl) (by decide) (fun K hK => ?_)
                    refine goes_ Try.func14 (by kernel_rfl) rfl #[.agg #[.int .i64 a1_0, .int .i64 t112, .int .i64 t113, .int .i64 t114, .int .i64 t115, .string a1_5, .int .i64 t116, .string a1_7, .int .i64 t117]] (by rfl) rfl rfl (by (try simp only [List.map_toArray, List.map_cons, List.map_nil]); first | done | rfl | (simp only [List.length_drop, List.length_take]; rfl)) ?_
                    with_reducible refine (node_EncodeEntry.calls a1_0 t112 t113 t114 t115 a1_5 t116 a1_7 t117 t121 _ A32.out).mono ?_
                    rintro e w65 ⟨v122, rfl, ho0, hb⟩
                    refine ⟨_, rfl, ?_⟩
                    have n0_ := Aside0.mk (Kd.R_elder' (by (with_reducible repeat (first | apply Kd.R_alloc | apply Kd.R_drewN | apply Kd.R_drew)); exact HO120.out) (Kd.R_base ho0) hb)
                    have n1_ := Aside0.mk (Kd.R_lower (Kd.R_new' ho0 (Kd.R_lt (by (with_reducible repeat (first | apply Kd.R_alloc | apply Kd.R_drewN | apply Kd.R_drew)); exact HO120.out))) (below_size (by repeat (first | (with_reducible first | exact HB.out | apply below_alloc | apply pw_below_drewN | apply below_drew1 | refine below_set ?_ GE101.out | refine below_set ?_ GE102.out) | exact HB.out))))
                    have n2_ := Aside0.mk (blk_below (g := gb101) (o := .cells #[.string a0_0, .int .i64 t104, .int .i64 t105, .int .i64 t106, .int .i64 t107, .string a0_5, .int .i64 t108, .int .i64 t109, .int .i64 t110, .int .i64 t111, .string a0_10] 42 (0, 0)) (by (with_reducible repeat (first | refine blk_drewN ?_ _ | refine blk_drew ?_ | refine blk_alloc ?_ _)); exact BK101.out) hb)
                    have n3_ := Aside0.mk (blk_below (g := gb102) (o := .cells #[.int .i64 a1_0, .int .i64 t112, .int .i64 t113, .int .i64 t114, .int .i64 t115, .string a1_5, .int .i64 t116, .string a1_7, .int .i64 t117] 45 (0, 0)) (by (with_reducible repeat (first | refine blk_drewN ?_ _ | refine blk_drew ?_ | refine blk_alloc ?_ _)); exact BK102.out) hb)
                    have n4_ := Aside0.mk (below_step (by repeat (first | (with_reducible first | exact HB.out | apply below_alloc | apply pw_below_drewN | apply below_drew1 | refine below_set ?_ GE101.out | refine below_set ?_ GE102.out) | exact HB.out)) hb)
                    clear HO120
                    clear BK101
                    clear BK102
                    clear HB
                    have HO120 := n0_
                    have HO123 := n1_
                    have BK101 := n2_
                    have BK102 := n3_
                    have HB := n4_
                    clear n0_ n1_ n2_ n3_ n4_
                    (try clear hb)
                    (try clear hb2)
                    (try clear hk)
                    (try clear hi)
                    (try clear ho0)
                    refine hK.out _ _ ⟨(blk_cell BK101.out 0).trans rfl, (blk_cell BK101.out 1).trans rfl, (blk_cell BK101.out 2).trans rfl, (blk_cell BK101.out 3).trans rfl, (blk_cell BK101.out 4).trans rfl, (blk_cell BK101.out 5).trans rfl, (blk_cell BK101.out 6).trans rfl, (blk_cell BK101.out 7).trans rfl, (blk_cell BK101.out 8).trans rfl, (blk_cell BK101.out 9).trans rfl, (blk_cell BK101.out 10).trans rfl, (blk_cell BK102.out 0).trans rfl, (blk_cell BK102.out 1).trans rfl, (blk_cell BK102.out 2).trans rfl, (blk_cell BK102.out 3).trans rfl, (blk_cell BK102.out 4).trans rfl, (blk_cell BK102.out 5).trans rfl, (blk_cell BK102.out 6).trans rfl, (blk_cell BK102.out 7).trans rfl, (blk_cell BK102.out 8).trans rfl⟩ (fun hHeld => ?_)
                    clear hK K
                    refine norm_ (a' := ?_) ?_ ?_
                    rotate_left
                    · show Act.put _ (some 64) _ = _
                      simp only [Act.put, List.setIfInBounds_toArray, List.set_cons_zero, List.set_cons_succ, i64_w, i32_w]
                      rfl
                    refine pure_ (i := 4) (N := some 5) (v := ?_) (a' := ?_) #[true, true, true, true, true, false] rfl rfl (by kernel_rfl) (fun _ _ _ h => h) (Or.inl ⟨by rfl, ?_⟩) ?_ ?_
                    rotate_left
                    · intro w'
                      go_simp
                      with_reducible rfl
                    rotate_left
                    · simp only [Act.put, List.setIfInBounds_toArray, List.set_cons_zero, List.set_cons_succ, i64_w, i32_w]
                      rfl
                    refine pure_ (i := 5) (N := some 6) (v := ?_) (a' := ?_) #[true, true, true, true, true, true] rfl rfl (by kernel_rfl) (fun _ _ _ h => h) (Or.inl ⟨by rfl, ?_⟩) ?_ ?_
                    rotate_left
                    · intro w'
                      go_simp
                      with_reducible rfl
                    rotate_left
                    · simp only [Act.put, List.setIfInBounds_toArray, List.set_cons_zero, List.set_cons_succ, i64_w, i32_w]
                      rfl
                    refine done_ (by kernel_rfl) ?_
                    obtain ⟨Ao66, co66, eo66⟩ := Kd.R_slice HO120.out
                    subst eo66
                    try go_wp2_with (first | ((with_reducible refine gate_callee (f := 15) rfl ?_); refine goesL_ (some 67) rfl rfl Try.func15 (by kernel_rfl) rfl #[.slice Ao66 t118.length co66] rfl (by (try simp only [List.map_toArray, List.map_cons, List.map_nil]); first | done | rfl | (simp only [List.length_drop, List.length_take]; rfl)) ?_; (with_reducible refine (node_ParseMessage.calls _ _ t118 t124 t125 t126 t127 t128 t129 t130 t131 t132 t133 t134 t135 _ ?side1 ?side2 A33.out).mono ?_); (case side1 => repeat (first | exact (Kd.R_reads' HO120.out).2.2 | (with_reducible refine Kd.C_alloc ?_ _) | (with_reducible refine Kd.C_drewN ?_ _) | (with_reducible refine Kd.C_drew ?_))); (case side2 => exact (Kd.R_reads' HO120.out).2.1); rintro e w67 ⟨rfl, hb⟩; refine ⟨_, rfl, ?_⟩; have n0_ := Aside0.mk (Kd.R_below (by (with_reducible repeat (first | apply Kd.R_alloc | apply Kd.R_drewN | apply Kd.R_drew)); exact HO120.out) hb); have n1_ := Aside0.mk (Kd.R_below (by (with_reducible repeat (first | apply Kd.R_alloc | apply Kd.R_drewN | apply Kd.R_drew)); exact HO123.out) hb); have n2_ := Aside0.mk (blk_below (g := gb101) (o := .cells #[.string a0_0, .int .i64 t104, .int .i64 t105, .int .i64 t106, .int .i64 t107, .string a0_5, .int .i64 t108, .int .i64 t109, .int .i64 t110, .int .i64 t111, .string a0_10] 42 (0, 0)) (by (with_reducible repeat (first | refine blk_drewN ?_ _ | refine blk_drew ?_ | refine blk_alloc ?_ _)); exact BK101.out) hb); have n3_ := Aside0.mk (blk_below (g := gb102) (o := .cells #[.int .i64 a1_0, .int .i64 t112, .int .i64 t113, .int .i64 t114, .int .i64 t115, .string a1_5, .int .i64 t116, .string a1_7, .int .i64 t117] 45 (0, 0)) (by (with_reducible repeat (first | refine blk_drewN ?_ _ | refine blk_drew ?_ | refine blk_alloc ?_ _)); exact BK102.out) hb); have n4_ := Aside0.mk (below_step (by repeat (first | (with_reducible first | exact HB.out | apply below_alloc | apply pw_below_drewN | apply below_drew1 | refine below_set ?_ GE101.out | refine below_set ?_ GE102.out) | exact HB.out)) hb); clear HO120; clear HO123; clear BK101; clear BK102; clear HB; have HO120 := n0_; have HO123 := n1_; have BK101 := n2_; have BK102 := n3_; have HB := n4_; clear n0_ n1_ n2_ n3_ n4_; (try clear hb); (try clear hb2); (try clear hk); (try clear hi)) | ((with_reducible refine gate_dst (N := 7) rfl ?_); (try (refine gate_guard (by rfl) ?_; dsimp only)); refine box_event ?hg (N := 7) ?hd (cs := #[.string (⟨#[]⟩ : ByteArray), .int .i64 0, .int .i64 0, .int .i64 0, .int .i64 0, .string (⟨#[]⟩ : ByteArray), .int .i64 0, .int .i64 0, .int .i64 0, .int .i64 0, .string (⟨#[]⟩ : ByteArray)]) (t := 42) ?hr ?_; (case hd => rfl); (case hg => rfl); (case hr => first | (go_simp; done) | (go_simp; rfl)); intro gb136 hg w68 hbox hb; have n0_ := Aside0.mk (Kd.R_below (by (with_reducible repeat (first | apply Kd.R_alloc | apply Kd.R_drewN | apply Kd.R_drew)); exact HO120.out) hb); have n1_ := Aside0.mk (Kd.R_below (by (with_reducible repeat (first | apply Kd.R_alloc | apply Kd.R_drewN | apply Kd.R_drew)); exact HO123.out) hb); have n2_ := Aside0.mk (blk_below (g := gb101) (o := .cells #[.string a0_0, .int .i64 t104, .int .i64 t105, .int .i64 t106, .int .i64 t107, .string a0_5, .int .i64 t108, .int .i64 t109, .int .i64 t110, .int .i64 t111, .string a0_10] 42 (0, 0)) (by (with_reducible repeat (first | refine blk_drewN ?_ _ | refine blk_drew ?_ | refine blk_alloc ?_ _)); exact BK101.out) hb); have n3_ := Aside0.mk (blk_below (g := gb102) (o := .cells #[.int .i64 a1_0, .int .i64 t112, .int .i64 t113, .int .i64 t114, .int .i64 t115, .string a1_5, .int .i64 t116, .string a1_7, .int .i64 t117] 45 (0, 0)) (by (with_reducible repeat (first | refine blk_drewN ?_ _ | refine blk_drew ?_ | refine blk_alloc ?_ _)); exact BK102.out) hb); have n4_ := Aside0.mk (below_step (by repeat (first | (with_reducible first | exact HB.out | apply below_alloc | apply pw_below_drewN | apply below_drew1 | refine below_set ?_ GE101.out | refine below_set ?_ GE102.out) | exact HB.out)) hb); have n5_ := Aside0.mk (hbox); have n6_ := Aside0.mk ((by rw [hg]; exact (below_size (by repeat (first | (with_reducible first | exact HB.out | apply below_alloc | apply pw_below_drewN | apply below_drew1 | refine below_set ?_ GE101.out | refine below_set ?_ GE102.out) | exact HB.out))) : w.heap.size ≤ gb136)); have n7_ := Aside0.mk ((by rw [hg]; exact (below_size (by repeat (first | (with_reducible first | exact HB.out | apply below_alloc | apply pw_below_drewN | apply below_drew1 | refine below_set ?_ GE101.out | refine below_set ?_ GE102.out) | exact HB.out))) : w.heap.size ≤ gb136)); have n8_ := Aside0.mk ((by rw [hg]; exact Nat.ne_of_lt (blk_lt (g := gb101) (o := .cells #[.string a0_0, .int .i64 t104, .int .i64 t105, .int .i64 t106, .int .i64 t107, .string a0_5, .int .i64 t108, .int .i64 t109, .int .i64 t110, .int .i64 t111, .string a0_10] 42 (0, 0)) (by (with_reducible repeat (first | refine blk_drewN ?_ _ | refine blk_drew ?_ | refine blk_alloc ?_ _)); exact BK101.out)) : gb101 ≠ gb136)); have n9_ := Aside0.mk ((by rw [hg]; exact Nat.ne_of_gt (blk_lt (g := gb101) (o := .cells #[.string a0_0, .int .i64 t104, .int .i64 t105, .int .i64 t106, .int .i64 t107, .string a0_5, .int .i64 t108, .int .i64 t109, .int .i64 t110, .int .i64 t111, .string a0_10] 42 (0, 0)) (by (with_reducible repeat (first | refine blk_drewN ?_ _ | refine blk_drew ?_ | refine blk_alloc ?_ _)); exact BK101.out)) : gb136 ≠ gb101)); have n10_ := Aside0.mk ((by rw [hg]; exact Nat.ne_of_lt (blk_lt (g := gb102) (o := .cells #[.int .i64 a1_0, .int .i64 t112, .int .i64 t113, .int .i64 t114, .int .i64 t115, .string a1_5, .int .i64 t116, .string a1_7, .int .i64 t117] 45 (0, 0)) (by (with_reducible repeat (first | refine blk_drewN ?_ _ | refine blk_drew ?_ | refine blk_alloc ?_ _)); exact BK102.out)) : gb102 ≠ gb136)); have n11_ := Aside0.mk ((by rw [hg]; exact Nat.ne_of_gt (blk_lt (g := gb102) (o := .cells #[.int .i64 a1_0, .int .i64 t112, .int .i64 t113, .int .i64 t114, .int .i64 t115, .string a1_5, .int .i64 t116, .string a1_7, .int .i64 t117] 45 (0, 0)) (by (with_reducible repeat (first | refine blk_drewN ?_ _ | refine blk_drew ?_ | refine blk_alloc ?_ _)); exact BK102.out)) : gb136 ≠ gb102)); clear HO120; clear HO123; clear BK101; clear BK102; clear HB; have HO120 := n0_; have HO123 := n1_; have BK101 := n2_; have BK102 := n3_; have HB := n4_; have BK136 := n5_; have GW136 := n6_; have GE136 := n7_; have NB101_136 := n8_; have NB136_101 := n9_; have NB102_136 := n10_; have NB136_102 := n11_; clear n0_ n1_ n2_ n3_ n4_ n5_ n6_ n7_ n8_ n9_ n10_ n11_; clear hb hbox hg; have hnb69 := NB136_101.out; have hnc69 := NB101_136.out; have hnb70 := NB136_102.out; have hnc70 := NB102_136.out; have hcz71_0 : w68.cell? ⟨gb136, 0, none⟩ = some (.string (⟨#[]⟩ : ByteArray)) := (blk_cell BK136.out 0).trans rfl; have hcz71_1 : w68.cell? ⟨gb136, 1, none⟩ = some (.int .i64 0) := (blk_cell BK136.out 1).trans rfl; have hcz71_2 : w68.cell? ⟨gb136, 2, none⟩ = some (.int .i64 0) := (blk_cell BK136.out 2).trans rfl; have hcz71_3 : w68.cell? ⟨gb136, 3, none⟩ = some (.int .i64 0) := (blk_cell BK136.out 3).trans rfl; have hcz71_4 : w68.cell? ⟨gb136, 4, none⟩ = some (.int .i64 0) := (blk_cell BK136.out 4).trans rfl; have hcz71_5 : w68.cell? ⟨gb136, 5, none⟩ = some (.string (⟨#[]⟩ : ByteArray)) := (blk_cell BK136.out 5).trans rfl; have hcz71_6 : w68.cell? ⟨gb136, 6, none⟩ = some (.int .i64 0) := (blk_cell BK136.out 6).trans rfl; have hcz71_7 : w68.cell? ⟨gb136, 7, none⟩ = some (.int .i64 0) := (blk_cell BK136.out 7).trans rfl; have hcz71_8 : w68.cell? ⟨gb136, 8, none⟩ = some (.int .i64 0) := (blk_cell BK136.out 8).trans rfl; have hcz71_9 : w68.cell? ⟨gb136, 9, none⟩ = some (.int .i64 0) := (blk_cell BK136.out 9).trans rfl; have hcz71_10 : w68.cell? ⟨gb136, 10, none⟩ = some (.string (⟨#[]⟩ : ByteArray)) := (blk_cell BK136.out 10).trans rfl; have hfz71_0 := blk_frozen BK136.out 0; have hfz71_1 := blk_frozen BK136.out 1; have hfz71_2 := blk_frozen BK136.out 2; have hfz71_3 := blk_frozen BK136.out 3; have hfz71_4 := blk_frozen BK136.out 4; have hfz71_5 := blk_frozen BK136.out 5; have hfz71_6 := blk_frozen BK136.out 6; have hfz71_7 := blk_frozen BK136.out 7; have hfz71_8 := blk_frozen BK136.out 8; have hfz71_9 := blk_frozen BK136.out 9; have hfz71_10 := blk_frozen BK136.out 10; obtain ⟨Ao72, co72, eo72⟩ := Kd.R_slice HO123.out; subst eo72) | ((with_reducible refine gate_callee (f := 16) rfl ?_); refine goesL_ (some 72) rfl rfl Try.func16 (by kernel_rfl) rfl #[.slice Ao72 t121.length co72] rfl (by (try simp only [List.map_toArray, List.map_cons, List.map_nil]); first | done | rfl | (simp only [List.length_drop, List.length_take]; rfl)) ?_; (with_reducible refine (node_ParseEntry.calls _ _ t121 t137 t138 t139 t140 t141 t142 t143 t144 t145 t146 _ ?side1 ?side2 A34.out).mono ?_); (case side1 => refine (Kd.R_reads' (e := 5) (base := w.heap.size) (ok := fun k_ => (True ∧ some k_ ≠ (.slice Ao66 t118.length co66 : Value).ownBlock)) (n := t121.length) (c := co72) ?_).2.2; exact (by (with_reducible repeat (first | apply Kd.R_alloc | apply Kd.R_drewN | apply Kd.R_drew)); exact (Kd.R_mono (Kd.R_far (p := ⟨gb136, 10, none⟩) (Kd.R_far (p := ⟨gb136, 9, none⟩) (Kd.R_far (p := ⟨gb136, 8, none⟩) (Kd.R_far (p := ⟨gb136, 7, none⟩) (Kd.R_far (p := ⟨gb136, 6, none⟩) (Kd.R_far (p := ⟨gb136, 5, none⟩) (Kd.R_far (p := ⟨gb136, 4, none⟩) (Kd.R_far (p := ⟨gb136, 3, none⟩) (Kd.R_far (p := ⟨gb136, 2, none⟩) (Kd.R_far (p := ⟨gb136, 1, none⟩) (Kd.R_far (p := ⟨gb136, 0, none⟩) (Kd.R_types HO123.out BK136.out (by decide)) (fun _ hk => hk.2) (.string t124)) (fun _ hk => hk.2) (.int .i64 t125)) (fun _ hk => hk.2) (.int .i64 t126)) (fun _ hk => hk.2) (.int .i64 t127)) (fun _ hk => hk.2) (.int .i64 t128)) (fun _ hk => hk.2) (.string t129)) (fun _ hk => hk.2) (.int .i64 t130)) (fun _ hk => hk.2) (.int .i64 t131)) (fun _ hk => hk.2) (.int .i64 t132)) (fun _ hk => hk.2) (.int .i64 t133)) (fun _ hk => hk.2) (.string t134)) (fun _ h_ => h_.1)))); (case side2 => exact (Kd.R_reads' HO123.out).2.1); rintro e w73 ⟨rfl, hb⟩; refine ⟨_, rfl, ?_⟩; have n0_ := Aside0.mk (Kd.R_below (by (with_reducible repeat (first | apply Kd.R_alloc | apply Kd.R_drewN | apply Kd.R_drew)); exact (Kd.R_mono (Kd.R_far (p := ⟨gb136, 10, none⟩) (Kd.R_far (p := ⟨gb136, 9, none⟩) (Kd.R_far (p := ⟨gb136, 8, none⟩) (Kd.R_far (p := ⟨gb136, 7, none⟩) (Kd.R_far (p := ⟨gb136, 6, none⟩) (Kd.R_far (p := ⟨gb136, 5, none⟩) (Kd.R_far (p := ⟨gb136, 4, none⟩) (Kd.R_far (p := ⟨gb136, 3, none⟩) (Kd.R_far (p := ⟨gb136, 2, none⟩) (Kd.R_far (p := ⟨gb136, 1, none⟩) (Kd.R_far (p := ⟨gb136, 0, none⟩) (Kd.R_types HO120.out BK136.out (by decide)) (fun _ hk => hk.2) (.string t124)) (fun _ hk => hk.2) (.int .i64 t125)) (fun _ hk => hk.2) (.int .i64 t126)) (fun _ hk => hk.2) (.int .i64 t127)) (fun _ hk => hk.2) (.int .i64 t128)) (fun _ hk => hk.2) (.string t129)) (fun _ hk => hk.2) (.int .i64 t130)) (fun _ hk => hk.2) (.int .i64 t131)) (fun _ hk => hk.2) (.int .i64 t132)) (fun _ hk => hk.2) (.int .i64 t133)) (fun _ hk => hk.2) (.string t134)) (fun _ h_ => h_.1))) hb); have n1_ := Aside0.mk (Kd.R_below (by (with_reducible repeat (first | apply Kd.R_alloc | apply Kd.R_drewN | apply Kd.R_drew)); exact (Kd.R_mono (Kd.R_far (p := ⟨gb136, 10, none⟩) (Kd.R_far (p := ⟨gb136, 9, none⟩) (Kd.R_far (p := ⟨gb136, 8, none⟩) (Kd.R_far (p := ⟨gb136, 7, none⟩) (Kd.R_far (p := ⟨gb136, 6, none⟩) (Kd.R_far (p := ⟨gb136, 5, none⟩) (Kd.R_far (p := ⟨gb136, 4, none⟩) (Kd.R_far (p := ⟨gb136, 3, none⟩) (Kd.R_far (p := ⟨gb136, 2, none⟩) (Kd.R_far (p := ⟨gb136, 1, none⟩) (Kd.R_far (p := ⟨gb136, 0, none⟩) (Kd.R_types HO123.out BK136.out (by decide)) (fun _ hk => hk.2) (.string t124)) (fun _ hk => hk.2) (.int .i64 t125)) (fun _ hk => hk.2) (.int .i64 t126)) (fun _ hk => hk.2) (.int .i64 t127)) (fun _ hk => hk.2) (.int .i64 t128)) (fun _ hk => hk.2) (.string t129)) (fun _ hk => hk.2) (.int .i64 t130)) (fun _ hk => hk.2) (.int .i64 t131)) (fun _ hk => hk.2) (.int .i64 t132)) (fun _ hk => hk.2) (.int .i64 t133)) (fun _ hk => hk.2) (.string t134)) (fun _ h_ => h_.1))) hb); have n2_ := Aside0.mk (blk_below (g := gb101) (o := .cells #[.string a0_0, .int .i64 t104, .int .i64 t105, .int .i64 t106, .int .i64 t107, .string a0_5, .int .i64 t108, .int .i64 t109, .int .i64 t110, .int .i64 t111, .string a0_10] 42 (0, 0)) (by (with_reducible repeat (first | refine blk_drewN ?_ _ | refine blk_drew ?_ | refine blk_alloc ?_ _)); refine blk_far ?_ NB101_136.out _; (with_reducible repeat (first | refine blk_drewN ?_ _ | refine blk_drew ?_ | refine blk_alloc ?_ _)); refine blk_far ?_ NB101_136.out _; (with_reducible repeat (first | refine blk_drewN ?_ _ | refine blk_drew ?_ | refine blk_alloc ?_ _)); refine blk_far ?_ NB101_136.out _; (with_reducible repeat (first | refine blk_drewN ?_ _ | refine blk_drew ?_ | refine blk_alloc ?_ _)); refine blk_far ?_ NB101_136.out _; (with_reducible repeat (first | refine blk_drewN ?_ _ | refine blk_drew ?_ | refine blk_alloc ?_ _)); refine blk_far ?_ NB101_136.out _; (with_reducible repeat (first | refine blk_drewN ?_ _ | refine blk_drew ?_ | refine blk_alloc ?_ _)); refine blk_far ?_ NB101_136.out _; (with_reducible repeat (first | refine blk_drewN ?_ _ | refine blk_drew ?_ | refine blk_alloc ?_ _)); refine blk_far ?_ NB101_136.out _; (with_reducible repeat (first | refine blk_drewN ?_ _ | refine blk_drew ?_ | refine blk_alloc ?_ _)); refine blk_far ?_ NB101_136.out _; (with_reducible repeat (first | refine blk_drewN ?_ _ | refine blk_drew ?_ | refine blk_alloc ?_ _)); refine blk_far ?_ NB101_136.out _; (with_reducible repeat (first | refine blk_drewN ?_ _ | refine blk_drew ?_ | refine blk_alloc ?_ _)); refine blk_far ?_ NB101_136.out _; (with_reducible repeat (first | refine blk_drewN ?_ _ | refine blk_drew ?_ | refine blk_alloc ?_ _)); refine blk_far ?_ NB101_136.out _; (with_reducible repeat (first | refine blk_drewN ?_ _ | refine blk_drew ?_ | refine blk_alloc ?_ _)); exact BK101.out) hb); have n3_ := Aside0.mk (blk_below (g := gb102) (o := .cells #[.int .i64 a1_0, .int .i64 t112, .int .i64 t113, .int .i64 t114, .int .i64 t115, .string a1_5, .int .i64 t116, .string a1_7, .int .i64 t117] 45 (0, 0)) (by (with_reducible repeat (first | refine blk_drewN ?_ _ | refine blk_drew ?_ | refine blk_alloc ?_ _)); refine blk_far ?_ NB102_136.out _; (with_reducible repeat (first | refine blk_drewN ?_ _ | refine blk_drew ?_ | refine blk_alloc ?_ _)); refine blk_far ?_ NB102_136.out _; (with_reducible repeat (first | refine blk_drewN ?_ _ | refine blk_drew ?_ | refine blk_alloc ?_ _)); refine blk_far ?_ NB102_136.out _; (with_reducible repeat (first | refine blk_drewN ?_ _ | refine blk_drew ?_ | refine blk_alloc ?_ _)); refine blk_far ?_ NB102_136.out _; (with_reducible repeat (first | refine blk_drewN ?_ _ | refine blk_drew ?_ | refine blk_alloc ?_ _)); refine blk_far ?_ NB102_136.out _; (with_reducible repeat (first | refine blk_drewN ?_ _ | refine blk_drew ?_ | refine blk_alloc ?_ _)); refine blk_far ?_ NB102_136.out _; (with_reducible repeat (first | refine blk_drewN ?_ _ | refine blk_drew ?_ | refine blk_alloc ?_ _)); refine blk_far ?_ NB102_136.out _; (with_reducible repeat (first | refine blk_drewN ?_ _ | refine blk_drew ?_ | refine blk_alloc ?_ _)); refine blk_far ?_ NB102_136.out _; (with_reducible repeat (first | refine blk_drewN ?_ _ | refine blk_drew ?_ | refine blk_alloc ?_ _)); refine blk_far ?_ NB102_136.out _; (with_reducible repeat (first | refine blk_drewN ?_ _ | refine blk_drew ?_ | refine blk_alloc ?_ _)); refine blk_far ?_ NB102_136.out _; (with_reducible repeat (first | refine blk_drewN ?_ _ | refine blk_drew ?_ | refine blk_alloc ?_ _)); refine blk_far ?_ NB102_136.out _; (with_reducible repeat (first | refine blk_drewN ?_ _ | refine blk_drew ?_ | refine blk_alloc ?_ _)); exact BK102.out) hb); have n4_ := Aside0.mk (blk_below (g := gb136) (o := .cells #[.string t124, .int .i64 t125, .int .i64 t126, .int .i64 t127, .int .i64 t128, .string t129, .int .i64 t130, .int .i64 t131, .int .i64 t132, .int .i64 t133, .string t134] 42 (0, 0)) (by (with_reducible repeat (first | refine blk_drewN ?_ _ | refine blk_drew ?_ | refine blk_alloc ?_ _)); refine blk_put (cs := #[.string t124, .int .i64 t125, .int .i64 t126, .int .i64 t127, .int .i64 t128, .string t129, .int .i64 t130, .int .i64 t131, .int .i64 t132, .int .i64 t133, .string (⟨#[]⟩ : ByteArray)]) ?_ 10 _ rfl; (with_reducible repeat (first | refine blk_drewN ?_ _ | refine blk_drew ?_ | refine blk_alloc ?_ _)); refine blk_put (cs := #[.string t124, .int .i64 t125, .int .i64 t126, .int .i64 t127, .int .i64 t128, .string t129, .int .i64 t130, .int .i64 t131, .int .i64 t132, .int .i64 0, .string (⟨#[]⟩ : ByteArray)]) ?_ 9 _ rfl; (with_reducible repeat (first | refine blk_drewN ?_ _ | refine blk_drew ?_ | refine blk_alloc ?_ _)); refine blk_put (cs := #[.string t124, .int .i64 t125, .int .i64 t126, .int .i64 t127, .int .i64 t128, .string t129, .int .i64 t130, .int .i64 t131, .int .i64 0, .int .i64 0, .string (⟨#[]⟩ : ByteArray)]) ?_ 8 _ rfl; (with_reducible repeat (first | refine blk_drewN ?_ _ | refine blk_drew ?_ | refine blk_alloc ?_ _)); refine blk_put (cs := #[.string t124, .int .i64 t125, .int .i64 t126, .int .i64 t127, .int .i64 t128, .string t129, .int .i64 t130, .int .i64 0, .int .i64 0, .int .i64 0, .string (⟨#[]⟩ : ByteArray)]) ?_ 7 _ rfl; (with_reducible repeat (first | refine blk_drewN ?_ _ | refine blk_drew ?_ | refine blk_alloc ?_ _)); refine blk_put (cs := #[.string t124, .int .i64 t125, .int .i64 t126, .int .i64 t127, .int .i64 t128, .string t129, .int .i64 0, .int .i64 0, .int .i64 0, .int .i64 0, .string (⟨#[]⟩ : ByteArray)]) ?_ 6 _ rfl; (with_reducible repeat (first | refine blk_drewN ?_ _ | refine blk_drew ?_ | refine blk_alloc ?_ _)); refine blk_put (cs := #[.string t124, .int .i64 t125, .int .i64 t126, .int .i64 t127, .int .i64 t128, .string (⟨#[]⟩ : ByteArray), .int .i64 0, .int .i64 0, .int .i64 0, .int .i64 0, .string (⟨#[]⟩ : ByteArray)]) ?_ 5 _ rfl; (with_reducible repeat (first | refine blk_drewN ?_ _ | refine blk_drew ?_ | refine blk_alloc ?_ _)); refine blk_put (cs := #[.string t124, .int .i64 t125, .int .i64 t126, .int .i64 t127, .int .i64 0, .string (⟨#[]⟩ : ByteArray), .int .i64 0, .int .i64 0, .int .i64 0, .int .i64 0, .string (⟨#[]⟩ : ByteArray)]) ?_ 4 _ rfl; (with_reducible repeat (first | refine blk_drewN ?_ _ | refine blk_drew ?_ | refine blk_alloc ?_ _)); refine blk_put (cs := #[.string t124, .int .i64 t125, .int .i64 t126, .int .i64 0, .int .i64 0, .string (⟨#[]⟩ : ByteArray), .int .i64 0, .int .i64 0, .int .i64 0, .int .i64 0, .string (⟨#[]⟩ : ByteArray)]) ?_ 3 _ rfl; (with_reducible repeat (first | refine blk_drewN ?_ _ | refine blk_drew ?_ | refine blk_alloc ?_ _)); refine blk_put (cs := #[.string t124, .int .i64 t125, .int .i64 0, .int .i64 0, .int .i64 0, .string (⟨#[]⟩ : ByteArray), .int .i64 0, .int .i64 0, .int .i64 0, .int .i64 0, .string (⟨#[]⟩ : ByteArray)]) ?_ 2 _ rfl; (with_reducible repeat (first | refine blk_drewN ?_ _ | refine blk_drew ?_ | refine blk_alloc ?_ _)); refine blk_put (cs := #[.string t124, .int .i64 0, .int .i64 0, .int .i64 0, .int .i64 0, .string (⟨#[]⟩ : ByteArray), .int .i64 0, .int .i64 0, .int .i64 0, .int .i64 0, .string (⟨#[]⟩ : ByteArray)]) ?_ 1 _ rfl; (with_reducible repeat (first | refine blk_drewN ?_ _ | refine blk_drew ?_ | refine blk_alloc ?_ _)); refine blk_put (cs := #[.string (⟨#[]⟩ : ByteArray), .int .i64 0, .int .i64 0, .int .i64 0, .int .i64 0, .string (⟨#[]⟩ : ByteArray), .int .i64 0, .int .i64 0, .int .i64 0, .int .i64 0, .string (⟨#[]⟩ : ByteArray)]) ?_ 0 _ rfl; (with_reducible repeat (first | refine blk_drewN ?_ _ | refine blk_drew ?_ | refine blk_alloc ?_ _)); exact BK136.out) hb); have n5_ := Aside0.mk (below_step (by repeat (first | (with_reducible first | exact HB.out | apply below_alloc | apply pw_below_drewN | apply below_drew1 | refine below_set ?_ GE101.out | refine below_set ?_ GE102.out | refine below_set ?_ GE136.out) | exact HB.out)) hb); clear HO120; clear HO123; clear BK101; clear BK102; clear BK136; clear HB; have HO120 := n0_; have HO123 := n1_; have BK101 := n2_; have BK102 := n3_; have BK136 := n4_; have HB := n5_; clear n0_ n1_ n2_ n3_ n4_ n5_; (try clear hb); (try clear hb2); (try clear hk); (try clear hi)) | ((with_reducible refine gate_dst (N := 9) rfl ?_); (try (refine gate_guard (by rfl) ?_; dsimp only)); refine box_event ?hg (N := 9) ?hd (cs := #[.int .i64 0, .int .i64 0, .int .i64 0, .int .i64 0, .int .i64 0, .string (⟨#[]⟩ : ByteArray), .int .i64 0, .string (⟨#[]⟩ : ByteArray), .int .i64 0]) (t := 45) ?hr ?_; (case hd => rfl); (case hg => rfl); (case hr => first | (go_simp; done) | (go_simp; rfl)); intro gb147 hg w74 hbox hb; have n0_ := Aside0.mk (Kd.R_below (by (with_reducible repeat (first | apply Kd.R_alloc | apply Kd.R_drewN | apply Kd.R_drew)); exact HO120.out) hb); have n1_ := Aside0.mk (Kd.R_below (by (with_reducible repeat (first | apply Kd.R_alloc | apply Kd.R_drewN | apply Kd.R_drew)); exact HO123.out) hb); have n2_ := Aside0.mk (blk_below (g := gb101) (o := .cells #[.string a0_0, .int .i64 t104, .int .i64 t105, .int .i64 t106, .int .i64 t107, .string a0_5, .int .i64 t108, .int .i64 t109, .int .i64 t110, .int .i64 t111, .string a0_10] 42 (0, 0)) (by (with_reducible repeat (first | refine blk_drewN ?_ _ | refine blk_drew ?_ | refine blk_alloc ?_ _)); exact BK101.out) hb); have n3_ := Aside0.mk (blk_below (g := gb102) (o := .cells #[.int .i64 a1_0, .int .i64 t112, .int .i64 t113, .int .i64 t114, .int .i64 t115, .string a1_5, .int .i64 t116, .string a1_7, .int .i64 t117] 45 (0, 0)) (by (with_reducible repeat (first | refine blk_drewN ?_ _ | refine blk_drew ?_ | refine blk_alloc ?_ _)); exact BK102.out) hb); have n4_ := Aside0.mk (blk_below (g := gb136) (o := .cells #[.string t124, .int .i64 t125, .int .i64 t126, .int .i64 t127, .int .i64 t128, .string t129, .int .i64 t130, .int .i64 t131, .int .i64 t132, .int .i64 t133, .string t134] 42 (0, 0)) (by (with_reducible repeat (first | refine blk_drewN ?_ _ | refine blk_drew ?_ | refine blk_alloc ?_ _)); exact BK136.out) hb); have n5_ := Aside0.mk (below_step (by repeat (first | (with_reducible first | exact HB.out | apply below_alloc | apply pw_below_drewN | apply below_drew1 | refine below_set ?_ GE101.out | refine below_set ?_ GE102.out | refine below_set ?_ GE136.out) | exact HB.out)) hb); have n6_ := Aside0.mk (hbox); have n7_ := Aside0.mk ((by rw [hg]; exact (below_size (by repeat (first | (with_reducible first | exact HB.out | apply below_alloc | apply pw_below_drewN | apply below_drew1 | refine below_set ?_ GE101.out | refine below_set ?_ GE102.out | refine below_set ?_ GE136.out) | exact HB.out))) : w.heap.size ≤ gb147)); have n8_ := Aside0.mk ((by rw [hg]; exact (below_size (by repeat (first | (with_reducible first | exact HB.out | apply below_alloc | apply pw_below_drewN | apply below_drew1 | refine below_set ?_ GE101.out | refine below_set ?_ GE102.out | refine below_set ?_ GE136.out) | exact HB.out))) : w.heap.size ≤ gb147)); have n9_ := Aside0.mk ((by rw [hg]; exact Nat.ne_of_lt (blk_lt (g := gb101) (o := .cells #[.string a0_0, .int .i64 t104, .int .i64 t105, .int .i64 t106, .int .i64 t107, .string a0_5, .int .i64 t108, .int .i64 t109, .int .i64 t110, .int .i64 t111, .string a0_10] 42 (0, 0)) (by (with_reducible repeat (first | refine blk_drewN ?_ _ | refine blk_drew ?_ | refine blk_alloc ?_ _)); exact BK101.out)) : gb101 ≠ gb147)); have n10_ := Aside0.mk ((by rw [hg]; exact Nat.ne_of_gt (blk_lt (g := gb101) (o := .cells #[.string a0_0, .int .i64 t104, .int .i64 t105, .int .i64 t106, .int .i64 t107, .string a0_5, .int .i64 t108, .int .i64 t109, .int .i64 t110, .int .i64 t111, .string a0_10] 42 (0, 0)) (by (with_reducible repeat (first | refine blk_drewN ?_ _ | refine blk_drew ?_ | refine blk_alloc ?_ _)); exact BK101.out)) : gb147 ≠ gb101)); have n11_ := Aside0.mk ((by rw [hg]; exact Nat.ne_of_lt (blk_lt (g := gb102) (o := .cells #[.int .i64 a1_0, .int .i64 t112, .int .i64 t113, .int .i64 t114, .int .i64 t115, .string a1_5, .int .i64 t116, .string a1_7, .int .i64 t117] 45 (0, 0)) (by (with_reducible repeat (first | refine blk_drewN ?_ _ | refine blk_drew ?_ | refine blk_alloc ?_ _)); exact BK102.out)) : gb102 ≠ gb147)); have n12_ := Aside0.mk ((by rw [hg]; exact Nat.ne_of_gt (blk_lt (g := gb102) (o := .cells #[.int .i64 a1_0, .int .i64 t112, .int .i64 t113, .int .i64 t114, .int .i64 t115, .string a1_5, .int .i64 t116, .string a1_7, .int .i64 t117] 45 (0, 0)) (by (with_reducible repeat (first | refine blk_drewN ?_ _ | refine blk_drew ?_ | refine blk_alloc ?_ _)); exact BK102.out)) : gb147 ≠ gb102)); have n13_ := Aside0.mk ((by rw [hg]; exact Nat.ne_of_lt (blk_lt (g := gb136) (o := .cells #[.string t124, .int .i64 t125, .int .i64 t126, .int .i64 t127, .int .i64 t128, .string t129, .int .i64 t130, .int .i64 t131, .int .i64 t132, .int .i64 t133, .string t134] 42 (0, 0)) (by (with_reducible repeat (first | refine blk_drewN ?_ _ | refine blk_drew ?_ | refine blk_alloc ?_ _)); exact BK136.out)) : gb136 ≠ gb147)); have n14_ := Aside0.mk ((by rw [hg]; exact Nat.ne_of_gt (blk_lt (g := gb136) (o := .cells #[.string t124, .int .i64 t125, .int .i64 t126, .int .i64 t127, .int .i64 t128, .string t129, .int .i64 t130, .int .i64 t131, .int .i64 t132, .int .i64 t133, .string t134] 42 (0, 0)) (by (with_reducible repeat (first | refine blk_drewN ?_ _ | refine blk_drew ?_ | refine blk_alloc ?_ _)); exact BK136.out)) : gb147 ≠ gb136)); clear HO120; clear HO123; clear BK101; clear BK102; clear BK136; clear HB; have HO120 := n0_; have HO123 := n1_; have BK101 := n2_; have BK102 := n3_; have BK136 := n4_; have HB := n5_; have BK147 := n6_; have GW147 := n7_; have GE147 := n8_; have NB101_147 := n9_; have NB147_101 := n10_; have NB102_147 := n11_; have NB147_102 := n12_; have NB136_147 := n13_; have NB147_136 := n14_; clear n0_ n1_ n2_ n3_ n4_ n5_ n6_ n7_ n8_ n9_ n10_ n11_ n12_ n13_ n14_; clear hb hbox hg; have hnb75 := NB147_101.out; have hnc75 := NB101_147.out; have hnb76 := NB147_102.out; have hnc76 := NB102_147.out; have hnb77 := NB147_136.out; have hnc77 := NB136_147.out; have hcz78_0 : w74.cell? ⟨gb147, 0, none⟩ = some (.int .i64 0) := (blk_cell BK147.out 0).trans rfl; have hcz78_1 : w74.cell? ⟨gb147, 1, none⟩ = some (.int .i64 0) := (blk_cell BK147.out 1).trans rfl; have hcz78_2 : w74.cell? ⟨gb147, 2, none⟩ = some (.int .i64 0) := (blk_cell BK147.out 2).trans rfl; have hcz78_3 : w74.cell? ⟨gb147, 3, none⟩ = some (.int .i64 0) := (blk_cell BK147.out 3).trans rfl; have hcz78_4 : w74.cell? ⟨gb147, 4, none⟩ = some (.int .i64 0) := (blk_cell BK147.out 4).trans rfl; have hcz78_5 : w74.cell? ⟨gb147, 5, none⟩ = some (.string (⟨#[]⟩ : ByteArray)) := (blk_cell BK147.out 5).trans rfl; have hcz78_6 : w74.cell? ⟨gb147, 6, none⟩ = some (.int .i64 0) := (blk_cell BK147.out 6).trans rfl; have hcz78_7 : w74.cell? ⟨gb147, 7, none⟩ = some (.string (⟨#[]⟩ : ByteArray)) := (blk_cell BK147.out 7).trans rfl; have hcz78_8 : w74.cell? ⟨gb147, 8, none⟩ = some (.int .i64 0) := (blk_cell BK147.out 8).trans rfl; have hfz78_0 := blk_frozen BK147.out 0; have hfz78_1 := blk_frozen BK147.out 1; have hfz78_2 := blk_frozen BK147.out 2; have hfz78_3 := blk_frozen BK147.out 3; have hfz78_4 := blk_frozen BK147.out 4; have hfz78_5 := blk_frozen BK147.out 5; have hfz78_6 := blk_frozen BK147.out 6; have hfz78_7 := blk_frozen BK147.out 7; have hfz78_8 := blk_frozen BK147.out 8))
                    have n0_ : Aside0 (Kd.R (Kd.int .u8) 5 (((((((((w74.setCell ⟨gb147, 0, none⟩ (.int .i64 t137)).setCell ⟨gb147, 1, none⟩ (.int .i64 t138)).setCell ⟨gb147, 2, none⟩ (.int .i64 t139)).setCell ⟨gb147, 3, none⟩ (.int .i64 t140)).setCell ⟨gb147, 4, none⟩ (.int .i64 t141)).setCell ⟨gb147, 5, none⟩ (.string t142)).setCell ⟨gb147, 6, none⟩ (.int .i64 t143)).setCell ⟨gb147, 7, none⟩ (.string t144)).setCell ⟨gb147, 8, none⟩ (.int .i64 t145)) w.heap.size (fun k_ => some k_ ≠ (.slice Ao72 t121.length co72 : Value).ownBlock) (.slice Ao66 t118.length co66) t118) := ⟨by (with_reducible repeat (first | apply Kd.R_alloc | apply Kd.R_drewN | apply Kd.R_drew)); exact Kd.R_mono (Kd.R_far (p := ⟨gb147, 8, none⟩) (Kd.R_far (p := ⟨gb147, 7, none⟩) (Kd.R_far (p := ⟨gb147, 6, none⟩) (Kd.R_far (p := ⟨gb147, 5, none⟩) (Kd.R_far (p := ⟨gb147, 4, none⟩) (Kd.R_far (p := ⟨gb147, 3, none⟩) (Kd.R_far (p := ⟨gb147, 2, none⟩) (Kd.R_far (p := ⟨gb147, 1, none⟩) (Kd.R_far (p := ⟨gb147, 0, none⟩) (Kd.R_types HO120.out BK147.out (by decide)) (fun _ hk => hk.2) (.int .i64 t137)) (fun _ hk => hk.2) (.int .i64 t138)) (fun _ hk => hk.2) (.int .i64 t139)) (fun _ hk => hk.2) (.int .i64 t140)) (fun _ hk => hk.2) (.int .i64 t141)) (fun _ hk => hk.2) (.string t142)) (fun _ hk => hk.2) (.int .i64 t143)) (fun _ hk => hk.2) (.string t144)) (fun _ hk => hk.2) (.int .i64 t145)) (fun _ hk => hk.1.2)⟩
                    have n1_ : Aside0 (Kd.R (Kd.int .u8) 5 (((((((((w74.setCell ⟨gb147, 0, none⟩ (.int .i64 t137)).setCell ⟨gb147, 1, none⟩ (.int .i64 t138)).setCell ⟨gb147, 2, none⟩ (.int .i64 t139)).setCell ⟨gb147, 3, none⟩ (.int .i64 t140)).setCell ⟨gb147, 4, none⟩ (.int .i64 t141)).setCell ⟨gb147, 5, none⟩ (.string t142)).setCell ⟨gb147, 6, none⟩ (.int .i64 t143)).setCell ⟨gb147, 7, none⟩ (.string t144)).setCell ⟨gb147, 8, none⟩ (.int .i64 t145)) w.heap.size (fun k_ => some k_ ≠ (.slice Ao66 t118.length co66 : Value).ownBlock) (.slice Ao72 t121.length co72) t121) := ⟨by (with_reducible repeat (first | apply Kd.R_alloc | apply Kd.R_drewN | apply Kd.R_drew)); exact Kd.R_mono (Kd.R_far (p := ⟨gb147, 8, none⟩) (Kd.R_far (p := ⟨gb147, 7, none⟩) (Kd.R_far (p := ⟨gb147, 6, none⟩) (Kd.R_far (p := ⟨gb147, 5, none⟩) (Kd.R_far (p := ⟨gb147, 4, none⟩) (Kd.R_far (p := ⟨gb147, 3, none⟩) (Kd.R_far (p := ⟨gb147, 2, none⟩) (Kd.R_far (p := ⟨gb147, 1, none⟩) (Kd.R_far (p := ⟨gb147, 0, none⟩) (Kd.R_types HO123.out BK147.out (by decide)) (fun _ hk => hk.2) (.int .i64 t137)) (fun _ hk => hk.2) (.int .i64 t138)) (fun _ hk => hk.2) (.int .i64 t139)) (fun _ hk => hk.2) (.int .i64 t140)) (fun _ hk => hk.2) (.int .i64 t141)) (fun _ hk => hk.2) (.string t142)) (fun _ hk => hk.2) (.int .i64 t143)) (fun _ hk => hk.2) (.string t144)) (fun _ hk => hk.2) (.int .i64 t145)) (fun _ hk => hk.1.2)⟩
                    have n2_ : Aside0 ((((((((((w74.setCell ⟨gb147, 0, none⟩ (.int .i64 t137)).setCell ⟨gb147, 1, none⟩ (.int .i64 t138)).setCell ⟨gb147, 2, none⟩ (.int .i64 t139)).setCell ⟨gb147, 3, none⟩ (.int .i64 t140)).setCell ⟨gb147, 4, none⟩ (.int .i64 t141)).setCell ⟨gb147, 5, none⟩ (.string t142)).setCell ⟨gb147, 6, none⟩ (.int .i64 t143)).setCell ⟨gb147, 7, none⟩ (.string t144)).setCell ⟨gb147, 8, none⟩ (.int .i64 t145)).heap[gb101]? = some (.cells #[.string a0_0, .int .i64 t104, .int .i64 t105, .int .i64 t106, .int .i64 t107, .string a0_5, .int .i64 t108, .int .i64 t109, .int .i64 t110, .int .i64 t111, .string a0_10] 42 (0, 0))) := ⟨by (with_reducible repeat (first | refine blk_drewN ?_ _ | refine blk_drew ?_ | refine blk_alloc ?_ _)); refine blk_far ?_ NB101_147.out _; (with_reducible repeat (first | refine blk_drewN ?_ _ | refine blk_drew ?_ | refine blk_alloc ?_ _)); refine blk_far ?_ NB101_147.out _; (with_reducible repeat (first | refine blk_drewN ?_ _ | refine blk_drew ?_ | refine blk_alloc ?_ _)); refine blk_far ?_ NB101_147.out _; (with_reducible repeat (first | refine blk_drewN ?_ _ | refine blk_drew ?_ | refine blk_alloc ?_ _)); refine blk_far ?_ NB101_147.out _; (with_reducible repeat (first | refine blk_drewN ?_ _ | refine blk_drew ?_ | refine blk_alloc ?_ _)); refine blk_far ?_ NB101_147.out _; (with_reducible repeat (first | refine blk_drewN ?_ _ | refine blk_drew ?_ | refine blk_alloc ?_ _)); refine blk_far ?_ NB101_147.out _; (with_reducible repeat (first | refine blk_drewN ?_ _ | refine blk_drew ?_ | refine blk_alloc ?_ _)); refine blk_far ?_ NB101_147.out _; (with_reducible repeat (first | refine blk_drewN ?_ _ | refine blk_drew ?_ | refine blk_alloc ?_ _)); refine blk_far ?_ NB101_147.out _; (with_reducible repeat (first | refine blk_drewN ?_ _ | refine blk_drew ?_ | refine blk_alloc ?_ _)); refine blk_far ?_ NB101_147.out _; (with_reducible repeat (first | refine blk_drewN ?_ _ | refine blk_drew ?_ | refine blk_alloc ?_ _)); exact BK101.out⟩
                    have n3_ : Aside0 ((((((((((w74.setCell ⟨gb147, 0, none⟩ (.int .i64 t137)).setCell ⟨gb147, 1, none⟩ (.int .i64 t138)).setCell ⟨gb147, 2, none⟩ (.int .i64 t139)).setCell ⟨gb147, 3, none⟩ (.int .i64 t140)).setCell ⟨gb147, 4, none⟩ (.int .i64 t141)).setCell ⟨gb147, 5, none⟩ (.string t142)).setCell ⟨gb147, 6, none⟩ (.int .i64 t143)).setCell ⟨gb147, 7, none⟩ (.string t144)).setCell ⟨gb147, 8, none⟩ (.int .i64 t145)).heap[gb102]? = some (.cells #[.int .i64 a1_0, .int .i64 t112, .int .i64 t113, .int .i64 t114, .int .i64 t115, .string a1_5, .int .i64 t116, .string a1_7, .int .i64 t117] 45 (0, 0))) := ⟨by (with_reducible repeat (first | refine blk_drewN ?_ _ | refine blk_drew ?_ | refine blk_alloc ?_ _)); refine blk_far ?_ NB102_147.out _; (with_reducible repeat (first | refine blk_drewN ?_ _ | refine blk_drew ?_ | refine blk_alloc ?_ _)); refine blk_far ?_ NB102_147.out _; (with_reducible repeat (first | refine blk_drewN ?_ _ | refine blk_drew ?_ | refine blk_alloc ?_ _)); refine blk_far ?_ NB102_147.out _; (with_reducible repeat (first | refine blk_drewN ?_ _ | refine blk_drew ?_ | refine blk_alloc ?_ _)); refine blk_far ?_ NB102_147.out _; (with_reducible repeat (first | refine blk_drewN ?_ _ | refine blk_drew ?_ | refine blk_alloc ?_ _)); refine blk_far ?_ NB102_147.out _; (with_reducible repeat (first | refine blk_drewN ?_ _ | refine blk_drew ?_ | refine blk_alloc ?_ _)); refine blk_far ?_ NB102_147.out _; (with_reducible repeat (first | refine blk_drewN ?_ _ | refine blk_drew ?_ | refine blk_alloc ?_ _)); refine blk_far ?_ NB102_147.out _; (with_reducible repeat (first | refine blk_drewN ?_ _ | refine blk_drew ?_ | refine blk_alloc ?_ _)); refine blk_far ?_ NB102_147.out _; (with_reducible repeat (first | refine blk_drewN ?_ _ | refine blk_drew ?_ | refine blk_alloc ?_ _)); refine blk_far ?_ NB102_147.out _; (with_reducible repeat (first | refine blk_drewN ?_ _ | refine blk_drew ?_ | refine blk_alloc ?_ _)); exact BK102.out⟩
                    have n4_ : Aside0 ((((((((((w74.setCell ⟨gb147, 0, none⟩ (.int .i64 t137)).setCell ⟨gb147, 1, none⟩ (.int .i64 t138)).setCell ⟨gb147, 2, none⟩ (.int .i64 t139)).setCell ⟨gb147, 3, none⟩ (.int .i64 t140)).setCell ⟨gb147, 4, none⟩ (.int .i64 t141)).setCell ⟨gb147, 5, none⟩ (.string t142)).setCell ⟨gb147, 6, none⟩ (.int .i64 t143)).setCell ⟨gb147, 7, none⟩ (.string t144)).setCell ⟨gb147, 8, none⟩ (.int .i64 t145)).heap[gb136]? = some (.cells #[.string t124, .int .i64 t125, .int .i64 t126, .int .i64 t127, .int .i64 t128, .string t129, .int .i64 t130, .int .i64 t131, .int .i64 t132, .int .i64 t133, .string t134] 42 (0, 0))) := ⟨by (with_reducible repeat (first | refine blk_drewN ?_ _ | refine blk_drew ?_ | refine blk_alloc ?_ _)); refine blk_far ?_ NB136_147.out _; (with_reducible repeat (first | refine blk_drewN ?_ _ | refine blk_drew ?_ | refine blk_alloc ?_ _)); refine blk_far ?_ NB136_147.out _; (with_reducible repeat (first | refine blk_drewN ?_ _ | refine blk_drew ?_ | refine blk_alloc ?_ _)); refine blk_far ?_ NB136_147.out _; (with_reducible repeat (first | refine blk_drewN ?_ _ | refine blk_drew ?_ | refine blk_alloc ?_ _)); refine blk_far ?_ NB136_147.out _; (with_reducible repeat (first | refine blk_drewN ?_ _ | refine blk_drew ?_ | refine blk_alloc ?_ _)); refine blk_far ?_ NB136_147.out _; (with_reducible repeat (first | refine blk_drewN ?_ _ | refine blk_drew ?_ | refine blk_alloc ?_ _)); refine blk_far ?_ NB136_147.out _; (with_reducible repeat (first | refine blk_drewN ?_ _ | refine blk_drew ?_ | refine blk_alloc ?_ _)); refine blk_far ?_ NB136_147.out _; (with_reducible repeat (first | refine blk_drewN ?_ _ | refine blk_drew ?_ | refine blk_alloc ?_ _)); refine blk_far ?_ NB136_147.out _; (with_reducible repeat (first | refine blk_drewN ?_ _ | refine blk_drew ?_ | refine blk_alloc ?_ _)); refine blk_far ?_ NB136_147.out _; (with_reducible repeat (first | refine blk_drewN ?_ _ | refine blk_drew ?_ | refine blk_alloc ?_ _)); exact BK136.out⟩
                    have n5_ : Aside0 ((((((((((w74.setCell ⟨gb147, 0, none⟩ (.int .i64 t137)).setCell ⟨gb147, 1, none⟩ (.int .i64 t138)).setCell ⟨gb147, 2, none⟩ (.int .i64 t139)).setCell ⟨gb147, 3, none⟩ (.int .i64 t140)).setCell ⟨gb147, 4, none⟩ (.int .i64 t141)).setCell ⟨gb147, 5, none⟩ (.string t142)).setCell ⟨gb147, 6, none⟩ (.int .i64 t143)).setCell ⟨gb147, 7, none⟩ (.string t144)).setCell ⟨gb147, 8, none⟩ (.int .i64 t145)).heap[gb147]? = some (.cells #[.int .i64 t137, .int .i64 t138, .int .i64 t139, .int .i64 t140, .int .i64 t141, .string t142, .int .i64 t143, .string t144, .int .i64 t145] 45 (0, 0))) := ⟨by (with_reducible repeat (first | refine blk_drewN ?_ _ | refine blk_drew ?_ | refine blk_alloc ?_ _)); refine blk_put (cs := #[.int .i64 t137, .int .i64 t138, .int .i64 t139, .int .i64 t140, .int .i64 t141, .string t142, .int .i64 t143, .string t144, .int .i64 0]) ?_ 8 _ rfl; (with_reducible repeat (first | refine blk_drewN ?_ _ | refine blk_drew ?_ | refine blk_alloc ?_ _)); refine blk_put (cs := #[.int .i64 t137, .int .i64 t138, .int .i64 t139, .int .i64 t140, .int .i64 t141, .string t142, .int .i64 t143, .string (⟨#[]⟩ : ByteArray), .int .i64 0]) ?_ 7 _ rfl; (with_reducible repeat (first | refine blk_drewN ?_ _ | refine blk_drew ?_ | refine blk_alloc ?_ _)); refine blk_put (cs := #[.int .i64 t137, .int .i64 t138, .int .i64 t139, .int .i64 t140, .int .i64 t141, .string t142, .int .i64 0, .string (⟨#[]⟩ : ByteArray), .int .i64 0]) ?_ 6 _ rfl; (with_reducible repeat (first | refine blk_drewN ?_ _ | refine blk_drew ?_ | refine blk_alloc ?_ _)); refine blk_put (cs := #[.int .i64 t137, .int .i64 t138, .int .i64 t139, .int .i64 t140, .int .i64 t141, .string (⟨#[]⟩ : ByteArray), .int .i64 0, .string (⟨#[]⟩ : ByteArray), .int .i64 0]) ?_ 5 _ rfl; (with_reducible repeat (first | refine blk_drewN ?_ _ | refine blk_drew ?_ | refine blk_alloc ?_ _)); refine blk_put (cs := #[.int .i64 t137, .int .i64 t138, .int .i64 t139, .int .i64 t140, .int .i64 0, .string (⟨#[]⟩ : ByteArray), .int .i64 0, .string (⟨#[]⟩ : ByteArray), .int .i64 0]) ?_ 4 _ rfl; (with_reducible repeat (first | refine blk_drewN ?_ _ | refine blk_drew ?_ | refine blk_alloc ?_ _)); refine blk_put (cs := #[.int .i64 t137, .int .i64 t138, .int .i64 t139, .int .i64 0, .int .i64 0, .string (⟨#[]⟩ : ByteArray), .int .i64 0, .string (⟨#[]⟩ : ByteArray), .int .i64 0]) ?_ 3 _ rfl; (with_reducible repeat (first | refine blk_drewN ?_ _ | refine blk_drew ?_ | refine blk_alloc ?_ _)); refine blk_put (cs := #[.int .i64 t137, .int .i64 t138, .int .i64 0, .int .i64 0, .int .i64 0, .string (⟨#[]⟩ : ByteArray), .int .i64 0, .string (⟨#[]⟩ : ByteArray), .int .i64 0]) ?_ 2 _ rfl; (with_reducible repeat (first | refine blk_drewN ?_ _ | refine blk_drew ?_ | refine blk_alloc ?_ _)); refine blk_put (cs := #[.int .i64 t137, .int .i64 0, .int .i64 0, .int .i64 0, .int .i64 0, .string (⟨#[]⟩ : ByteArray), .int .i64 0, .string (⟨#[]⟩ : ByteArray), .int .i64 0]) ?_ 1 _ rfl; (with_reducible repeat (first | refine blk_drewN ?_ _ | refine blk_drew ?_ | refine blk_alloc ?_ _)); refine blk_put (cs := #[.int .i64 0, .int .i64 0, .int .i64 0, .int .i64 0, .int .i64 0, .string (⟨#[]⟩ : ByteArray), .int .i64 0, .string (⟨#[]⟩ : ByteArray), .int .i64 0]) ?_ 0 _ rfl; (with_reducible repeat (first | refine blk_drewN ?_ _ | refine blk_drew ?_ | refine blk_alloc ?_ _)); exact BK147.out⟩
                    have n6_ : Aside0 (Below w.heap.size w (((((((((w74.setCell ⟨gb147, 0, none⟩ (.int .i64 t137)).setCell ⟨gb147, 1, none⟩ (.int .i64 t138)).setCell ⟨gb147, 2, none⟩ (.int .i64 t139)).setCell ⟨gb147, 3, none⟩ (.int .i64 t140)).setCell ⟨gb147, 4, none⟩ (.int .i64 t141)).setCell ⟨gb147, 5, none⟩ (.string t142)).setCell ⟨gb147, 6, none⟩ (.int .i64 t143)).setCell ⟨gb147, 7, none⟩ (.string t144)).setCell ⟨gb147, 8, none⟩ (.int .i64 t145))) := ⟨by repeat (first | (with_reducible first | exact HB.out | apply below_alloc | apply pw_below_drewN | apply below_drew1 | refine below_set ?_ GE101.out | refine below_set ?_ GE102.out | refine below_set ?_ GE136.out | refine below_set ?_ GE147.out) | exact HB.out)⟩
                    (try clear HO120)
                    (try clear HO123)
                    (try clear BK101)
                    (try clear BK102)
                    (try clear BK136)
                    (try clear BK147)
                    (try clear HB)
                    generalize (((((((((w74.setCell ⟨gb147, 0, none⟩ (.int .i64 t137)).setCell ⟨gb147, 1, none⟩ (.int .i64 t138)).setCell ⟨gb147, 2, none⟩ (.int .i64 t139)).setCell ⟨gb147, 3, none⟩ (.int .i64 t140)).setCell ⟨gb147, 4, none⟩ (.int .i64 t141)).setCell ⟨gb147, 5, none⟩ (.string t142)).setCell ⟨gb147, 6, none⟩ (.int .i64 t143)).setCell ⟨gb147, 7, none⟩ (.string t144)).setCell ⟨gb147, 8, none⟩ (.int .i64 t145)) = w79 at n0_ n1_ n2_ n3_ n4_ n5_ n6_ ⊢
                    have HO120 := n0_
                    have HO123 := n1_
                    have BK101 := n2_
                    have BK102 := n3_
                    have BK136 := n4_
                    have BK147 := n5_
                    have HB := n6_
                    clear n0_ n1_ n2_ n3_ n4_ n5_ n6_
                    have n0_ := Aside0.mk (Kd.R_drew HO120.out)
                    have n1_ := Aside0.mk (Kd.R_drew HO123.out)
                    have n2_ := Aside0.mk (blk_drew BK101.out)
                    have n3_ := Aside0.mk (blk_drew BK102.out)
                    have n4_ := Aside0.mk (blk_drew BK136.out)
                    have n5_ := Aside0.mk (blk_drew BK147.out)
                    have n6_ := Aside0.mk (below_drew1 HB.out)
                    clear HO120
                    clear HO123
                    clear BK101
                    clear BK102
                    clear BK136
                    clear BK147
                    clear HB
                    have HO120 := n0_
                    have HO123 := n1_
                    have BK101 := n2_
                    have BK102 := n3_
                    have BK136 := n4_
                    have BK147 := n5_
                    have HB := n6_
                    clear n0_ n1_ n2_ n3_ n4_ n5_ n6_
                    refine start_ (n := 33) (S := fun w' => w'.cell? ⟨gb101, 0, none⟩ = some (.string a0_0) ∧ w'.cell? ⟨gb101, 1, none⟩ = some (.int .i64 t104) ∧ w'.cell? ⟨gb101, 2, none⟩ = some (.int .i64 t105) ∧ w'.cell? ⟨gb101, 3, none⟩ = some (.int .i64 t106) ∧ w'.cell? ⟨gb101, 4, none⟩ = some (.int .i64 t107) ∧ w'.cell? ⟨gb101, 5, none⟩ = some (.string a0_5) ∧ w'.cell? ⟨gb101, 6, none⟩ = some (.int .i64 t108) ∧ w'.cell? ⟨gb101, 7, none⟩ = some (.int .i64 t109) ∧ w'.cell? ⟨gb101, 8, none⟩ = some (.int .i64 t110) ∧ w'.cell? ⟨gb101, 9, none⟩ = some (.int .i64 t111) ∧ w'.cell? ⟨gb101, 10, none⟩ = some (.string a0_10) ∧ w'.cell? ⟨gb102, 0, none⟩ = some (.int .i64 a1_0) ∧ w'.cell? ⟨gb102, 1, none⟩ = some (.int .i64 t112) ∧ w'.cell? ⟨gb102, 2, none⟩ = some (.int .i64 t113) ∧ w'.cell? ⟨gb102, 3, none⟩ = some (.int .i64 t114) ∧ w'.cell? ⟨gb102, 4, none⟩ = some (.int .i64 t115) ∧ w'.cell? ⟨gb102, 5, none⟩ = some (.string a1_5) ∧ w'.cell? ⟨gb102, 6, none⟩ = some (.int .i64 t116) ∧ w'.cell? ⟨gb102, 7, none⟩ = some (.string a1_7) ∧ w'.cell? ⟨gb102, 8, none⟩ = some (.int .i64 t117) ∧ w'.cell? ⟨gb136, 0, none⟩ = some (.string t124) ∧ w'.cell? ⟨gb136, 1, none⟩ = some (.int .i64 t125) ∧ w'.cell? ⟨gb136, 2, none⟩ = some (.int .i64 t126) ∧ w'.cell? ⟨gb136, 3, none⟩ = some (.int .i64 t127) ∧ w'.cell? ⟨gb136, 4, none⟩ = some (.int .i64 t128) ∧ w'.cell? ⟨gb136, 5, none⟩ = some (.string t129) ∧ w'.cell? ⟨gb136, 6, none⟩ = some (.int .i64 t130) ∧ w'.cell? ⟨gb136, 7, none⟩ = some (.int .i64 t131) ∧ w'.cell? ⟨gb136, 8, none⟩ = some (.int .i64 t132) ∧ w'.cell? ⟨gb136, 9, none⟩ = some (.int .i64 t133) ∧ w'.cell? ⟨gb136, 10, none⟩ = some (.string t134) ∧ w'.cell? ⟨gb147, 0, none⟩ = some (.int .i64 t137) ∧ w'.cell? ⟨gb147, 1, none⟩ = some (.int .i64 t138) ∧ w'.cell? ⟨gb147, 2, none⟩ = some (.int .i64 t139) ∧ w'.cell? ⟨gb147, 3, none⟩ = some (.int .i64 t140) ∧ w'.cell? ⟨gb147, 4, none⟩ = some (.int .i64 t141) ∧ w'.cell? ⟨gb147, 5, none⟩ = some (.string t142) ∧ w'.cell? ⟨gb147, 6, none⟩ = some (.int .i64 t143) ∧ w'.cell? ⟨gb147, 7, none⟩ = some (.string t144) ∧ w'.cell? ⟨gb147, 8, none⟩ = some (.int .i64 t145) ∧ (convert 38 9 (.slice Ao66 t118.length co66)).run Try.prog w' = .ok (.string (strOfNums t118)) w' ∧ (convert 38 9 (.slice Ao72 t121.length co72)).run Try.prog w' = .ok (.string (strOfNums t121)) w') (ds := []) #[false, false, false, false, false, false, false, false, false, false, false, false, false, false, false, false, false, false, false, false, false, false, false, false, false, false, false, false, false, false, false, false, false] (by kernel_rfl) rfl rfl ⟨(blk_cell BK101.out 0).trans rfl, (blk_cell BK101.out 1).trans rfl, (blk_cell BK101.out 2).trans rfl, (blk_cell BK101.out 3).trans rfl, (blk_cell BK101.out 4).trans rfl, (blk_cell BK101.out 5).trans rfl, (blk_cell BK101.out 6).trans rfl, (blk_cell BK101.out 7).trans rfl, (blk_cell BK101.out 8).trans rfl, (blk_cell BK101.out 9).trans rfl, (blk_cell BK101.out 10).trans rfl, (blk_cell BK102.out 0).trans rfl, (blk_cell BK102.out 1).trans rfl, (blk_cell BK102.out 2).trans rfl, (blk_cell BK102.out 3).trans rfl, (blk_cell BK102.out 4).trans rfl, (blk_cell BK102.out 5).trans rfl, (blk_cell BK102.out 6).trans rfl, (blk_cell BK102.out 7).trans rfl, (blk_cell BK102.out 8).trans rfl, (blk_cell BK136.out 0).trans rfl, (blk_cell BK136.out 1).trans rfl, (blk_cell BK136.out 2).trans rfl, (blk_cell BK136.out 3).trans rfl, (blk_cell BK136.out 4).trans rfl, (blk_cell BK136.out 5).trans rfl, (blk_cell BK136.out 6).trans rfl, (blk_cell BK136.out 7).trans rfl, (blk_cell BK136.out 8).trans rfl, (blk_cell BK136.out 9).trans rfl, (blk_cell BK136.out 10).trans rfl, (blk_cell BK147.out 0).trans rfl, (blk_cell BK147.out 1).trans rfl, (blk_cell BK147.out 2).trans rfl, (blk_cell BK147.out 3).trans rfl, (blk_cell BK147.out 4).trans rfl, (blk_cell BK147.out 5).trans rfl, (blk_cell BK147.out 6).trans rfl, (blk_cell BK147.out 7).trans rfl, (blk_cell BK147.out 8).trans rfl, own_string (P := Try.prog) Try.underlying38 Try.underlying5 Try.underlying9 (Kd.own_of_R HO120.out), own_string (P := Try.prog) Try.underlying38 Try.underlying5 Try.underlying9 (Kd.own_of_R HO123.out)⟩ (fun hHeld => ?_); refine with_tabW donjonlaw10_NodeOthers.tab10 donjonlaw10_NodeOthers.bits10 (fun HT_ HW_ => ?_)
                    generalize w79.drew = w80 at HO120 HO123 BK101 BK102 BK136 BK147 HB hHeld ⊢
                    refine pure_ (i := 0) (N := some 75) (v := ?_) (a' := ?_) #[true, false, false, false, false, false, false, false, false, false, false, false, false, false, false, false, false, false, false, false, false, false, false, false, false, false, false, false, false, false, false, false, false] rfl rfl (any_of HT_.out (by kernel_rfl)) (fun _ _ _ h => h) (Or.inl ⟨by rfl, ?_⟩) ?_ ?_
                    rotate_left
                    · intro w'
                      go_simp
                      with_reducible rfl
                    rotate_left
                    · simp only [Act.put, List.setIfInBounds_toArray, List.set_cons_zero, List.set_cons_succ, i64_w, i32_w]
                      rfl
                    refine take_ (i := 1) (N := some 76) (v := ?_) (a' := ?_) #[true, true, false, false, false, false, false, false, false, false, false, false, false, false, false, false, false, false, false, false, false, false, false, false, false, false, false, false, false, false, false, false, false] rfl rfl (take_ofW HT_.out HW_.out (by kernel_rfl)) (fun _ _ _ h => h) (Or.inl ⟨by rfl, ?_⟩) hHeld ?_ ?_
                    rotate_left
                    · rintro w' ⟨s0, s1, s2, s3, s4, s5, s6, s7, s8, s9, s10, s11, s12, s13, s14, s15, s16, s17, s18, s19, s20, s21, s22, s23, s24, s25, s26, s27, s28, s29, s30, s31, s32, s33, s34, s35, s36, s37, s38, s39, s40, s41⟩
                      go_simp
                      with_reducible rfl
                    rotate_left
                    · simp only [Act.put, List.setIfInBounds_toArray, List.set_cons_zero, List.set_cons_succ, i64_w, i32_w]
                      rfl
                    refine take_ (i := 2) (N := some 77) (v := ?_) (a' := ?_) #[true, true, true, false, false, false, false, false, false, false, false, false, false, false, false, false, false, false, false, false, false, false, false, false, false, false, false, false, false, false, false, false, false] rfl rfl (take_ofW HT_.out HW_.out (by kernel_rfl)) (fun _ _ _ h => h) (Or.inl ⟨by rfl, ?_⟩) hHeld ?_ ?_
                    rotate_left
                    · rintro w' ⟨s0, s1, s2, s3, s4, s5, s6, s7, s8, s9, s10, s11, s12, s13, s14, s15, s16, s17, s18, s19, s20, s21, s22, s23, s24, s25, s26, s27, s28, s29, s30, s31, s32, s33, s34, s35, s36, s37, s38, s39, s40, s41⟩
                      go_simp
                      with_reducible rfl
                    rotate_left
                    · simp only [Act.put, List.setIfInBounds_toArray, List.set_cons_zero, List.set_cons_succ, i64_w, i32_w]
                      rfl
                    refine one_ (i := 3) (N := some 78) #[true, true, true, true, false, false, false, false, false, false, false, false, false, false, false, false, false, false, false, false, false, false, false, false, false, false, false, false, false, false, false, false, false] rfl rfl (one_of HT_.out (by kernel_rfl)) (by decide) (fun K hK => ?_)
                    refine goes_ Try.func17 (by kernel_rfl) rfl #[.agg #[.string a0_0, .int .i64 t104, .int .i64 t105, .int .i64 t106, .int .i64 t107, .string a0_5, .int .i64 t108, .int .i64 t109, .int .i64 t110, .int .i64 t111, .string a0_10]] (by rfl) rfl rfl (by (try simp only [List.map_toArray, List.map_cons, List.map_nil]); first | done | rfl | (simp only [List.length_drop, List.length_take]; rfl)) ?_
                    with_reducible refine (donjonref10_EncodeMessage.calls a0_0 t104 t105 t106 t107 a0_5 t108 t109 t110 t111 a0_10 t148 _ A35.out).mono ?_
                    rintro e w82 ⟨v149, rfl, ho0, hb⟩
                    refine ⟨_, rfl, ?_⟩
                    have n0_ := Aside0.mk (Kd.R_elder' (by (with_reducible repeat (first | apply Kd.R_alloc | apply Kd.R_drewN | apply Kd.R_drew)); exact HO120.out) (Kd.R_base ho0) hb)
                    have n1_ := Aside0.mk (Kd.R_elder' (by (with_reducible repeat (first | apply Kd.R_alloc | apply Kd.R_drewN | apply Kd.R_drew)); exact HO123.out) (Kd.R_base ho0) hb)
                    have n2_ := Aside0.mk (Kd.R_lower (Kd.R_new' (Kd.R_new' ho0 (Kd.R_lt (by (with_reducible repeat (first | apply Kd.R_alloc | apply Kd.R_drewN | apply Kd.R_drew)); exact HO120.out))) (Kd.R_lt (by (with_reducible repeat (first | apply Kd.R_alloc | apply Kd.R_drewN | apply Kd.R_drew)); exact HO123.out))) (below_size (by repeat (first | (with_reducible first | exact HB.out | apply below_alloc | apply pw_below_drewN | apply below_drew1 | refine below_set ?_ GE101.out | refine below_set ?_ GE102.out | refine below_set ?_ GE136.out | refine below_set ?_ GE147.out) | exact HB.out))))
                    have n3_ := Aside0.mk (blk_below (g := gb101) (o := .cells #[.string a0_0, .int .i64 t104, .int .i64 t105, .int .i64 t106, .int .i64 t107, .string a0_5, .int .i64 t108, .int .i64 t109, .int .i64 t110, .int .i64 t111, .string a0_10] 42 (0, 0)) (by (with_reducible repeat (first | refine blk_drewN ?_ _ | refine blk_drew ?_ | refine blk_alloc ?_ _)); exact BK101.out) hb)
                    have n4_ := Aside0.mk (blk_below (g := gb102) (o := .cells #[.int .i64 a1_0, .int .i64 t112, .int .i64 t113, .int .i64 t114, .int .i64 t115, .string a1_5, .int .i64 t116, .string a1_7, .int .i64 t117] 45 (0, 0)) (by (with_reducible repeat (first | refine blk_drewN ?_ _ | refine blk_drew ?_ | refine blk_alloc ?_ _)); exact BK102.out) hb)
                    have n5_ := Aside0.mk (blk_below (g := gb136) (o := .cells #[.string t124, .int .i64 t125, .int .i64 t126, .int .i64 t127, .int .i64 t128, .string t129, .int .i64 t130, .int .i64 t131, .int .i64 t132, .int .i64 t133, .string t134] 42 (0, 0)) (by (with_reducible repeat (first | refine blk_drewN ?_ _ | refine blk_drew ?_ | refine blk_alloc ?_ _)); exact BK136.out) hb)
                    have n6_ := Aside0.mk (blk_below (g := gb147) (o := .cells #[.int .i64 t137, .int .i64 t138, .int .i64 t139, .int .i64 t140, .int .i64 t141, .string t142, .int .i64 t143, .string t144, .int .i64 t145] 45 (0, 0)) (by (with_reducible repeat (first | refine blk_drewN ?_ _ | refine blk_drew ?_ | refine blk_alloc ?_ _)); exact BK147.out) hb)
                    have n7_ := Aside0.mk (below_step (by repeat (first | (with_reducible first | exact HB.out | apply below_alloc | apply pw_below_drewN | apply below_drew1 | refine below_set ?_ GE101.out | refine below_set ?_ GE102.out | refine below_set ?_ GE136.out | refine below_set ?_ GE147.out) | exact HB.out)) hb)
                    clear HO120
                    clear HO123
                    clear BK101
                    clear BK102
                    clear BK136
                    clear BK147
                    clear HB
                    have HO120 := n0_
                    have HO123 := n1_
                    have HO150 := n2_
                    have BK101 := n3_
                    have BK102 := n4_
                    have BK136 := n5_
                    have BK147 := n6_
                    have HB := n7_
                    clear n0_ n1_ n2_ n3_ n4_ n5_ n6_ n7_
                    (try clear hb)
                    (try clear hb2)
                    (try clear hk)
                    (try clear hi)
                    (try clear ho0)
                    refine hK.out _ _ ⟨(blk_cell BK101.out 0).trans rfl, (blk_cell BK101.out 1).trans rfl, (blk_cell BK101.out 2).trans rfl, (blk_cell BK101.out 3).trans rfl, (blk_cell BK101.out 4).trans rfl, (blk_cell BK101.out 5).trans rfl, (blk_cell BK101.out 6).trans rfl, (blk_cell BK101.out 7).trans rfl, (blk_cell BK101.out 8).trans rfl, (blk_cell BK101.out 9).trans rfl, (blk_cell BK101.out 10).trans rfl, (blk_cell BK102.out 0).trans rfl, (blk_cell BK102.out 1).trans rfl, (blk_cell BK102.out 2).trans rfl, (blk_cell BK102.out 3).trans rfl, (blk_cell BK102.out 4).trans rfl, (blk_cell BK102.out 5).trans rfl, (blk_cell BK102.out 6).trans rfl, (blk_cell BK102.out 7).trans rfl, (blk_cell BK102.out 8).trans rfl, (blk_cell BK136.out 0).trans rfl, (blk_cell BK136.out 1).trans rfl, (blk_cell BK136.out 2).trans rfl, (blk_cell BK136.out 3).trans rfl, (blk_cell BK136.out 4).trans rfl, (blk_cell BK136.out 5).trans rfl, (blk_cell BK136.out 6).trans rfl, (blk_cell BK136.out 7).trans rfl, (blk_cell BK136.out 8).trans rfl, (blk_cell BK136.out 9).trans rfl, (blk_cell BK136.out 10).trans rfl, (blk_cell BK147.out 0).trans rfl, (blk_cell BK147.out 1).trans rfl, (blk_cell BK147.out 2).trans rfl, (blk_cell BK147.out 3).trans rfl, (blk_cell BK147.out 4).trans rfl, (blk_cell BK147.out 5).trans rfl, (blk_cell BK147.out 6).trans rfl, (blk_cell BK147.out 7).trans rfl, (blk_cell BK147.out 8).trans rfl, own_string (P := Try.prog) Try.underlying38 Try.underlying5 Try.underlying9 (Kd.own_of_R HO120.out), own_string (P := Try.prog) Try.underlying38 Try.underlying5 Try.underlying9 (Kd.own_of_R HO123.out)⟩ (fun hHeld => ?_)
                    clear hK K
                    refine norm_ (a' := ?_) ?_ ?_
                    rotate_left
                    · show Act.put _ (some 78) _ = _
                      simp only [Act.put, List.setIfInBounds_toArray, List.set_cons_zero, List.set_cons_succ, i64_w, i32_w]
                      rfl
                    refine one_ (i := 4) (N := some 79) #[true, true, true, true, true, false, false, false, false, false, false, false, false, false, false, false, false, false, false, false, false, false, false, false, false, false, false, false, false, false, false, false, false] rfl rfl (one_of HT_.out (by kernel_rfl)) (by decide) (fun K hK => ?_)
                    have hcv83 := own_string (P := Try.prog) Try.underlying38 Try.underlying5 Try.underlying9 (Kd.own_of_R HO150.out)
                    refine value_ (w1 := ?_) (v := ?_) (by rfl) rfl ?_ ?_
                    rotate_left 2
                    · go_simp
                      constructor
                      · rfl
                      · rfl
                    clear hcv83
                    refine hK.out _ _ ⟨(blk_cell BK101.out 0).trans rfl, (blk_cell BK101.out 1).trans rfl, (blk_cell BK101.out 2).trans rfl, (blk_cell BK101.out 3).trans rfl, (blk_cell BK101.out 4).trans rfl, (blk_cell BK101.out 5).trans rfl, (blk_cell BK101.out 6).trans rfl, (blk_cell BK101.out 7).trans rfl, (blk_cell BK101.out 8).trans rfl, (blk_cell BK101.out 9).trans rfl, (blk_cell BK101.out 10).trans rfl, (blk_cell BK102.out 0).trans rfl, (blk_cell BK102.out 1).trans rfl, (blk_cell BK102.out 2).trans rfl, (blk_cell BK102.out 3).trans rfl, (blk_cell BK102.out 4).trans rfl, (blk_cell BK102.out 5).trans rfl, (blk_cell BK102.out 6).trans rfl, (blk_cell BK102.out 7).trans rfl, (blk_cell BK102.out 8).trans rfl, (blk_cell BK136.out 0).trans rfl, (blk_cell BK136.out 1).trans rfl, (blk_cell BK136.out 2).trans rfl, (blk_cell BK136.out 3).trans rfl, (blk_cell BK136.out 4).trans rfl, (blk_cell BK136.out 5).trans rfl, (blk_cell BK136.out 6).trans rfl, (blk_cell BK136.out 7).trans rfl, (blk_cell BK136.out 8).trans rfl, (blk_cell BK136.out 9).trans rfl, (blk_cell BK136.out 10).trans rfl, (blk_cell BK147.out 0).trans rfl, (blk_cell BK147.out 1).trans rfl, (blk_cell BK147.out 2).trans rfl, (blk_cell BK147.out 3).trans rfl, (blk_cell BK147.out 4).trans rfl, (blk_cell BK147.out 5).trans rfl, (blk_cell BK147.out 6).trans rfl, (blk_cell BK147.out 7).trans rfl, (blk_cell BK147.out 8).trans rfl, own_string (P := Try.prog) Try.underlying38 Try.underlying5 Try.underlying9 (Kd.own_of_R HO120.out), own_string (P := Try.prog) Try.underlying38 Try.underlying5 Try.underlying9 (Kd.own_of_R HO123.out)⟩ (fun hHeld => ?_)
                    clear hK K
                    refine norm_ (a' := ?_) ?_ ?_
                    rotate_left
                    · show Act.put _ (some 79) _ = _
                      simp only [Act.put, List.setIfInBounds_toArray, List.set_cons_zero, List.set_cons_succ, i64_w, i32_w]
                      rfl
                    refine pure_ (i := 5) (N := some 80) (v := ?_) (a' := ?_) #[true, true, true, true, true, true, false, false, false, false, false, false, false, false, false, false, false, false, false, false, false, false, false, false, false, false, false, false, false, false, false, false, false] rfl rfl (any_of HT_.out (by kernel_rfl)) (fun _ _ _ h => h) (Or.inl ⟨by rfl, ?_⟩) ?_ ?_
                    rotate_left
                    · intro w'
                      go_simp
                      with_reducible rfl
                    rotate_left
                    · simp only [Act.put, List.setIfInBounds_toArray, List.set_cons_zero, List.set_cons_succ, i64_w, i32_w]
                      rfl
                    refine pure_ (i := 6) (N := some 81) (v := ?_) (a' := ?_) #[true, true, true, true, true, true, true, false, false, false, false, false, false, false, false, false, false, false, false, false, false, false, false, false, false, false, false, false, false, false, false, false, false] rfl rfl (any_of HT_.out (by kernel_rfl)) (fun _ _ _ h => h) (Or.inl ⟨by rfl, ?_⟩) ?_ ?_
                    rotate_left
                    · intro w'
                      go_simp
                      with_reducible rfl
                    rotate_left
                    · simp only [Act.put, List.setIfInBounds_toArray, List.set_cons_zero, List.set_cons_succ, i64_w, i32_w]
                      rfl
                    refine pure_ (i := 7) (N := some 82) (v := ?_) (a' := ?_) #[true, true, true, true, true, true, true, true, false, false, false, false, false, false, false, false, false, false, false, false, false, false, false, false, false, false, false, false, false, false, false, false, false] rfl rfl (any_of HT_.out (by kernel_rfl)) (fun _ _ _ h => h) (Or.inl ⟨by rfl, ?_⟩) ?_ ?_
                    rotate_left
                    · intro w'
                      go_simp
                      with_reducible rfl
                    rotate_left
                    · simp only [Act.put, List.setIfInBounds_toArray, List.set_cons_zero, List.set_cons_succ, i64_w, i32_w]
                      rfl
                    refine take_ (i := 8) (N := some 83) (v := ?_) (a' := ?_) #[true, true, true, true, true, true, true, true, true, false, false, false, false, false, false, false, false, false, false, false, false, false, false, false, false, false, false, false, false, false, false, false, false] rfl rfl (take_ofW HT_.out HW_.out (by kernel_rfl)) (fun _ _ _ h => h) (Or.inl ⟨by rfl, ?_⟩) hHeld ?_ ?_
                    rotate_left
                    · rintro w' ⟨s0, s1, s2, s3, s4, s5, s6, s7, s8, s9, s10, s11, s12, s13, s14, s15, s16, s17, s18, s19, s20, s21, s22, s23, s24, s25, s26, s27, s28, s29, s30, s31, s32, s33, s34, s35, s36, s37, s38, s39, s40, s41⟩
                      go_simp
                      with_reducible rfl
                    rotate_left
                    · simp only [Act.put, List.setIfInBounds_toArray, List.set_cons_zero, List.set_cons_succ, i64_w, i32_w]
                      rfl
                    refine take_ (i := 9) (N := some 84) (v := ?_) (a' := ?_) #[true, true, true, true, true, true, true, true, true, true, false, false, false, false, false, false, false, false, false, false, false, false, false, false, false, false, false, false, false, false, false, false, false] rfl rfl (take_ofW HT_.out HW_.out (by kernel_rfl)) (fun _ _ _ h => h) (Or.inl ⟨by rfl, ?_⟩) hHeld ?_ ?_
                    rotate_left
                    · rintro w' ⟨s0, s1, s2, s3, s4, s5, s6, s7, s8, s9, s10, s11, s12, s13, s14, s15, s16, s17, s18, s19, s20, s21, s22, s23, s24, s25, s26, s27, s28, s29, s30, s31, s32, s33, s34, s35, s36, s37, s38, s39, s40, s41⟩
                      go_simp
                      with_reducible rfl
                    rotate_left
                    · simp only [Act.put, List.setIfInBounds_toArray, List.set_cons_zero, List.set_cons_succ, i64_w, i32_w]
                      rfl
                    refine one_ (i := 10) (N := some 85) #[true, true, true, true, true, true, true, true, true, true, true, false, false, false, false, false, false, false, false, false, false, false, false, false, false, false, false, false, false, false, false, false, false] rfl rfl (one_of HT_.out (by kernel_rfl)) (by decide) (fun K hK => ?_)
                    refine goes_ Try.func18 (by kernel_rfl) rfl #[.agg #[.int .i64 a1_0, .int .i64 t112, .int .i64 t113, .int .i64 t114, .int .i64 t115, .string a1_5, .int .i64 t116, .string a1_7, .int .i64 t117]] (by rfl) rfl rfl (by (try simp only [List.map_toArray, List.map_cons, List.map_nil]); first | done | rfl | (simp only [List.length_drop, List.length_take]; rfl)) ?_
                    with_reducible refine (donjonref10_EncodeEntry.calls kj4 a1_0 t112 t113 t114 t115 a1_5 t116 a1_7 t117 t151 _ A37.out).mono ?_
                    rintro e w85 ⟨v152, rfl, ho0, hb⟩
                    refine ⟨_, rfl, ?_⟩
                    have n0_ := Aside0.mk (Kd.R_elder' (by (with_reducible repeat (first | apply Kd.R_alloc | apply Kd.R_drewN | apply Kd.R_drew)); exact HO120.out) (Kd.R_base ho0) hb)
                    have n1_ := Aside0.mk (Kd.R_elder' (by (with_reducible repeat (first | apply Kd.R_alloc | apply Kd.R_drewN | apply Kd.R_drew)); exact HO123.out) (Kd.R_base ho0) hb)
                    have n2_ := Aside0.mk (Kd.R_elder' (by (with_reducible repeat (first | apply Kd.R_alloc | apply Kd.R_drewN | apply Kd.R_drew)); exact HO150.out) (Kd.R_base ho0) hb)
                    have n3_ := Aside0.mk (Kd.R_lower (Kd.R_new' (Kd.R_new' (Kd.R_new' ho0 (Kd.R_lt (by (with_reducible repeat (first | apply Kd.R_alloc | apply Kd.R_drewN | apply Kd.R_drew)); exact HO120.out))) (Kd.R_lt (by (with_reducible repeat (first | apply Kd.R_alloc | apply Kd.R_drewN | apply Kd.R_drew)); exact HO123.out))) (Kd.R_lt (by (with_reducible repeat (first | apply Kd.R_alloc | apply Kd.R_drewN | apply Kd.R_drew)); exact HO150.out))) (below_size (by repeat (first | (with_reducible first | exact HB.out | apply below_alloc | apply pw_below_drewN | apply below_drew1 | refine below_set ?_ GE101.out | refine below_set ?_ GE102.out | refine below_set ?_ GE136.out | refine below_set ?_ GE147.out) | exact HB.out))))
                    have n4_ := Aside0.mk (blk_below (g := gb101) (o := .cells #[.string a0_0, .int .i64 t104, .int .i64 t105, .int .i64 t106, .int .i64 t107, .string a0_5, .int .i64 t108, .int .i64 t109, .int .i64 t110, .int .i64 t111, .string a0_10] 42 (0, 0)) (by (with_reducible repeat (first | refine blk_drewN ?_ _ | refine blk_drew ?_ | refine blk_alloc ?_ _)); exact BK101.out) hb)
                    have n5_ := Aside0.mk (blk_below (g := gb102) (o := .cells #[.int .i64 a1_0, .int .i64 t112, .int .i64 t113, .int .i64 t114, .int .i64 t115, .string a1_5, .int .i64 t116, .string a1_7, .int .i64 t117] 45 (0, 0)) (by (with_reducible repeat (first | refine blk_drewN ?_ _ | refine blk_drew ?_ | refine blk_alloc ?_ _)); exact BK102.out) hb)
                    have n6_ := Aside0.mk (blk_below (g := gb136) (o := .cells #[.string t124, .int .i64 t125, .int .i64 t126, .int .i64 t127, .int .i64 t128, .string t129, .int .i64 t130, .int .i64 t131, .int .i64 t132, .int .i64 t133, .string t134] 42 (0, 0)) (by (with_reducible repeat (first | refine blk_drewN ?_ _ | refine blk_drew ?_ | refine blk_alloc ?_ _)); exact BK136.out) hb)
                    have n7_ := Aside0.mk (blk_below (g := gb147) (o := .cells #[.int .i64 t137, .int .i64 t138, .int .i64 t139, .int .i64 t140, .int .i64 t141, .string t142, .int .i64 t143, .string t144, .int .i64 t145] 45 (0, 0)) (by (with_reducible repeat (first | refine blk_drewN ?_ _ | refine blk_drew ?_ | refine blk_alloc ?_ _)); exact BK147.out) hb)
                    have n8_ := Aside0.mk (below_step (by repeat (first | (with_reducible first | exact HB.out | apply below_alloc | apply pw_below_drewN | apply below_drew1 | refine below_set ?_ GE101.out | refine below_set ?_ GE102.out | refine below_set ?_ GE136.out | refine below_set ?_ GE147.out) | exact HB.out)) hb)
                    clear HO120
                    clear HO123
                    clear HO150
                    clear BK101
                    clear BK102
                    clear BK136
                    clear BK147
                    clear HB
                    have HO120 := n0_
                    have HO123 := n1_
                    have HO150 := n2_
                    have HO153 := n3_
                    have BK101 := n4_
                    have BK102 := n5_
                    have BK136 := n6_
                    have BK147 := n7_
                    have HB := n8_
                    clear n0_ n1_ n2_ n3_ n4_ n5_ n6_ n7_ n8_
                    (try clear hb)
                    (try clear hb2)
                    (try clear hk)
                    (try clear hi)
                    (try clear ho0)
                    refine hK.out _ _ ⟨(blk_cell BK101.out 0).trans rfl, (blk_cell BK101.out 1).trans rfl, (blk_cell BK101.out 2).trans rfl, (blk_cell BK101.out 3).trans rfl, (blk_cell BK101.out 4).trans rfl, (blk_cell BK101.out 5).trans rfl, (blk_cell BK101.out 6).trans rfl, (blk_cell BK101.out 7).trans rfl, (blk_cell BK101.out 8).trans rfl, (blk_cell BK101.out 9).trans rfl, (blk_cell BK101.out 10).trans rfl, (blk_cell BK102.out 0).trans rfl, (blk_cell BK102.out 1).trans rfl, (blk_cell BK102.out 2).trans rfl, (blk_cell BK102.out 3).trans rfl, (blk_cell BK102.out 4).trans rfl, (blk_cell BK102.out 5).trans rfl, (blk_cell BK102.out 6).trans rfl, (blk_cell BK102.out 7).trans rfl, (blk_cell BK102.out 8).trans rfl, (blk_cell BK136.out 0).trans rfl, (blk_cell BK136.out 1).trans rfl, (blk_cell BK136.out 2).trans rfl, (blk_cell BK136.out 3).trans rfl, (blk_cell BK136.out 4).trans rfl, (blk_cell BK136.out 5).trans rfl, (blk_cell BK136.out 6).trans rfl, (blk_cell BK136.out 7).trans rfl, (blk_cell BK136.out 8).trans rfl, (blk_cell BK136.out 9).trans rfl, (blk_cell BK136.out 10).trans rfl, (blk_cell BK147.out 0).trans rfl, (blk_cell BK147.out 1).trans rfl, (blk_cell BK147.out 2).trans rfl, (blk_cell BK147.out 3).trans rfl, (blk_cell BK147.out 4).trans rfl, (blk_cell BK147.out 5).trans rfl, (blk_cell BK147.out 6).trans rfl, (blk_cell BK147.out 7).trans rfl, (blk_cell BK147.out 8).trans rfl, own_string (P := Try.prog) Try.underlying38 Try.underlying5 Try.underlying9 (Kd.own_of_R HO120.out), own_string (P := Try.prog) Try.underlying38 Try.underlying5 Try.underlying9 (Kd.own_of_R HO123.out)⟩ (fun hHeld => ?_)
                    clear hK K
                    refine norm_ (a' := ?_) ?_ ?_
                    rotate_left
                    · show Act.put _ (some 85) _ = _
                      simp only [Act.put, List.setIfInBounds_toArray, List.set_cons_zero, List.set_cons_succ, i64_w, i32_w]
                      rfl
                    refine one_ (i := 11) (N := some 86) #[true, true, true, true, true, true, true, true, true, true, true, true, false, false, false, false, false, false, false, false, false, false, false, false, false, false, false, false, false, false, false, false, false] rfl rfl (one_of HT_.out (by kernel_rfl)) (by decide) (fun K hK => ?_)
                    have hcv86 := own_string (P := Try.prog) Try.underlying38 Try.underlying5 Try.underlying9 (Kd.own_of_R HO153.out)
                    refine value_ (w1 := ?_) (v := ?_) (by rfl) rfl ?_ ?_
                    rotate_left 2
                    · go_simp
                      constructor
                      · rfl
                      · rfl
                    clear hcv86
                    refine hK.out _ _ ⟨(blk_cell BK101.out 0).trans rfl, (blk_cell BK101.out 1).trans rfl, (blk_cell BK101.out 2).trans rfl, (blk_cell BK101.out 3).trans rfl, (blk_cell BK101.out 4).trans rfl, (blk_cell BK101.out 5).trans rfl, (blk_cell BK101.out 6).trans rfl, (blk_cell BK101.out 7).trans rfl, (blk_cell BK101.out 8).trans rfl, (blk_cell BK101.out 9).trans rfl, (blk_cell BK101.out 10).trans rfl, (blk_cell BK102.out 0).trans rfl, (blk_cell BK102.out 1).trans rfl, (blk_cell BK102.out 2).trans rfl, (blk_cell BK102.out 3).trans rfl, (blk_cell BK102.out 4).trans rfl, (blk_cell BK102.out 5).trans rfl, (blk_cell BK102.out 6).trans rfl, (blk_cell BK102.out 7).trans rfl, (blk_cell BK102.out 8).trans rfl, (blk_cell BK136.out 0).trans rfl, (blk_cell BK136.out 1).trans rfl, (blk_cell BK136.out 2).trans rfl, (blk_cell BK136.out 3).trans rfl, (blk_cell BK136.out 4).trans rfl, (blk_cell BK136.out 5).trans rfl, (blk_cell BK136.out 6).trans rfl, (blk_cell BK136.out 7).trans rfl, (blk_cell BK136.out 8).trans rfl, (blk_cell BK136.out 9).trans rfl, (blk_cell BK136.out 10).trans rfl, (blk_cell BK147.out 0).trans rfl, (blk_cell BK147.out 1).trans rfl, (blk_cell BK147.out 2).trans rfl, (blk_cell BK147.out 3).trans rfl, (blk_cell BK147.out 4).trans rfl, (blk_cell BK147.out 5).trans rfl, (blk_cell BK147.out 6).trans rfl, (blk_cell BK147.out 7).trans rfl, (blk_cell BK147.out 8).trans rfl, own_string (P := Try.prog) Try.underlying38 Try.underlying5 Try.underlying9 (Kd.own_of_R HO120.out), own_string (P := Try.prog) Try.underlying38 Try.underlying5 Try.underlying9 (Kd.own_of_R HO123.out)⟩ (fun hHeld => ?_)
                    clear hK K
                    refine norm_ (a' := ?_) ?_ ?_
                    rotate_left
                    · show Act.put _ (some 86) _ = _
                      simp only [Act.put, List.setIfInBounds_toArray, List.set_cons_zero, List.set_cons_succ, i64_w, i32_w]
                      rfl
                    refine pure_ (i := 12) (N := some 87) (v := ?_) (a' := ?_) #[true, true, true, true, true, true, true, true, true, true, true, true, true, false, false, false, false, false, false, false, false, false, false, false, false, false, false, false, false, false, false, false, false] rfl rfl (any_of HT_.out (by kernel_rfl)) (fun _ _ _ h => h) (Or.inl ⟨by rfl, ?_⟩) ?_ ?_
                    rotate_left
                    · intro w'
                      go_simp
                      with_reducible rfl
                    rotate_left
                    · simp only [Act.put, List.setIfInBounds_toArray, List.set_cons_zero, List.set_cons_succ, i64_w, i32_w]
                      rfl
                    refine pure_ (i := 13) (N := some 88) (v := ?_) (a' := ?_) #[true, true, true, true, true, true, true, true, true, true, true, true, true, true, false, false, false, false, false, false, false, false, false, false, false, false, false, false, false, false, false, false, false] rfl rfl (any_of HT_.out (by kernel_rfl)) (fun _ _ _ h => h) (Or.inl ⟨by rfl, ?_⟩) ?_ ?_
                    rotate_left
                    · intro w'
                      go_simp
                      with_reducible rfl
                    rotate_left
                    · simp only [Act.put, List.setIfInBounds_toArray, List.set_cons_zero, List.set_cons_succ, i64_w, i32_w]
                      rfl
                    refine pure_ (i := 14) (N := some 89) (v := ?_) (a' := ?_) #[true, true, true, true, true, true, true, true, true, true, true, true, true, true, true, false, false, false, false, false, false, false, false, false, false, false, false, false, false, false, false, false, false] rfl rfl (any_of HT_.out (by kernel_rfl)) (fun _ _ _ h => h) (Or.inl ⟨by rfl, ?_⟩) ?_ ?_
                    rotate_left
                    · intro w'
                      go_simp
                      with_reducible rfl
                    rotate_left
                    · simp only [Act.put, List.setIfInBounds_toArray, List.set_cons_zero, List.set_cons_succ, i64_w, i32_w]
                      rfl
                    refine pure_ (i := 15) (N := some 90) (v := ?_) (a' := ?_) #[true, true, true, true, true, true, true, true, true, true, true, true, true, true, true, true, false, false, false, false, false, false, false, false, false, false, false, false, false, false, false, false, false] rfl rfl (any_of HT_.out (by kernel_rfl)) (fun _ _ _ h => h) (Or.inl ⟨by rfl, ?_⟩) ?_ ?_
                    rotate_left
                    · intro w'
                      go_simp
                      with_reducible rfl
                    rotate_left
                    · simp only [Act.put, List.setIfInBounds_toArray, List.set_cons_zero, List.set_cons_succ, i64_w, i32_w]
                      rfl
                    refine pure_ (i := 16) (N := some 91) (v := ?_) (a' := ?_) #[true, true, true, true, true, true, true, true, true, true, true, true, true, true, true, true, true, false, false, false, false, false, false, false, false, false, false, false, false, false, false, false, false] rfl rfl (any_of HT_.out (by kernel_rfl)) (fun _ _ _ h => h) (Or.inl ⟨by rfl, ?_⟩) ?_ ?_
                    rotate_left
                    · intro w'
                      go_simp
                      with_reducible rfl
                    rotate_left
                    · simp only [Act.put, List.setIfInBounds_toArray, List.set_cons_zero, List.set_cons_succ, i64_w, i32_w]
                      rfl
                    refine pure_ (i := 17) (N := some 92) (v := ?_) (a' := ?_) #[true, true, true, true, true, true, true, true, true, true, true, true, true, true, true, true, true, true, false, false, false, false, false, false, false, false, false, false, false, false, false, false, false] rfl rfl (any_of HT_.out (by kernel_rfl)) (fun _ _ _ h => h) (Or.inl ⟨by rfl, ?_⟩) ?_ ?_
                    rotate_left
                    · intro w'
                      go_simp
                      with_reducible rfl
                    rotate_left
                    · simp only [Act.put, List.setIfInBounds_toArray, List.set_cons_zero, List.set_cons_succ, i64_w, i32_w]
                      rfl
                    refine pure_ (i := 18) (N := some 93) (v := ?_) (a' := ?_) #[true, true, true, true, true, true, true, true, true, true, true, true, true, true, true, true, true, true, true, false, false, false, false, false, false, false, false, false, false, false, false, false, false] rfl rfl (any_of HT_.out (by kernel_rfl)) (fun _ _ _ h => h) (Or.inl ⟨by rfl, ?_⟩) ?_ ?_
                    rotate_left
                    · intro w'
                      go_simp
                      with_reducible rfl
                    rotate_left
                    · simp only [Act.put, List.setIfInBounds_toArray, List.set_cons_zero, List.set_cons_succ, i64_w, i32_w]
                      rfl
                    refine pure_ (i := 19) (N := some 94) (v := ?_) (a' := ?_) #[true, true, true, true, true, true, true, true, true, true, true, true, true, true, true, true, true, true, true, true, false, false, false, false, false, false, false, false, false, false, false, false, false] rfl rfl (any_of HT_.out (by kernel_rfl)) (fun _ _ _ h => h) (Or.inl ⟨by rfl, ?_⟩) ?_ ?_
                    rotate_left
                    · intro w'
                      go_simp
                      with_reducible rfl
                    rotate_left
                    · simp only [Act.put, List.setIfInBounds_toArray, List.set_cons_zero, List.set_cons_succ, i64_w, i32_w]
                      rfl
                    refine pure_ (i := 20) (N := some 95) (v := ?_) (a' := ?_) #[true, true, true, true, true, true, true, true, true, true, true, true, true, true, true, true, true, true, true, true, true, false, false, false, false, false, false, false, false, false, false, false, false] rfl rfl (any_of HT_.out (by kernel_rfl)) (fun _ _ _ h => h) (Or.inl ⟨by rfl, ?_⟩) ?_ ?_
                    rotate_left
                    · intro w'
                      go_simp
                      with_reducible rfl
                    rotate_left
                    · simp only [Act.put, List.setIfInBounds_toArray, List.set_cons_zero, List.set_cons_succ, i64_w, i32_w]
                      rfl
                    refine pure_ (i := 21) (N := some 96) (v := ?_) (a' := ?_) #[true, true, true, true, true, true, true, true, true, true, true, true, true, true, true, true, true, true, true, true, true, true, false, false, false, false, false, false, false, false, false, false, false] rfl rfl (any_of HT_.out (by kernel_rfl)) (fun _ _ _ h => h) (Or.inl ⟨by rfl, ?_⟩) ?_ ?_
                    rotate_left
                    · intro w'
                      go_simp
                      with_reducible rfl
                    rotate_left
                    · simp only [Act.put, List.setIfInBounds_toArray, List.set_cons_zero, List.set_cons_succ, i64_w, i32_w]
                      rfl
                    refine pure_ (i := 22) (N := some 97) (v := ?_) (a' := ?_) #[true, true, true, true, true, true, true, true, true, true, true, true, true, true, true, true, true, true, true, true, true, true, true, false, false, false, false, false, false, false, false, false, false] rfl rfl (any_of HT_.out (by kernel_rfl)) (fun _ _ _ h => h) (Or.inl ⟨by rfl, ?_⟩) ?_ ?_
                    rotate_left
                    · intro w'
                      go_simp
                      with_reducible rfl
                    rotate_left
                    · simp only [Act.put, List.setIfInBounds_toArray, List.set_cons_zero, List.set_cons_succ, i64_w, i32_w]
                      rfl
                    refine take_ (i := 23) (N := some 98) (v := ?_) (a' := ?_) #[true, true, true, true, true, true, true, true, true, true, true, true, true, true, true, true, true, true, true, true, true, true, true, true, false, false, false, false, false, false, false, false, false] rfl rfl (take_ofW HT_.out HW_.out (by kernel_rfl)) (fun _ _ _ h => h) (Or.inl ⟨by rfl, ?_⟩) hHeld ?_ ?_
                    rotate_left
                    · rintro w' ⟨s0, s1, s2, s3, s4, s5, s6, s7, s8, s9, s10, s11, s12, s13, s14, s15, s16, s17, s18, s19, s20, s21, s22, s23, s24, s25, s26, s27, s28, s29, s30, s31, s32, s33, s34, s35, s36, s37, s38, s39, s40, s41⟩
                      go_simp
                      with_reducible rfl
                    rotate_left
                    · simp only [Act.put, List.setIfInBounds_toArray, List.set_cons_zero, List.set_cons_succ, i64_w, i32_w]
                      rfl
                    refine take_ (i := 24) (N := some 99) (v := ?_) (a' := ?_) #[true, true, true, true, true, true, true, true, true, true, true, true, true, true, true, true, true, true, true, true, true, true, true, true, true, false, false, false, false, false, false, false, false] rfl rfl (take_ofW HT_.out HW_.out (by kernel_rfl)) (fun _ _ _ h => h) (Or.inl ⟨by rfl, ?_⟩) hHeld ?_ ?_
                    rotate_left
                    · rintro w' ⟨s0, s1, s2, s3, s4, s5, s6, s7, s8, s9, s10, s11, s12, s13, s14, s15, s16, s17, s18, s19, s20, s21, s22, s23, s24, s25, s26, s27, s28, s29, s30, s31, s32, s33, s34, s35, s36, s37, s38, s39, s40, s41⟩
                      go_simp
                      with_reducible rfl
                    rotate_left
                    · simp only [Act.put, List.setIfInBounds_toArray, List.set_cons_zero, List.set_cons_succ, i64_w, i32_w]
                      rfl
                    refine pure_ (i := 25) (N := some 100) (v := ?_) (a' := ?_) #[true, true, true, true, true, true, true, true, true, true, true, true, true, true, true, true, true, true, true, true, true, true, true, true, true, true, false, false, false, false, false, false, false] rfl rfl (any_of HT_.out (by kernel_rfl)) (fun _ _ _ h => h) (Or.inl ⟨by rfl, ?_⟩) ?_ ?_
                    rotate_left
                    · intro w'
                      go_simp
                      with_reducible rfl
                    rotate_left
                    · simp only [Act.put, List.setIfInBounds_toArray, List.set_cons_zero, List.set_cons_succ, i64_w, i32_w]
                      rfl
                    refine pure_ (i := 26) (N := some 101) (v := ?_) (a' := ?_) #[true, true, true, true, true, true, true, true, true, true, true, true, true, true, true, true, true, true, true, true, true, true, true, true, true, true, true, false, false, false, false, false, false] rfl rfl (any_of HT_.out (by kernel_rfl)) (fun _ _ _ h => h) (Or.inl ⟨by rfl, ?_⟩) ?_ ?_
                    rotate_left
                    · intro w'
                      go_simp
                      with_reducible rfl
                    rotate_left
                    · simp only [Act.put, List.setIfInBounds_toArray, List.set_cons_zero, List.set_cons_succ, i64_w, i32_w]
                      rfl
                    refine pure_ (i := 27) (N := some 102) (v := ?_) (a' := ?_) #[true, true, true, true, true, true, true, true, true, true, true, true, true, true, true, true, true, true, true, true, true, true, true, true, true, true, true, true, false, false, false, false, false] rfl rfl (any_of HT_.out (by kernel_rfl)) (fun _ _ _ h => h) (Or.inl ⟨by rfl, ?_⟩) ?_ ?_
                    rotate_left
                    · intro w'
                      go_simp
                      with_reducible rfl
                    rotate_left
                    · simp only [Act.put, List.setIfInBounds_toArray, List.set_cons_zero, List.set_cons_succ, i64_w, i32_w]
                      rfl
                    refine take_ (i := 28) (N := some 103) (v := ?_) (a' := ?_) #[true, true, true, true, true, true, true, true, true, true, true, true, true, true, true, true, true, true, true, true, true, true, true, true, true, true, true, true, true, false, false, false, false] rfl rfl (take_ofW HT_.out HW_.out (by kernel_rfl)) (fun _ _ _ h => h) (Or.inl ⟨by rfl, ?_⟩) hHeld ?_ ?_
                    rotate_left
                    · rintro w' ⟨s0, s1, s2, s3, s4, s5, s6, s7, s8, s9, s10, s11, s12, s13, s14, s15, s16, s17, s18, s19, s20, s21, s22, s23, s24, s25, s26, s27, s28, s29, s30, s31, s32, s33, s34, s35, s36, s37, s38, s39, s40, s41⟩
                      go_simp
                      with_reducible rfl
                    rotate_left
                    · simp only [Act.put, List.setIfInBounds_toArray, List.set_cons_zero, List.set_cons_succ, i64_w, i32_w]
                      rfl
                    refine take_ (i := 29) (N := some 104) (v := ?_) (a' := ?_) #[true, true, true, true, true, true, true, true, true, true, true, true, true, true, true, true, true, true, true, true, true, true, true, true, true, true, true, true, true, true, false, false, false] rfl rfl (take_ofW HT_.out HW_.out (by kernel_rfl)) (fun _ _ _ h => h) (Or.inl ⟨by rfl, ?_⟩) hHeld ?_ ?_
                    rotate_left
                    · rintro w' ⟨s0, s1, s2, s3, s4, s5, s6, s7, s8, s9, s10, s11, s12, s13, s14, s15, s16, s17, s18, s19, s20, s21, s22, s23, s24, s25, s26, s27, s28, s29, s30, s31, s32, s33, s34, s35, s36, s37, s38, s39, s40, s41⟩
                      go_simp
                      with_reducible rfl
                    rotate_left
                    · simp only [Act.put, List.setIfInBounds_toArray, List.set_cons_zero, List.set_cons_succ, i64_w, i32_w]
                      rfl
                    refine pure_ (i := 30) (N := some 105) (v := ?_) (a' := ?_) #[true, true, true, true, true, true, true, true, true, true, true, true, true, true, true, true, true, true, true, true, true, true, true, true, true, true, true, true, true, true, true, false, false] rfl rfl (any_of HT_.out (by kernel_rfl)) (fun _ _ _ h => h) (Or.inl ⟨by rfl, ?_⟩) ?_ ?_
                    rotate_left
                    · intro w'
                      go_simp
                      with_reducible rfl
                    rotate_left
                    · simp only [Act.put, List.setIfInBounds_toArray, List.set_cons_zero, List.set_cons_succ, i64_w, i32_w]
                      rfl
                    refine pure_ (i := 31) (N := some 106) (v := ?_) (a' := ?_) #[true, true, true, true, true, true, true, true, true, true, true, true, true, true, true, true, true, true, true, true, true, true, true, true, true, true, true, true, true, true, true, true, false] rfl rfl (any_of HT_.out (by kernel_rfl)) (fun _ _ _ h => h) (Or.inl ⟨by rfl, ?_⟩) ?_ ?_
                    rotate_left
                    · intro w'
                      go_simp
                      with_reducible rfl
                    rotate_left
                    · simp only [Act.put, List.setIfInBounds_toArray, List.set_cons_zero, List.set_cons_succ, i64_w, i32_w]
                      rfl
                    refine pure_ (i := 32) (N := some 4) (v := ?_) (a' := ?_) #[true, true, true, true, true, true, true, true, true, true, true, true, true, true, true, true, true, true, true, true, true, true, true, true, true, true, true, true, true, true, true, true, true] rfl rfl (any_of HT_.out (by kernel_rfl)) (fun _ _ _ h => h) (Or.inl ⟨by rfl, ?_⟩) ?_ ?_
                    rotate_left
                    · intro w'
                      go_simp
                      with_reducible rfl
                    rotate_left
                    · simp only [Act.put, List.setIfInBounds_toArray, List.set_cons_zero, List.set_cons_succ, i64_w, i32_w]
                      rfl
                    refine done_ (done_of HT_.out (by kernel_rfl)) ?_
                    try go_wp2
                    go_ret
                    exact ⟨by first | rfl | (simp [errW_none, errW_some] <;> rfl) | (simp [*, errW_none, errW_some] <;> rfl), by repeat (first | (with_reducible first | exact HB.out | apply below_alloc | apply pw_below_drewN | apply below_drew1 | refine below_set ?_ GE101.out | refine below_set ?_ GE102.out | refine below_set ?_ GE136.out | refine below_set ?_ GE147.out) | exact HB.out)⟩
                  · rw [if_neg c41] at H
                    have c41b0 : (t124.toList == a0_0.toList && ((t125 == t104 && (t126 == t105 && (t127 == t106 && (t128 == t107)))) && (t129.toList == a0_5.toList && ((t130 == t108 && (t131 == t109 && (t132 == t110 && (t133 == t111)))) && (t134.toList == a0_10.toList))))) = false := by simpa using c41
                    (try (have c41b1 : decide (t124.toList = a0_0.toList && ((t125 == t104 && (t126 == t105 && (t127 == t106 && (t128 == t107)))) && (t129.toList == a0_5.toList && ((t130 == t108 && (t131 == t109 && (t132 == t110 && (t133 == t111)))) && (t134.toList == a0_10.toList))))) = false := by simpa using c41))
                    (try (have c41b2 : (t124.toList == a0_0.toList && ((t125 == t104 && (t126 == t105 && (t127 == t106 && (t128 == t107)))) && (t129.toList == a0_5.toList && ((t130 == t108 && (t131 == t109 && (t132 == t110 && (t133 == t111)))) && (t134.toList == a0_10.toList))))) = false := by simpa using c41))
                    (try (have c41b3 : ¬ (t124.toList = a0_0.toList && ((t125 == t104 && (t126 == t105 && (t127 == t106 && (t128 == t107)))) && (t129.toList == a0_5.toList && ((t130 == t108 && (t131 == t109 && (t132 == t110 && (t133 == t111)))) && (t134.toList == a0_10.toList))))) := by simpa using c41))
                    clear c41
                    obtain rfl := Option.some.inj H
                    exact absurd HRT.out (by decide)
                · rw [if_neg c40] at H
                  have c40b0 : (t146 == 0) = false := beq_eq_false_iff_ne.mpr c40
                  have c40b1 : (t146 != 0) = true := bne_iff_ne.mpr c40
                  obtain rfl := Option.some.inj H
                  exact absurd HRT.out (by decide)
              · rw [if_neg c39] at H
                have c39b0 : (t135 == 0) = false := beq_eq_false_iff_ne.mpr c39
                have c39b1 : (t135 != 0) = true := bne_iff_ne.mpr c39
                obtain rfl := Option.some.inj H
                exact absurd HRT.out (by decide)
            · rw [if_neg c38] at H
              have c38b0 : ((strOfNums t121).toList == (strOfNums t151).toList) = false := beq_eq_false_iff_ne.mpr c38
              have c38b1 : ((strOfNums t121).toList != (strOfNums t151).toList) = true := bne_iff_ne.mpr c38
              obtain rfl := Option.some.inj H
              exact absurd HRT.out (by decide)
          · rw [if_neg c36] at H
            have c36b0 : ((strOfNums t118).toList == (strOfNums t148).toList) = false := beq_eq_false_iff_ne.mpr c36
            have c36b1 : ((strOfNums t118).toList != (strOfNums t148).toList) = true := bne_iff_ne.mpr c36
            obtain rfl := Option.some.inj H
            exact absurd HRT.out (by decide)
  · replace c4 := Bool.eq_false_iff.mpr c4
    subst c4
    have H1 : (some false) = some r := by rw [if_neg (show ¬ (false = true) by decide)] at H; exact H
    clear H
    have H := H1
    clear H1
    obtain rfl := Option.some.inj H
    exact absurd HRT.out (by decide)

end Go.Proofs.Ytophnhmlknbmeaa.X
