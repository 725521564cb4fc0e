/- Written by a program of this session over the kit's print: YtnepinkookbanaaDoorF4. -/
import Derived.Test.YtnepinkookbanaaDoorH
import Derived.Test.YtnepinkookbanaaDoorE23
import Derived.Test.YtnepinkookbanaaDoorF14
import Derived.Test.YtnepinkookbanaaDoorF15
import Derived.Test.YtnepinkookbanaaDoorF17
import Derived.Test.YtnepinkookbanaaDoorF18
import Derived.Test.YtnepinkookbanaaDoorF19
import Derived.Test.YtnepinkookbanaaDoorLaid
namespace Go.Proofs.YtnepinkookbanaaDoor.X
open Go.RowKit Go.Proofs.YtnepinkookbanaaDoorW.PrintWords Go.Proofs.YtnepinkookbanaaDoorW.PrintLast Go.Proofs.YtnepinkookbanaaDoorW.PrintMore Go.Proofs.YtnepinkookbanaaDoor.More
attribute [local go_sem] max2_int min2_int max_two min_two max_three min_three max_four min_four   -- for this text's walks alone
set_option linter.unusedVariables false
set_option linter.unusedSimpArgs false

attribute [local go_sem high] eqA23
/-! ### donjonlaw4_LabelJoins: function 4 -/
def donjonlaw4_LabelJoins.f (a0_0 : Int) (a0_1 : Int) (a0_2 : Int) (a0_3 : Int) (a1_0 : Int) (a1_1 : Int) (a1_2 : Int) (a1_3 : Int) (a2_0 : Int) (a2_1 : Int) (a2_2 : Int) (a2_3 : Int) : Option (Bool) := (donjonlaw4_known.f).bind fun t104 => (if t104 = true then ((donjonlaw4_Good.f a0_0 a0_1 a0_2 a0_3).bind fun bt105 => ((donjonlaw4_Good.f a1_0 a1_1 a1_2 a1_3).bind fun bt109 => ((donjonlaw4_Good.f a2_0 a2_1 a2_2 a2_3).bind fun bt113 => ((label_Join.f bt105.1 bt105.2.1 bt105.2.2.1 bt105.2.2.2 bt109.1 bt109.2.1 bt109.2.2.1 bt109.2.2.2).bind fun bt117 => ((label_Join.f bt117.1 bt117.2.1 bt117.2.2.1 bt117.2.2.2 bt113.1 bt113.2.1 bt113.2.2.1 bt113.2.2.2).bind fun bt121 => ((label_Join.f bt109.1 bt109.2.1 bt109.2.2.1 bt109.2.2.2 bt113.1 bt113.2.1 bt113.2.2.1 bt113.2.2.2).bind fun bt125 => ((label_Join.f bt105.1 bt105.2.1 bt105.2.2.1 bt105.2.2.2 bt125.1 bt125.2.1 bt125.2.2.1 bt125.2.2.2).bind fun bt129 => (if (bt121.1 == bt129.1 && (bt121.2.1 == bt129.2.1 && (bt121.2.2.1 == bt129.2.2.1 && (bt121.2.2.2 == bt129.2.2.2)))) = true then ((label_Meet.f bt105.1 bt105.2.1 bt105.2.2.1 bt105.2.2.2 bt109.1 bt109.2.1 bt109.2.2.1 bt109.2.2.2).bind fun bt133 => ((label_Meet.f bt133.1 bt133.2.1 bt133.2.2.1 bt133.2.2.2 bt113.1 bt113.2.1 bt113.2.2.1 bt113.2.2.2).bind fun bt137 => ((label_Meet.f bt109.1 bt109.2.1 bt109.2.2.1 bt109.2.2.2 bt113.1 bt113.2.1 bt113.2.2.1 bt113.2.2.2).bind fun bt141 => ((label_Meet.f bt105.1 bt105.2.1 bt105.2.2.1 bt105.2.2.2 bt141.1 bt141.2.1 bt141.2.2.1 bt141.2.2.2).bind fun bt145 => (if (bt137.1 == bt145.1 && (bt137.2.1 == bt145.2.1 && (bt137.2.2.1 == bt145.2.2.1 && (bt137.2.2.2 == bt145.2.2.2)))) = true then ((label_Join.f bt105.1 bt105.2.1 bt105.2.2.1 bt105.2.2.2 bt105.1 bt105.2.1 bt105.2.2.1 bt105.2.2.2).bind fun bt149 => (if (bt149.1 == bt105.1 && (bt149.2.1 == bt105.2.1 && (bt149.2.2.1 == bt105.2.2.1 && (bt149.2.2.2 == bt105.2.2.2)))) = true then ((label_Meet.f bt105.1 bt105.2.1 bt105.2.2.1 bt105.2.2.2 bt105.1 bt105.2.1 bt105.2.2.1 bt105.2.2.2).bind fun bt153 => (if (bt153.1 == bt105.1 && (bt153.2.1 == bt105.2.1 && (bt153.2.2.1 == bt105.2.2.1 && (bt153.2.2.2 == bt105.2.2.2)))) = true then ((label_Bottom.f).bind fun bt157 => ((label_Join.f bt105.1 bt105.2.1 bt105.2.2.1 bt105.2.2.2 bt157.1 bt157.2.1 bt157.2.2.1 bt157.2.2.2).bind fun bt161 => (if (bt161.1 == bt105.1 && (bt161.2.1 == bt105.2.1 && (bt161.2.2.1 == bt105.2.2.1 && (bt161.2.2.2 == bt105.2.2.2)))) = true then ((label_Bottom.f).bind fun bt165 => ((label_Meet.f bt105.1 bt105.2.1 bt105.2.2.1 bt105.2.2.2 bt165.1 bt165.2.1 bt165.2.2.1 bt165.2.2.2).bind fun bt169 => ((label_Bottom.f).bind fun bt173 => (some (bt169.1 == bt173.1 && (bt169.2.1 == bt173.2.1 && (bt169.2.2.1 == bt173.2.2.1 && (bt169.2.2.2 == bt173.2.2.2)))))))) else (some false)))) else (some false))) else (some false))) else (some false)))))) else (some false))))))))) else (some false))
def donjonlaw4_LabelJoins.T3 : Bool × List (List Nat × List Nat) := (true, [([], []), ([0], [0]), ([], []), ([2, 1], [2]), ([], []), ([4, 3], [4]), ([1, 5, 0, 1], [1]), ([3, 6, 0, 1, 2, 3, 6], [3]), ([5, 7, 0, 1, 2, 3, 4, 5, 6, 7], [5])])
def donjonlaw4_LabelJoins.B3 : List Nat := [0, 1, 0, 7, 0, 31, 63, 127, 255]
theorem donjonlaw4_LabelJoins.tab3 : rtab .any (opsOf Tryd.f4 3) = donjonlaw4_LabelJoins.T3 := by kernel_rfl
theorem donjonlaw4_LabelJoins.bits3 : waitsOk donjonlaw4_LabelJoins.T3.2 donjonlaw4_LabelJoins.B3 = true := by kernel_rfl
def donjonlaw4_LabelJoins.T4 : Bool × List (List Nat × List Nat) := (true, [([], []), ([], []), ([0, 1], [0, 1]), ([], []), ([2, 3, 2], [2, 3]), ([], []), ([], []), ([], []), ([6, 7, 4], [6, 7]), ([5, 8, 8], [5, 8]), ([4, 9], [4, 9]), ([10, 9], [10]), ([11], [11]), ([11], [11]), ([12, 13, 11, 11], [11, 12, 13]), ([11], [11]), ([14, 15, 14, 11], [11, 14, 15]), ([11], [11]), ([11], [11]), ([11], [11]), ([18, 19, 16, 11], [11, 18, 19]), ([17, 20, 20, 11], [11, 17, 20]), ([16, 21, 11], [11, 16, 21]), ([11, 22], [11, 22]), ([23, 21], [23]), ([24], [24]), ([24], [24]), ([25, 26, 24, 24], [24, 25, 26]), ([24], [24]), ([27, 28, 24], [24, 27, 28]), ([24, 29], [24, 29]), ([30, 27], [30]), ([31], [31]), ([31], [31]), ([32, 33, 31, 31], [31, 32, 33]), ([31], [31]), ([34, 35, 31], [31, 34, 35]), ([31, 36], [31, 36]), ([37, 34], [37]), ([38], [38]), ([38, 38], [38]), ([39, 40, 40, 38], [38, 39, 40]), ([38], [38]), ([41, 42, 38], [38, 41, 42]), ([38, 43], [38, 43]), ([44, 41], [44]), ([45], [45]), ([45, 45], [45]), ([46, 47, 47, 45], [45, 46, 47]), ([48, 45], [45]), ([48, 49, 45], [45, 48, 49]), ([45, 50], [45, 50]), ([51, 49, 0, 1, 2, 3, 4, 5, 6, 7, 8, 9, 10, 11, 12, 13, 14, 15, 16, 17, 18, 19, 20, 21, 22, 23, 24, 25, 26, 27, 28, 29, 30, 31, 32, 33, 34, 35, 36, 37, 38, 39, 40, 41, 42, 43, 44, 45, 46, 47, 48, 49, 50, 51], [51])])
def donjonlaw4_LabelJoins.B4 : List Nat := [0, 0, 3, 0, 15, 0, 0, 0, 223, 511, 1023, 2047, 4095, 4095, 16383, 4095, 65535, 4095, 4095, 4095, 917503, 2097151, 4194303, 8388607, 16777215, 33554431, 33554431, 134217727, 33554431, 536870911, 1073741823, 2147483647, 4294967295, 4294967295, 17179869183, 4294967295, 68719476735, 137438953471, 274877906943, 549755813887, 549755813887, 2199023255551, 549755813887, 8796093022207, 17592186044415, 35184372088831, 70368744177663, 70368744177663, 281474976710655, 562949953421311, 1125899906842623, 2251799813685247, 4503599627370495]
theorem donjonlaw4_LabelJoins.tab4 : rtab .any (opsOf Tryd.f4 4) = donjonlaw4_LabelJoins.T4 := by kernel_rfl
theorem donjonlaw4_LabelJoins.bits4 : waitsOk donjonlaw4_LabelJoins.T4.2 donjonlaw4_LabelJoins.B4 = true := by kernel_rfl
set_option maxHeartbeats 8000000 in
set_option maxRecDepth 100000 in
theorem donjonlaw4_LabelJoins.calls (a0_0 : Int) (a0_1 : Int) (a0_2 : Int) (a0_3 : Int) (a1_0 : Int) (a1_1 : Int) (a1_2 : Int) (a1_3 : Int) (a2_0 : Int) (a2_1 : Int) (a2_2 : Int) (a2_3 : Int) (r : Bool) (w : World) (hrt0 : r = true) (hG0 : Laid w) (h : donjonlaw4_LabelJoins.f a0_0 a0_1 a0_2 a0_3 a1_0 a1_1 a1_2 a1_3 a2_0 a2_1 a2_2 a2_3 = some r) :
    Calls Tryd.prog 4 #[.agg #[.int .i64 a0_0, .int .i64 a0_1, .int .i64 a0_2, .int .i64 a0_3], .agg #[.int .i64 a1_0, .int .i64 a1_1, .int .i64 a1_2, .int .i64 a1_3], .agg #[.int .i64 a2_0, .int .i64 a2_1, .int .i64 a2_2, .int .i64 a2_3]] w fun e w' => e = .returned (.bool r) ∧ Below w.heap.size w w' := by
  have HRT := Aside0.mk hrt0
  clear hrt0
  have HG := Aside0.mk hG0
  clear hG0
  have hu23 := Tryd.underlying23
  have HB := Aside0.mk (Below.refl w.heap.size w)
  have H : ((donjonlaw4_known.f).bind fun t104 => (if t104 = true then ((donjonlaw4_Good.f a0_0 a0_1 a0_2 a0_3).bind fun bt105 => ((donjonlaw4_Good.f a1_0 a1_1 a1_2 a1_3).bind fun bt109 => ((donjonlaw4_Good.f a2_0 a2_1 a2_2 a2_3).bind fun bt113 => ((label_Join.f bt105.1 bt105.2.1 bt105.2.2.1 bt105.2.2.2 bt109.1 bt109.2.1 bt109.2.2.1 bt109.2.2.2).bind fun bt117 => ((label_Join.f bt117.1 bt117.2.1 bt117.2.2.1 bt117.2.2.2 bt113.1 bt113.2.1 bt113.2.2.1 bt113.2.2.2).bind fun bt121 => ((label_Join.f bt109.1 bt109.2.1 bt109.2.2.1 bt109.2.2.2 bt113.1 bt113.2.1 bt113.2.2.1 bt113.2.2.2).bind fun bt125 => ((label_Join.f bt105.1 bt105.2.1 bt105.2.2.1 bt105.2.2.2 bt125.1 bt125.2.1 bt125.2.2.1 bt125.2.2.2).bind fun bt129 => (if (bt121.1 == bt129.1 && (bt121.2.1 == bt129.2.1 && (bt121.2.2.1 == bt129.2.2.1 && (bt121.2.2.2 == bt129.2.2.2)))) = true then ((label_Meet.f bt105.1 bt105.2.1 bt105.2.2.1 bt105.2.2.2 bt109.1 bt109.2.1 bt109.2.2.1 bt109.2.2.2).bind fun bt133 => ((label_Meet.f bt133.1 bt133.2.1 bt133.2.2.1 bt133.2.2.2 bt113.1 bt113.2.1 bt113.2.2.1 bt113.2.2.2).bind fun bt137 => ((label_Meet.f bt109.1 bt109.2.1 bt109.2.2.1 bt109.2.2.2 bt113.1 bt113.2.1 bt113.2.2.1 bt113.2.2.2).bind fun bt141 => ((label_Meet.f bt105.1 bt105.2.1 bt105.2.2.1 bt105.2.2.2 bt141.1 bt141.2.1 bt141.2.2.1 bt141.2.2.2).bind fun bt145 => (if (bt137.1 == bt145.1 && (bt137.2.1 == bt145.2.1 && (bt137.2.2.1 == bt145.2.2.1 && (bt137.2.2.2 == bt145.2.2.2)))) = true then ((label_Join.f bt105.1 bt105.2.1 bt105.2.2.1 bt105.2.2.2 bt105.1 bt105.2.1 bt105.2.2.1 bt105.2.2.2).bind fun bt149 => (if (bt149.1 == bt105.1 && (bt149.2.1 == bt105.2.1 && (bt149.2.2.1 == bt105.2.2.1 && (bt149.2.2.2 == bt105.2.2.2)))) = true then ((label_Meet.f bt105.1 bt105.2.1 bt105.2.2.1 bt105.2.2.2 bt105.1 bt105.2.1 bt105.2.2.1 bt105.2.2.2).bind fun bt153 => (if (bt153.1 == bt105.1 && (bt153.2.1 == bt105.2.1 && (bt153.2.2.1 == bt105.2.2.1 && (bt153.2.2.2 == bt105.2.2.2)))) = true then ((label_Bottom.f).bind fun bt157 => ((label_Join.f bt105.1 bt105.2.1 bt105.2.2.1 bt105.2.2.2 bt157.1 bt157.2.1 bt157.2.2.1 bt157.2.2.2).bind fun bt161 => (if (bt161.1 == bt105.1 && (bt161.2.1 == bt105.2.1 && (bt161.2.2.1 == bt105.2.2.1 && (bt161.2.2.2 == bt105.2.2.2)))) = true then ((label_Bottom.f).bind fun bt165 => ((label_Meet.f bt105.1 bt105.2.1 bt105.2.2.1 bt105.2.2.2 bt165.1 bt165.2.1 bt165.2.2.1 bt165.2.2.2).bind fun bt169 => ((label_Bottom.f).bind fun bt173 => (some (bt169.1 == bt173.1 && (bt169.2.1 == bt173.2.1 && (bt169.2.2.1 == bt173.2.2.1 && (bt169.2.2.2 == bt173.2.2.2)))))))) else (some false)))) else (some false))) else (some false))) else (some false)))))) else (some false))))))))) else (some false))) = some r := h
  clear h
  replace H := Option.bind_eq_some_iff.mp H
  obtain ⟨t104, A40, H⟩ := H
  replace H : (if t104 = true then ((donjonlaw4_Good.f a0_0 a0_1 a0_2 a0_3).bind fun bt105 => ((donjonlaw4_Good.f a1_0 a1_1 a1_2 a1_3).bind fun bt109 => ((donjonlaw4_Good.f a2_0 a2_1 a2_2 a2_3).bind fun bt113 => ((label_Join.f bt105.1 bt105.2.1 bt105.2.2.1 bt105.2.2.2 bt109.1 bt109.2.1 bt109.2.2.1 bt109.2.2.2).bind fun bt117 => ((label_Join.f bt117.1 bt117.2.1 bt117.2.2.1 bt117.2.2.2 bt113.1 bt113.2.1 bt113.2.2.1 bt113.2.2.2).bind fun bt121 => ((label_Join.f bt109.1 bt109.2.1 bt109.2.2.1 bt109.2.2.2 bt113.1 bt113.2.1 bt113.2.2.1 bt113.2.2.2).bind fun bt125 => ((label_Join.f bt105.1 bt105.2.1 bt105.2.2.1 bt105.2.2.2 bt125.1 bt125.2.1 bt125.2.2.1 bt125.2.2.2).bind fun bt129 => (if (bt121.1 == bt129.1 && (bt121.2.1 == bt129.2.1 && (bt121.2.2.1 == bt129.2.2.1 && (bt121.2.2.2 == bt129.2.2.2)))) = true then ((label_Meet.f bt105.1 bt105.2.1 bt105.2.2.1 bt105.2.2.2 bt109.1 bt109.2.1 bt109.2.2.1 bt109.2.2.2).bind fun bt133 => ((label_Meet.f bt133.1 bt133.2.1 bt133.2.2.1 bt133.2.2.2 bt113.1 bt113.2.1 bt113.2.2.1 bt113.2.2.2).bind fun bt137 => ((label_Meet.f bt109.1 bt109.2.1 bt109.2.2.1 bt109.2.2.2 bt113.1 bt113.2.1 bt113.2.2.1 bt113.2.2.2).bind fun bt141 => ((label_Meet.f bt105.1 bt105.2.1 bt105.2.2.1 bt105.2.2.2 bt141.1 bt141.2.1 bt141.2.2.1 bt141.2.2.2).bind fun bt145 => (if (bt137.1 == bt145.1 && (bt137.2.1 == bt145.2.1 && (bt137.2.2.1 == bt145.2.2.1 && (bt137.2.2.2 == bt145.2.2.2)))) = true then ((label_Join.f bt105.1 bt105.2.1 bt105.2.2.1 bt105.2.2.2 bt105.1 bt105.2.1 bt105.2.2.1 bt105.2.2.2).bind fun bt149 => (if (bt149.1 == bt105.1 && (bt149.2.1 == bt105.2.1 && (bt149.2.2.1 == bt105.2.2.1 && (bt149.2.2.2 == bt105.2.2.2)))) = true then ((label_Meet.f bt105.1 bt105.2.1 bt105.2.2.1 bt105.2.2.2 bt105.1 bt105.2.1 bt105.2.2.1 bt105.2.2.2).bind fun bt153 => (if (bt153.1 == bt105.1 && (bt153.2.1 == bt105.2.1 && (bt153.2.2.1 == bt105.2.2.1 && (bt153.2.2.2 == bt105.2.2.2)))) = true then ((label_Bottom.f).bind fun bt157 => ((label_Join.f bt105.1 bt105.2.1 bt105.2.2.1 bt105.2.2.2 bt157.1 bt157.2.1 bt157.2.2.1 bt157.2.2.2).bind fun bt161 => (if (bt161.1 == bt105.1 && (bt161.2.1 == bt105.2.1 && (bt161.2.2.1 == bt105.2.2.1 && (bt161.2.2.2 == bt105.2.2.2)))) = true then ((label_Bottom.f).bind fun bt165 => ((label_Meet.f bt105.1 bt105.2.1 bt105.2.2.1 bt105.2.2.2 bt165.1 bt165.2.1 bt165.2.2.1 bt165.2.2.2).bind fun bt169 => ((label_Bottom.f).bind fun bt173 => (some (bt169.1 == bt173.1 && (bt169.2.1 == bt173.2.1 && (bt169.2.2.1 == bt173.2.2.1 && (bt169.2.2.2 == bt173.2.2.2)))))))) else (some false)))) else (some false))) else (some false))) else (some false)))))) else (some false))))))))) else (some false)) = some r := H
  have A4 := Aside0.mk A40
  clear A40
  by_cases c5 : t104 = true
  · subst c5
    have H1 : ((donjonlaw4_Good.f a0_0 a0_1 a0_2 a0_3).bind fun bt105 => ((donjonlaw4_Good.f a1_0 a1_1 a1_2 a1_3).bind fun bt109 => ((donjonlaw4_Good.f a2_0 a2_1 a2_2 a2_3).bind fun bt113 => ((label_Join.f bt105.1 bt105.2.1 bt105.2.2.1 bt105.2.2.2 bt109.1 bt109.2.1 bt109.2.2.1 bt109.2.2.2).bind fun bt117 => ((label_Join.f bt117.1 bt117.2.1 bt117.2.2.1 bt117.2.2.2 bt113.1 bt113.2.1 bt113.2.2.1 bt113.2.2.2).bind fun bt121 => ((label_Join.f bt109.1 bt109.2.1 bt109.2.2.1 bt109.2.2.2 bt113.1 bt113.2.1 bt113.2.2.1 bt113.2.2.2).bind fun bt125 => ((label_Join.f bt105.1 bt105.2.1 bt105.2.2.1 bt105.2.2.2 bt125.1 bt125.2.1 bt125.2.2.1 bt125.2.2.2).bind fun bt129 => (if (bt121.1 == bt129.1 && (bt121.2.1 == bt129.2.1 && (bt121.2.2.1 == bt129.2.2.1 && (bt121.2.2.2 == bt129.2.2.2)))) = true then ((label_Meet.f bt105.1 bt105.2.1 bt105.2.2.1 bt105.2.2.2 bt109.1 bt109.2.1 bt109.2.2.1 bt109.2.2.2).bind fun bt133 => ((label_Meet.f bt133.1 bt133.2.1 bt133.2.2.1 bt133.2.2.2 bt113.1 bt113.2.1 bt113.2.2.1 bt113.2.2.2).bind fun bt137 => ((label_Meet.f bt109.1 bt109.2.1 bt109.2.2.1 bt109.2.2.2 bt113.1 bt113.2.1 bt113.2.2.1 bt113.2.2.2).bind fun bt141 => ((label_Meet.f bt105.1 bt105.2.1 bt105.2.2.1 bt105.2.2.2 bt141.1 bt141.2.1 bt141.2.2.1 bt141.2.2.2).bind fun bt145 => (if (bt137.1 == bt145.1 && (bt137.2.1 == bt145.2.1 && (bt137.2.2.1 == bt145.2.2.1 && (bt137.2.2.2 == bt145.2.2.2)))) = true then ((label_Join.f bt105.1 bt105.2.1 bt105.2.2.1 bt105.2.2.2 bt105.1 bt105.2.1 bt105.2.2.1 bt105.2.2.2).bind fun bt149 => (if (bt149.1 == bt105.1 && (bt149.2.1 == bt105.2.1 && (bt149.2.2.1 == bt105.2.2.1 && (bt149.2.2.2 == bt105.2.2.2)))) = true then ((label_Meet.f bt105.1 bt105.2.1 bt105.2.2.1 bt105.2.2.2 bt105.1 bt105.2.1 bt105.2.2.1 bt105.2.2.2).bind fun bt153 => (if (bt153.1 == bt105.1 && (bt153.2.1 == bt105.2.1 && (bt153.2.2.1 == bt105.2.2.1 && (bt153.2.2.2 == bt105.2.2.2)))) = true then ((label_Bottom.f).bind fun bt157 => ((label_Join.f bt105.1 bt105.2.1 bt105.2.2.1 bt105.2.2.2 bt157.1 bt157.2.1 bt157.2.2.1 bt157.2.2.2).bind fun bt161 => (if (bt161.1 == bt105.1 && (bt161.2.1 == bt105.2.1 && (bt161.2.2.1 == bt105.2.2.1 && (bt161.2.2.2 == bt105.2.2.2)))) = true then ((label_Bottom.f).bind fun bt165 => ((label_Meet.f bt105.1 bt105.2.1 bt105.2.2.1 bt105.2.2.2 bt165.1 bt165.2.1 bt165.2.2.1 bt165.2.2.2).bind fun bt169 => ((label_Bottom.f).bind fun bt173 => (some (bt169.1 == bt173.1 && (bt169.2.1 == bt173.2.1 && (bt169.2.2.1 == bt173.2.2.1 && (bt169.2.2.2 == bt173.2.2.2)))))))) else (some false)))) else (some false))) else (some false))) else (some false)))))) else (some false))))))))) = some r := by rw [if_pos rfl] at H; exact H
    clear H
    have H := H1
    clear H1
    replace H := Option.bind_eq_some_iff.mp H
    obtain ⟨⟨t105, t106, t107, t108⟩, A60, H⟩ := H
    replace H : ((donjonlaw4_Good.f a1_0 a1_1 a1_2 a1_3).bind fun bt109 => ((donjonlaw4_Good.f a2_0 a2_1 a2_2 a2_3).bind fun bt113 => ((label_Join.f t105 t106 t107 t108 bt109.1 bt109.2.1 bt109.2.2.1 bt109.2.2.2).bind fun bt117 => ((label_Join.f bt117.1 bt117.2.1 bt117.2.2.1 bt117.2.2.2 bt113.1 bt113.2.1 bt113.2.2.1 bt113.2.2.2).bind fun bt121 => ((label_Join.f bt109.1 bt109.2.1 bt109.2.2.1 bt109.2.2.2 bt113.1 bt113.2.1 bt113.2.2.1 bt113.2.2.2).bind fun bt125 => ((label_Join.f t105 t106 t107 t108 bt125.1 bt125.2.1 bt125.2.2.1 bt125.2.2.2).bind fun bt129 => (if (bt121.1 == bt129.1 && (bt121.2.1 == bt129.2.1 && (bt121.2.2.1 == bt129.2.2.1 && (bt121.2.2.2 == bt129.2.2.2)))) = true then ((label_Meet.f t105 t106 t107 t108 bt109.1 bt109.2.1 bt109.2.2.1 bt109.2.2.2).bind fun bt133 => ((label_Meet.f bt133.1 bt133.2.1 bt133.2.2.1 bt133.2.2.2 bt113.1 bt113.2.1 bt113.2.2.1 bt113.2.2.2).bind fun bt137 => ((label_Meet.f bt109.1 bt109.2.1 bt109.2.2.1 bt109.2.2.2 bt113.1 bt113.2.1 bt113.2.2.1 bt113.2.2.2).bind fun bt141 => ((label_Meet.f t105 t106 t107 t108 bt141.1 bt141.2.1 bt141.2.2.1 bt141.2.2.2).bind fun bt145 => (if (bt137.1 == bt145.1 && (bt137.2.1 == bt145.2.1 && (bt137.2.2.1 == bt145.2.2.1 && (bt137.2.2.2 == bt145.2.2.2)))) = true then ((label_Join.f t105 t106 t107 t108 t105 t106 t107 t108).bind fun bt149 => (if (bt149.1 == t105 && (bt149.2.1 == t106 && (bt149.2.2.1 == t107 && (bt149.2.2.2 == t108)))) = true then ((label_Meet.f t105 t106 t107 t108 t105 t106 t107 t108).bind fun bt153 => (if (bt153.1 == t105 && (bt153.2.1 == t106 && (bt153.2.2.1 == t107 && (bt153.2.2.2 == t108)))) = true then ((label_Bottom.f).bind fun bt157 => ((label_Join.f t105 t106 t107 t108 bt157.1 bt157.2.1 bt157.2.2.1 bt157.2.2.2).bind fun bt161 => (if (bt161.1 == t105 && (bt161.2.1 == t106 && (bt161.2.2.1 == t107 && (bt161.2.2.2 == t108)))) = true then ((label_Bottom.f).bind fun bt165 => ((label_Meet.f t105 t106 t107 t108 bt165.1 bt165.2.1 bt165.2.2.1 bt165.2.2.2).bind fun bt169 => ((label_Bottom.f).bind fun bt173 => (some (bt169.1 == bt173.1 && (bt169.2.1 == bt173.2.1 && (bt169.2.2.1 == bt173.2.2.1 && (bt169.2.2.2 == bt173.2.2.2)))))))) else (some false)))) else (some false))) else (some false))) else (some false)))))) else (some false)))))))) = some r := H
    have A6 := Aside0.mk A60
    clear A60
    replace H := Option.bind_eq_some_iff.mp H
    obtain ⟨⟨t109, t110, t111, t112⟩, A70, H⟩ := H
    replace H : ((donjonlaw4_Good.f a2_0 a2_1 a2_2 a2_3).bind fun bt113 => ((label_Join.f t105 t106 t107 t108 t109 t110 t111 t112).bind fun bt117 => ((label_Join.f bt117.1 bt117.2.1 bt117.2.2.1 bt117.2.2.2 bt113.1 bt113.2.1 bt113.2.2.1 bt113.2.2.2).bind fun bt121 => ((label_Join.f t109 t110 t111 t112 bt113.1 bt113.2.1 bt113.2.2.1 bt113.2.2.2).bind fun bt125 => ((label_Join.f t105 t106 t107 t108 bt125.1 bt125.2.1 bt125.2.2.1 bt125.2.2.2).bind fun bt129 => (if (bt121.1 == bt129.1 && (bt121.2.1 == bt129.2.1 && (bt121.2.2.1 == bt129.2.2.1 && (bt121.2.2.2 == bt129.2.2.2)))) = true then ((label_Meet.f t105 t106 t107 t108 t109 t110 t111 t112).bind fun bt133 => ((label_Meet.f bt133.1 bt133.2.1 bt133.2.2.1 bt133.2.2.2 bt113.1 bt113.2.1 bt113.2.2.1 bt113.2.2.2).bind fun bt137 => ((label_Meet.f t109 t110 t111 t112 bt113.1 bt113.2.1 bt113.2.2.1 bt113.2.2.2).bind fun bt141 => ((label_Meet.f t105 t106 t107 t108 bt141.1 bt141.2.1 bt141.2.2.1 bt141.2.2.2).bind fun bt145 => (if (bt137.1 == bt145.1 && (bt137.2.1 == bt145.2.1 && (bt137.2.2.1 == bt145.2.2.1 && (bt137.2.2.2 == bt145.2.2.2)))) = true then ((label_Join.f t105 t106 t107 t108 t105 t106 t107 t108).bind fun bt149 => (if (bt149.1 == t105 && (bt149.2.1 == t106 && (bt149.2.2.1 == t107 && (bt149.2.2.2 == t108)))) = true then ((label_Meet.f t105 t106 t107 t108 t105 t106 t107 t108).bind fun bt153 => (if (bt153.1 == t105 && (bt153.2.1 == t106 && (bt153.2.2.1 == t107 && (bt153.2.2.2 == t108)))) = true then ((label_Bottom.f).bind fun bt157 => ((label_Join.f t105 t106 t107 t108 bt157.1 bt157.2.1 bt157.2.2.1 bt157.2.2.2).bind fun bt161 => (if (bt161.1 == t105 && (bt161.2.1 == t106 && (bt161.2.2.1 == t107 && (bt161.2.2.2 == t108)))) = true then ((label_Bottom.f).bind fun bt165 => ((label_Meet.f t105 t106 t107 t108 bt165.1 bt165.2.1 bt165.2.2.1 bt165.2.2.2).bind fun bt169 => ((label_Bottom.f).bind fun bt173 => (some (bt169.1 == bt173.1 && (bt169.2.1 == bt173.2.1 && (bt169.2.2.1 == bt173.2.2.1 && (bt169.2.2.2 == bt173.2.2.2)))))))) else (some false)))) else (some false))) else (some false))) else (some false)))))) else (some false))))))) = some r := H
    have A7 := Aside0.mk A70
    clear A70
    replace H := Option.bind_eq_some_iff.mp H
    obtain ⟨⟨t113, t114, t115, t116⟩, A80, H⟩ := H
    replace H : ((label_Join.f t105 t106 t107 t108 t109 t110 t111 t112).bind fun bt117 => ((label_Join.f bt117.1 bt117.2.1 bt117.2.2.1 bt117.2.2.2 t113 t114 t115 t116).bind fun bt121 => ((label_Join.f t109 t110 t111 t112 t113 t114 t115 t116).bind fun bt125 => ((label_Join.f t105 t106 t107 t108 bt125.1 bt125.2.1 bt125.2.2.1 bt125.2.2.2).bind fun bt129 => (if (bt121.1 == bt129.1 && (bt121.2.1 == bt129.2.1 && (bt121.2.2.1 == bt129.2.2.1 && (bt121.2.2.2 == bt129.2.2.2)))) = true then ((label_Meet.f t105 t106 t107 t108 t109 t110 t111 t112).bind fun bt133 => ((label_Meet.f bt133.1 bt133.2.1 bt133.2.2.1 bt133.2.2.2 t113 t114 t115 t116).bind fun bt137 => ((label_Meet.f t109 t110 t111 t112 t113 t114 t115 t116).bind fun bt141 => ((label_Meet.f t105 t106 t107 t108 bt141.1 bt141.2.1 bt141.2.2.1 bt141.2.2.2).bind fun bt145 => (if (bt137.1 == bt145.1 && (bt137.2.1 == bt145.2.1 && (bt137.2.2.1 == bt145.2.2.1 && (bt137.2.2.2 == bt145.2.2.2)))) = true then ((label_Join.f t105 t106 t107 t108 t105 t106 t107 t108).bind fun bt149 => (if (bt149.1 == t105 && (bt149.2.1 == t106 && (bt149.2.2.1 == t107 && (bt149.2.2.2 == t108)))) = true then ((label_Meet.f t105 t106 t107 t108 t105 t106 t107 t108).bind fun bt153 => (if (bt153.1 == t105 && (bt153.2.1 == t106 && (bt153.2.2.1 == t107 && (bt153.2.2.2 == t108)))) = true then ((label_Bottom.f).bind fun bt157 => ((label_Join.f t105 t106 t107 t108 bt157.1 bt157.2.1 bt157.2.2.1 bt157.2.2.2).bind fun bt161 => (if (bt161.1 == t105 && (bt161.2.1 == t106 && (bt161.2.2.1 == t107 && (bt161.2.2.2 == t108)))) = true then ((label_Bottom.f).bind fun bt165 => ((label_Meet.f t105 t106 t107 t108 bt165.1 bt165.2.1 bt165.2.2.1 bt165.2.2.2).bind fun bt169 => ((label_Bottom.f).bind fun bt173 => (some (bt169.1 == bt173.1 && (bt169.2.1 == bt173.2.1 && (bt169.2.2.1 == bt173.2.2.1 && (bt169.2.2.2 == bt173.2.2.2)))))))) else (some false)))) else (some false))) else (some false))) else (some false)))))) else (some false)))))) = some r := H
    have A8 := Aside0.mk A80
    clear A80
    replace H := Option.bind_eq_some_iff.mp H
    obtain ⟨⟨t117, t118, t119, t120⟩, A90, H⟩ := H
    replace H : ((label_Join.f t117 t118 t119 t120 t113 t114 t115 t116).bind fun bt121 => ((label_Join.f t109 t110 t111 t112 t113 t114 t115 t116).bind fun bt125 => ((label_Join.f t105 t106 t107 t108 bt125.1 bt125.2.1 bt125.2.2.1 bt125.2.2.2).bind fun bt129 => (if (bt121.1 == bt129.1 && (bt121.2.1 == bt129.2.1 && (bt121.2.2.1 == bt129.2.2.1 && (bt121.2.2.2 == bt129.2.2.2)))) = true then ((label_Meet.f t105 t106 t107 t108 t109 t110 t111 t112).bind fun bt133 => ((label_Meet.f bt133.1 bt133.2.1 bt133.2.2.1 bt133.2.2.2 t113 t114 t115 t116).bind fun bt137 => ((label_Meet.f t109 t110 t111 t112 t113 t114 t115 t116).bind fun bt141 => ((label_Meet.f t105 t106 t107 t108 bt141.1 bt141.2.1 bt141.2.2.1 bt141.2.2.2).bind fun bt145 => (if (bt137.1 == bt145.1 && (bt137.2.1 == bt145.2.1 && (bt137.2.2.1 == bt145.2.2.1 && (bt137.2.2.2 == bt145.2.2.2)))) = true then ((label_Join.f t105 t106 t107 t108 t105 t106 t107 t108).bind fun bt149 => (if (bt149.1 == t105 && (bt149.2.1 == t106 && (bt149.2.2.1 == t107 && (bt149.2.2.2 == t108)))) = true then ((label_Meet.f t105 t106 t107 t108 t105 t106 t107 t108).bind fun bt153 => (if (bt153.1 == t105 && (bt153.2.1 == t106 && (bt153.2.2.1 == t107 && (bt153.2.2.2 == t108)))) = true then ((label_Bottom.f).bind fun bt157 => ((label_Join.f t105 t106 t107 t108 bt157.1 bt157.2.1 bt157.2.2.1 bt157.2.2.2).bind fun bt161 => (if (bt161.1 == t105 && (bt161.2.1 == t106 && (bt161.2.2.1 == t107 && (bt161.2.2.2 == t108)))) = true then ((label_Bottom.f).bind fun bt165 => ((label_Meet.f t105 t106 t107 t108 bt165.1 bt165.2.1 bt165.2.2.1 bt165.2.2.2).bind fun bt169 => ((label_Bottom.f).bind fun bt173 => (some (bt169.1 == bt173.1 && (bt169.2.1 == bt173.2.1 && (bt169.2.2.1 == bt173.2.2.1 && (bt169.2.2.2 == bt173.2.2.2)))))))) else (some false)))) else (some false))) else (some false))) else (some false)))))) else (some false))))) = some r := H
    have A9 := Aside0.mk A90
    clear A90
    replace H := Option.bind_eq_some_iff.mp H
    obtain ⟨⟨t121, t122, t123, t124⟩, A100, H⟩ := H
    replace H : ((label_Join.f t109 t110 t111 t112 t113 t114 t115 t116).bind fun bt125 => ((label_Join.f t105 t106 t107 t108 bt125.1 bt125.2.1 bt125.2.2.1 bt125.2.2.2).bind fun bt129 => (if (t121 == bt129.1 && (t122 == bt129.2.1 && (t123 == bt129.2.2.1 && (t124 == bt129.2.2.2)))) = true then ((label_Meet.f t105 t106 t107 t108 t109 t110 t111 t112).bind fun bt133 => ((label_Meet.f bt133.1 bt133.2.1 bt133.2.2.1 bt133.2.2.2 t113 t114 t115 t116).bind fun bt137 => ((label_Meet.f t109 t110 t111 t112 t113 t114 t115 t116).bind fun bt141 => ((label_Meet.f t105 t106 t107 t108 bt141.1 bt141.2.1 bt141.2.2.1 bt141.2.2.2).bind fun bt145 => (if (bt137.1 == bt145.1 && (bt137.2.1 == bt145.2.1 && (bt137.2.2.1 == bt145.2.2.1 && (bt137.2.2.2 == bt145.2.2.2)))) = true then ((label_Join.f t105 t106 t107 t108 t105 t106 t107 t108).bind fun bt149 => (if (bt149.1 == t105 && (bt149.2.1 == t106 && (bt149.2.2.1 == t107 && (bt149.2.2.2 == t108)))) = true then ((label_Meet.f t105 t106 t107 t108 t105 t106 t107 t108).bind fun bt153 => (if (bt153.1 == t105 && (bt153.2.1 == t106 && (bt153.2.2.1 == t107 && (bt153.2.2.2 == t108)))) = true then ((label_Bottom.f).bind fun bt157 => ((label_Join.f t105 t106 t107 t108 bt157.1 bt157.2.1 bt157.2.2.1 bt157.2.2.2).bind fun bt161 => (if (bt161.1 == t105 && (bt161.2.1 == t106 && (bt161.2.2.1 == t107 && (bt161.2.2.2 == t108)))) = true then ((label_Bottom.f).bind fun bt165 => ((label_Meet.f t105 t106 t107 t108 bt165.1 bt165.2.1 bt165.2.2.1 bt165.2.2.2).bind fun bt169 => ((label_Bottom.f).bind fun bt173 => (some (bt169.1 == bt173.1 && (bt169.2.1 == bt173.2.1 && (bt169.2.2.1 == bt173.2.2.1 && (bt169.2.2.2 == bt173.2.2.2)))))))) else (some false)))) else (some false))) else (some false))) else (some false)))))) else (some false)))) = some r := H
    have A10 := Aside0.mk A100
    clear A100
    replace H := Option.bind_eq_some_iff.mp H
    obtain ⟨⟨t125, t126, t127, t128⟩, A110, H⟩ := H
    replace H : ((label_Join.f t105 t106 t107 t108 t125 t126 t127 t128).bind fun bt129 => (if (t121 == bt129.1 && (t122 == bt129.2.1 && (t123 == bt129.2.2.1 && (t124 == bt129.2.2.2)))) = true then ((label_Meet.f t105 t106 t107 t108 t109 t110 t111 t112).bind fun bt133 => ((label_Meet.f bt133.1 bt133.2.1 bt133.2.2.1 bt133.2.2.2 t113 t114 t115 t116).bind fun bt137 => ((label_Meet.f t109 t110 t111 t112 t113 t114 t115 t116).bind fun bt141 => ((label_Meet.f t105 t106 t107 t108 bt141.1 bt141.2.1 bt141.2.2.1 bt141.2.2.2).bind fun bt145 => (if (bt137.1 == bt145.1 && (bt137.2.1 == bt145.2.1 && (bt137.2.2.1 == bt145.2.2.1 && (bt137.2.2.2 == bt145.2.2.2)))) = true then ((label_Join.f t105 t106 t107 t108 t105 t106 t107 t108).bind fun bt149 => (if (bt149.1 == t105 && (bt149.2.1 == t106 && (bt149.2.2.1 == t107 && (bt149.2.2.2 == t108)))) = true then ((label_Meet.f t105 t106 t107 t108 t105 t106 t107 t108).bind fun bt153 => (if (bt153.1 == t105 && (bt153.2.1 == t106 && (bt153.2.2.1 == t107 && (bt153.2.2.2 == t108)))) = true then ((label_Bottom.f).bind fun bt157 => ((label_Join.f t105 t106 t107 t108 bt157.1 bt157.2.1 bt157.2.2.1 bt157.2.2.2).bind fun bt161 => (if (bt161.1 == t105 && (bt161.2.1 == t106 && (bt161.2.2.1 == t107 && (bt161.2.2.2 == t108)))) = true then ((label_Bottom.f).bind fun bt165 => ((label_Meet.f t105 t106 t107 t108 bt165.1 bt165.2.1 bt165.2.2.1 bt165.2.2.2).bind fun bt169 => ((label_Bottom.f).bind fun bt173 => (some (bt169.1 == bt173.1 && (bt169.2.1 == bt173.2.1 && (bt169.2.2.1 == bt173.2.2.1 && (bt169.2.2.2 == bt173.2.2.2)))))))) else (some false)))) else (some false))) else (some false))) else (some false)))))) else (some false))) = some r := H
    have A11 := Aside0.mk A110
    clear A110
    replace H := Option.bind_eq_some_iff.mp H
    obtain ⟨⟨t129, t130, t131, t132⟩, A120, H⟩ := H
    replace H : (if (t121 == t129 && (t122 == t130 && (t123 == t131 && (t124 == t132)))) = true then ((label_Meet.f t105 t106 t107 t108 t109 t110 t111 t112).bind fun bt133 => ((label_Meet.f bt133.1 bt133.2.1 bt133.2.2.1 bt133.2.2.2 t113 t114 t115 t116).bind fun bt137 => ((label_Meet.f t109 t110 t111 t112 t113 t114 t115 t116).bind fun bt141 => ((label_Meet.f t105 t106 t107 t108 bt141.1 bt141.2.1 bt141.2.2.1 bt141.2.2.2).bind fun bt145 => (if (bt137.1 == bt145.1 && (bt137.2.1 == bt145.2.1 && (bt137.2.2.1 == bt145.2.2.1 && (bt137.2.2.2 == bt145.2.2.2)))) = true then ((label_Join.f t105 t106 t107 t108 t105 t106 t107 t108).bind fun bt149 => (if (bt149.1 == t105 && (bt149.2.1 == t106 && (bt149.2.2.1 == t107 && (bt149.2.2.2 == t108)))) = true then ((label_Meet.f t105 t106 t107 t108 t105 t106 t107 t108).bind fun bt153 => (if (bt153.1 == t105 && (bt153.2.1 == t106 && (bt153.2.2.1 == t107 && (bt153.2.2.2 == t108)))) = true then ((label_Bottom.f).bind fun bt157 => ((label_Join.f t105 t106 t107 t108 bt157.1 bt157.2.1 bt157.2.2.1 bt157.2.2.2).bind fun bt161 => (if (bt161.1 == t105 && (bt161.2.1 == t106 && (bt161.2.2.1 == t107 && (bt161.2.2.2 == t108)))) = true then ((label_Bottom.f).bind fun bt165 => ((label_Meet.f t105 t106 t107 t108 bt165.1 bt165.2.1 bt165.2.2.1 bt165.2.2.2).bind fun bt169 => ((label_Bottom.f).bind fun bt173 => (some (bt169.1 == bt173.1 && (bt169.2.1 == bt173.2.1 && (bt169.2.2.1 == bt173.2.2.1 && (bt169.2.2.2 == bt173.2.2.2)))))))) else (some false)))) else (some false))) else (some false))) else (some false)))))) else (some false)) = some r := H
    have A12 := Aside0.mk A120
    clear A120
    by_cases c13 : (t121 == t129 && (t122 == t130 && (t123 == t131 && (t124 == t132)))) = true
    · rw [if_pos c13] at H
      have c13b0 : (t121 == t129 && (t122 == t130 && (t123 == t131 && (t124 == t132)))) = true := c13
      (try (have c13b1 : decide (t121 = t129 && (t122 == t130 && (t123 == t131 && (t124 == t132)))) = true := by simpa using c13))
      (try (have c13b2 : (t121 == t129 && (t122 == t130 && (t123 == t131 && (t124 == t132)))) = true := by simpa using c13))
      clear c13
      replace H := Option.bind_eq_some_iff.mp H
      obtain ⟨⟨t133, t134, t135, t136⟩, A140, H⟩ := H
      replace H : ((label_Meet.f t133 t134 t135 t136 t113 t114 t115 t116).bind fun bt137 => ((label_Meet.f t109 t110 t111 t112 t113 t114 t115 t116).bind fun bt141 => ((label_Meet.f t105 t106 t107 t108 bt141.1 bt141.2.1 bt141.2.2.1 bt141.2.2.2).bind fun bt145 => (if (bt137.1 == bt145.1 && (bt137.2.1 == bt145.2.1 && (bt137.2.2.1 == bt145.2.2.1 && (bt137.2.2.2 == bt145.2.2.2)))) = true then ((label_Join.f t105 t106 t107 t108 t105 t106 t107 t108).bind fun bt149 => (if (bt149.1 == t105 && (bt149.2.1 == t106 && (bt149.2.2.1 == t107 && (bt149.2.2.2 == t108)))) = true then ((label_Meet.f t105 t106 t107 t108 t105 t106 t107 t108).bind fun bt153 => (if (bt153.1 == t105 && (bt153.2.1 == t106 && (bt153.2.2.1 == t107 && (bt153.2.2.2 == t108)))) = true then ((label_Bottom.f).bind fun bt157 => ((label_Join.f t105 t106 t107 t108 bt157.1 bt157.2.1 bt157.2.2.1 bt157.2.2.2).bind fun bt161 => (if (bt161.1 == t105 && (bt161.2.1 == t106 && (bt161.2.2.1 == t107 && (bt161.2.2.2 == t108)))) = true then ((label_Bottom.f).bind fun bt165 => ((label_Meet.f t105 t106 t107 t108 bt165.1 bt165.2.1 bt165.2.2.1 bt165.2.2.2).bind fun bt169 => ((label_Bottom.f).bind fun bt173 => (some (bt169.1 == bt173.1 && (bt169.2.1 == bt173.2.1 && (bt169.2.2.1 == bt173.2.2.1 && (bt169.2.2.2 == bt173.2.2.2)))))))) else (some false)))) else (some false))) else (some false))) else (some false))))) = some r := H
      have A14 := Aside0.mk A140
      clear A140
      replace H := Option.bind_eq_some_iff.mp H
      obtain ⟨⟨t137, t138, t139, t140⟩, A150, H⟩ := H
      replace H : ((label_Meet.f t109 t110 t111 t112 t113 t114 t115 t116).bind fun bt141 => ((label_Meet.f t105 t106 t107 t108 bt141.1 bt141.2.1 bt141.2.2.1 bt141.2.2.2).bind fun bt145 => (if (t137 == bt145.1 && (t138 == bt145.2.1 && (t139 == bt145.2.2.1 && (t140 == bt145.2.2.2)))) = true then ((label_Join.f t105 t106 t107 t108 t105 t106 t107 t108).bind fun bt149 => (if (bt149.1 == t105 && (bt149.2.1 == t106 && (bt149.2.2.1 == t107 && (bt149.2.2.2 == t108)))) = true then ((label_Meet.f t105 t106 t107 t108 t105 t106 t107 t108).bind fun bt153 => (if (bt153.1 == t105 && (bt153.2.1 == t106 && (bt153.2.2.1 == t107 && (bt153.2.2.2 == t108)))) = true then ((label_Bottom.f).bind fun bt157 => ((label_Join.f t105 t106 t107 t108 bt157.1 bt157.2.1 bt157.2.2.1 bt157.2.2.2).bind fun bt161 => (if (bt161.1 == t105 && (bt161.2.1 == t106 && (bt161.2.2.1 == t107 && (bt161.2.2.2 == t108)))) = true then ((label_Bottom.f).bind fun bt165 => ((label_Meet.f t105 t106 t107 t108 bt165.1 bt165.2.1 bt165.2.2.1 bt165.2.2.2).bind fun bt169 => ((label_Bottom.f).bind fun bt173 => (some (bt169.1 == bt173.1 && (bt169.2.1 == bt173.2.1 && (bt169.2.2.1 == bt173.2.2.1 && (bt169.2.2.2 == bt173.2.2.2)))))))) else (some false)))) else (some false))) else (some false))) else (some false)))) = some r := H
      have A15 := Aside0.mk A150
      clear A150
      replace H := Option.bind_eq_some_iff.mp H
      obtain ⟨⟨t141, t142, t143, t144⟩, A160, H⟩ := H
      replace H : ((label_Meet.f t105 t106 t107 t108 t141 t142 t143 t144).bind fun bt145 => (if (t137 == bt145.1 && (t138 == bt145.2.1 && (t139 == bt145.2.2.1 && (t140 == bt145.2.2.2)))) = true then ((label_Join.f t105 t106 t107 t108 t105 t106 t107 t108).bind fun bt149 => (if (bt149.1 == t105 && (bt149.2.1 == t106 && (bt149.2.2.1 == t107 && (bt149.2.2.2 == t108)))) = true then ((label_Meet.f t105 t106 t107 t108 t105 t106 t107 t108).bind fun bt153 => (if (bt153.1 == t105 && (bt153.2.1 == t106 && (bt153.2.2.1 == t107 && (bt153.2.2.2 == t108)))) = true then ((label_Bottom.f).bind fun bt157 => ((label_Join.f t105 t106 t107 t108 bt157.1 bt157.2.1 bt157.2.2.1 bt157.2.2.2).bind fun bt161 => (if (bt161.1 == t105 && (bt161.2.1 == t106 && (bt161.2.2.1 == t107 && (bt161.2.2.2 == t108)))) = true then ((label_Bottom.f).bind fun bt165 => ((label_Meet.f t105 t106 t107 t108 bt165.1 bt165.2.1 bt165.2.2.1 bt165.2.2.2).bind fun bt169 => ((label_Bottom.f).bind fun bt173 => (some (bt169.1 == bt173.1 && (bt169.2.1 == bt173.2.1 && (bt169.2.2.1 == bt173.2.2.1 && (bt169.2.2.2 == bt173.2.2.2)))))))) else (some false)))) else (some false))) else (some false))) else (some false))) = some r := H
      have A16 := Aside0.mk A160
      clear A160
      replace H := Option.bind_eq_some_iff.mp H
      obtain ⟨⟨t145, t146, t147, t148⟩, A170, H⟩ := H
      replace H : (if (t137 == t145 && (t138 == t146 && (t139 == t147 && (t140 == t148)))) = true then ((label_Join.f t105 t106 t107 t108 t105 t106 t107 t108).bind fun bt149 => (if (bt149.1 == t105 && (bt149.2.1 == t106 && (bt149.2.2.1 == t107 && (bt149.2.2.2 == t108)))) = true then ((label_Meet.f t105 t106 t107 t108 t105 t106 t107 t108).bind fun bt153 => (if (bt153.1 == t105 && (bt153.2.1 == t106 && (bt153.2.2.1 == t107 && (bt153.2.2.2 == t108)))) = true then ((label_Bottom.f).bind fun bt157 => ((label_Join.f t105 t106 t107 t108 bt157.1 bt157.2.1 bt157.2.2.1 bt157.2.2.2).bind fun bt161 => (if (bt161.1 == t105 && (bt161.2.1 == t106 && (bt161.2.2.1 == t107 && (bt161.2.2.2 == t108)))) = true then ((label_Bottom.f).bind fun bt165 => ((label_Meet.f t105 t106 t107 t108 bt165.1 bt165.2.1 bt165.2.2.1 bt165.2.2.2).bind fun bt169 => ((label_Bottom.f).bind fun bt173 => (some (bt169.1 == bt173.1 && (bt169.2.1 == bt173.2.1 && (bt169.2.2.1 == bt173.2.2.1 && (bt169.2.2.2 == bt173.2.2.2)))))))) else (some false)))) else (some false))) else (some false))) else (some false)) = some r := H
      have A17 := Aside0.mk A170
      clear A170
      by_cases c18 : (t137 == t145 && (t138 == t146 && (t139 == t147 && (t140 == t148)))) = true
      · rw [if_pos c18] at H
        have c18b0 : (t137 == t145 && (t138 == t146 && (t139 == t147 && (t140 == t148)))) = true := c18
        (try (have c18b1 : decide (t137 = t145 && (t138 == t146 && (t139 == t147 && (t140 == t148)))) = true := by simpa using c18))
        (try (have c18b2 : (t137 == t145 && (t138 == t146 && (t139 == t147 && (t140 == t148)))) = true := by simpa using c18))
        clear c18
        replace H := Option.bind_eq_some_iff.mp H
        obtain ⟨⟨t149, t150, t151, t152⟩, A190, H⟩ := H
        replace H : (if (t149 == t105 && (t150 == t106 && (t151 == t107 && (t152 == t108)))) = true then ((label_Meet.f t105 t106 t107 t108 t105 t106 t107 t108).bind fun bt153 => (if (bt153.1 == t105 && (bt153.2.1 == t106 && (bt153.2.2.1 == t107 && (bt153.2.2.2 == t108)))) = true then ((label_Bottom.f).bind fun bt157 => ((label_Join.f t105 t106 t107 t108 bt157.1 bt157.2.1 bt157.2.2.1 bt157.2.2.2).bind fun bt161 => (if (bt161.1 == t105 && (bt161.2.1 == t106 && (bt161.2.2.1 == t107 && (bt161.2.2.2 == t108)))) = true then ((label_Bottom.f).bind fun bt165 => ((label_Meet.f t105 t106 t107 t108 bt165.1 bt165.2.1 bt165.2.2.1 bt165.2.2.2).bind fun bt169 => ((label_Bottom.f).bind fun bt173 => (some (bt169.1 == bt173.1 && (bt169.2.1 == bt173.2.1 && (bt169.2.2.1 == bt173.2.2.1 && (bt169.2.2.2 == bt173.2.2.2)))))))) else (some false)))) else (some false))) else (some false)) = some r := H
        have A19 := Aside0.mk A190
        clear A190
        by_cases c20 : (t149 == t105 && (t150 == t106 && (t151 == t107 && (t152 == t108)))) = true
        · rw [if_pos c20] at H
          have c20b0 : (t149 == t105 && (t150 == t106 && (t151 == t107 && (t152 == t108)))) = true := c20
          (try (have c20b1 : decide (t149 = t105 && (t150 == t106 && (t151 == t107 && (t152 == t108)))) = true := by simpa using c20))
          (try (have c20b2 : (t149 == t105 && (t150 == t106 && (t151 == t107 && (t152 == t108)))) = true := by simpa using c20))
          clear c20
          replace H := Option.bind_eq_some_iff.mp H
          obtain ⟨⟨t153, t154, t155, t156⟩, A210, H⟩ := H
          replace H : (if (t153 == t105 && (t154 == t106 && (t155 == t107 && (t156 == t108)))) = true then ((label_Bottom.f).bind fun bt157 => ((label_Join.f t105 t106 t107 t108 bt157.1 bt157.2.1 bt157.2.2.1 bt157.2.2.2).bind fun bt161 => (if (bt161.1 == t105 && (bt161.2.1 == t106 && (bt161.2.2.1 == t107 && (bt161.2.2.2 == t108)))) = true then ((label_Bottom.f).bind fun bt165 => ((label_Meet.f t105 t106 t107 t108 bt165.1 bt165.2.1 bt165.2.2.1 bt165.2.2.2).bind fun bt169 => ((label_Bottom.f).bind fun bt173 => (some (bt169.1 == bt173.1 && (bt169.2.1 == bt173.2.1 && (bt169.2.2.1 == bt173.2.2.1 && (bt169.2.2.2 == bt173.2.2.2)))))))) else (some false)))) else (some false)) = some r := H
          have A21 := Aside0.mk A210
          clear A210
          by_cases c22 : (t153 == t105 && (t154 == t106 && (t155 == t107 && (t156 == t108)))) = true
          · rw [if_pos c22] at H
            have c22b0 : (t153 == t105 && (t154 == t106 && (t155 == t107 && (t156 == t108)))) = true := c22
            (try (have c22b1 : decide (t153 = t105 && (t154 == t106 && (t155 == t107 && (t156 == t108)))) = true := by simpa using c22))
            (try (have c22b2 : (t153 == t105 && (t154 == t106 && (t155 == t107 && (t156 == t108)))) = true := by simpa using c22))
            clear c22
            replace H := Option.bind_eq_some_iff.mp H
            obtain ⟨⟨t157, t158, t159, t160⟩, A230, H⟩ := H
            replace H : ((label_Join.f t105 t106 t107 t108 t157 t158 t159 t160).bind fun bt161 => (if (bt161.1 == t105 && (bt161.2.1 == t106 && (bt161.2.2.1 == t107 && (bt161.2.2.2 == t108)))) = true then ((label_Bottom.f).bind fun bt165 => ((label_Meet.f t105 t106 t107 t108 bt165.1 bt165.2.1 bt165.2.2.1 bt165.2.2.2).bind fun bt169 => ((label_Bottom.f).bind fun bt173 => (some (bt169.1 == bt173.1 && (bt169.2.1 == bt173.2.1 && (bt169.2.2.1 == bt173.2.2.1 && (bt169.2.2.2 == bt173.2.2.2)))))))) else (some false))) = some r := H
            have A23 := Aside0.mk A230
            clear A230
            replace H := Option.bind_eq_some_iff.mp H
            obtain ⟨⟨t161, t162, t163, t164⟩, A240, H⟩ := H
            replace H : (if (t161 == t105 && (t162 == t106 && (t163 == t107 && (t164 == t108)))) = true then ((label_Bottom.f).bind fun bt165 => ((label_Meet.f t105 t106 t107 t108 bt165.1 bt165.2.1 bt165.2.2.1 bt165.2.2.2).bind fun bt169 => ((label_Bottom.f).bind fun bt173 => (some (bt169.1 == bt173.1 && (bt169.2.1 == bt173.2.1 && (bt169.2.2.1 == bt173.2.2.1 && (bt169.2.2.2 == bt173.2.2.2)))))))) else (some false)) = some r := H
            have A24 := Aside0.mk A240
            clear A240
            by_cases c25 : (t161 == t105 && (t162 == t106 && (t163 == t107 && (t164 == t108)))) = true
            · rw [if_pos c25] at H
              have c25b0 : (t161 == t105 && (t162 == t106 && (t163 == t107 && (t164 == t108)))) = true := c25
              (try (have c25b1 : decide (t161 = t105 && (t162 == t106 && (t163 == t107 && (t164 == t108)))) = true := by simpa using c25))
              (try (have c25b2 : (t161 == t105 && (t162 == t106 && (t163 == t107 && (t164 == t108)))) = true := by simpa using c25))
              clear c25
              replace H := Option.bind_eq_some_iff.mp H
              obtain ⟨⟨t165, t166, t167, t168⟩, A260, H⟩ := H
              replace H : ((label_Meet.f t105 t106 t107 t108 t165 t166 t167 t168).bind fun bt169 => ((label_Bottom.f).bind fun bt173 => (some (bt169.1 == bt173.1 && (bt169.2.1 == bt173.2.1 && (bt169.2.2.1 == bt173.2.2.1 && (bt169.2.2.2 == bt173.2.2.2))))))) = some r := H
              have A26 := Aside0.mk A260
              clear A260
              replace H := Option.bind_eq_some_iff.mp H
              obtain ⟨⟨t169, t170, t171, t172⟩, A270, H⟩ := H
              replace H : ((label_Bottom.f).bind fun bt173 => (some (t169 == bt173.1 && (t170 == bt173.2.1 && (t171 == bt173.2.2.1 && (t172 == bt173.2.2.2)))))) = some r := H
              have A27 := Aside0.mk A270
              clear A270
              replace H := Option.bind_eq_some_iff.mp H
              obtain ⟨⟨t173, t174, t175, t176⟩, A280, H⟩ := H
              replace H : (some (t169 == t173 && (t170 == t174 && (t171 == t175 && (t172 == t176))))) = some r := H
              have A28 := Aside0.mk A280
              clear A280
              obtain rfl := Option.some.inj H
              go_enter Tryd.func4, Tryd.ntmps4
              try go_wp2_with (first | ((with_reducible refine gate_dst (N := 3) rfl ?_); refine box_event ?hg (N := 3) ?hd (cs := #[.int .i64 a0_0, .int .i64 a0_1, .int .i64 a0_2, .int .i64 a0_3]) (t := 23) ?hr ?_; (case hd => rfl); (case hg => rfl); (case hr => first | (go_simp; done) | (go_simp; rfl)); intro gb101 hg w29 hbox hb; have n0_ := Aside0.mk (below_step (by repeat (first | (with_reducible first | exact HB.out | apply below_alloc | apply pw_below_drewN | apply below_drew1) | exact HB.out)) hb); have n1_ := Aside0.mk (hbox); have n2_ := Aside0.mk ((by rw [hg]; exact (below_size (by repeat (first | (with_reducible first | exact HB.out | apply below_alloc | apply pw_below_drewN | apply below_drew1) | exact HB.out))) : w.heap.size ≤ gb101)); have n3_ := Aside0.mk ((by rw [hg]; exact (below_size (by repeat (first | (with_reducible first | exact HB.out | apply below_alloc | apply pw_below_drewN | apply below_drew1) | exact HB.out))) : w.heap.size ≤ gb101)); clear HB; have HB := n0_; have BK101 := n1_; have GW101 := n2_; have GE101 := n3_; clear n0_ n1_ n2_ n3_; clear hb hbox hg) | ((with_reducible refine gate_dst (N := 4) rfl ?_); refine box_event ?hg (N := 4) ?hd (cs := #[.int .i64 a1_0, .int .i64 a1_1, .int .i64 a1_2, .int .i64 a1_3]) (t := 23) ?hr ?_; (case hd => rfl); (case hg => rfl); (case hr => first | (go_simp; done) | (go_simp; rfl)); intro gb102 hg w30 hbox hb; have n0_ := Aside0.mk (blk_below (g := gb101) (o := .cells #[.int .i64 a0_0, .int .i64 a0_1, .int .i64 a0_2, .int .i64 a0_3] 23 (0, 0)) (by (with_reducible repeat (first | refine blk_drewN ?_ _ | refine blk_drew ?_ | refine blk_alloc ?_ _)); exact BK101.out) hb); have n1_ := Aside0.mk (below_step (by repeat (first | (with_reducible first | exact HB.out | apply below_alloc | apply pw_below_drewN | apply below_drew1 | refine below_set ?_ GE101.out) | exact HB.out)) hb); have n2_ := Aside0.mk (hbox); have n3_ := Aside0.mk ((by rw [hg]; exact (below_size (by repeat (first | (with_reducible first | exact HB.out | apply below_alloc | apply pw_below_drewN | apply below_drew1 | refine below_set ?_ GE101.out) | exact HB.out))) : w.heap.size ≤ gb102)); have n4_ := Aside0.mk ((by rw [hg]; exact (below_size (by repeat (first | (with_reducible first | exact HB.out | apply below_alloc | apply pw_below_drewN | apply below_drew1 | refine below_set ?_ GE101.out) | exact HB.out))) : w.heap.size ≤ gb102)); have n5_ := Aside0.mk ((by rw [hg]; exact Nat.ne_of_lt (blk_lt (g := gb101) (o := .cells #[.int .i64 a0_0, .int .i64 a0_1, .int .i64 a0_2, .int .i64 a0_3] 23 (0, 0)) (by (with_reducible repeat (first | refine blk_drewN ?_ _ | refine blk_drew ?_ | refine blk_alloc ?_ _)); exact BK101.out)) : gb101 ≠ gb102)); have n6_ := Aside0.mk ((by rw [hg]; exact Nat.ne_of_gt (blk_lt (g := gb101) (o := .cells #[.int .i64 a0_0, .int .i64 a0_1, .int .i64 a0_2, .int .i64 a0_3] 23 (0, 0)) (by (with_reducible repeat (first | refine blk_drewN ?_ _ | refine blk_drew ?_ | refine blk_alloc ?_ _)); exact BK101.out)) : gb102 ≠ gb101)); clear BK101; clear HB; have BK101 := n0_; have HB := n1_; have BK102 := n2_; have GW102 := n3_; have GE102 := n4_; have NB101_102 := n5_; have NB102_101 := n6_; clear n0_ n1_ n2_ n3_ n4_ n5_ n6_; clear hb hbox hg) | ((with_reducible refine gate_dst (N := 5) rfl ?_); refine box_event ?hg (N := 5) ?hd (cs := #[.int .i64 a2_0, .int .i64 a2_1, .int .i64 a2_2, .int .i64 a2_3]) (t := 23) ?hr ?_; (case hd => rfl); (case hg => rfl); (case hr => first | (go_simp; done) | (go_simp; rfl)); intro gb103 hg w31 hbox hb; have n0_ := Aside0.mk (blk_below (g := gb101) (o := .cells #[.int .i64 a0_0, .int .i64 a0_1, .int .i64 a0_2, .int .i64 a0_3] 23 (0, 0)) (by (with_reducible repeat (first | refine blk_drewN ?_ _ | refine blk_drew ?_ | refine blk_alloc ?_ _)); exact BK101.out) hb); have n1_ := Aside0.mk (blk_below (g := gb102) (o := .cells #[.int .i64 a1_0, .int .i64 a1_1, .int .i64 a1_2, .int .i64 a1_3] 23 (0, 0)) (by (with_reducible repeat (first | refine blk_drewN ?_ _ | refine blk_drew ?_ | refine blk_alloc ?_ _)); exact BK102.out) hb); have n2_ := Aside0.mk (below_step (by repeat (first | (with_reducible first | exact HB.out | apply below_alloc | apply pw_below_drewN | apply below_drew1 | refine below_set ?_ GE101.out | refine below_set ?_ GE102.out) | exact HB.out)) hb); have n3_ := Aside0.mk (hbox); have n4_ := Aside0.mk ((by rw [hg]; exact (below_size (by repeat (first | (with_reducible first | exact HB.out | apply below_alloc | apply pw_below_drewN | apply below_drew1 | refine below_set ?_ GE101.out | refine below_set ?_ GE102.out) | exact HB.out))) : w.heap.size ≤ gb103)); have n5_ := Aside0.mk ((by rw [hg]; exact (below_size (by repeat (first | (with_reducible first | exact HB.out | apply below_alloc | apply pw_below_drewN | apply below_drew1 | refine below_set ?_ GE101.out | refine below_set ?_ GE102.out) | exact HB.out))) : w.heap.size ≤ gb103)); have n6_ := Aside0.mk ((by rw [hg]; exact Nat.ne_of_lt (blk_lt (g := gb101) (o := .cells #[.int .i64 a0_0, .int .i64 a0_1, .int .i64 a0_2, .int .i64 a0_3] 23 (0, 0)) (by (with_reducible repeat (first | refine blk_drewN ?_ _ | refine blk_drew ?_ | refine blk_alloc ?_ _)); exact BK101.out)) : gb101 ≠ gb103)); have n7_ := Aside0.mk ((by rw [hg]; exact Nat.ne_of_gt (blk_lt (g := gb101) (o := .cells #[.int .i64 a0_0, .int .i64 a0_1, .int .i64 a0_2, .int .i64 a0_3] 23 (0, 0)) (by (with_reducible repeat (first | refine blk_drewN ?_ _ | refine blk_drew ?_ | refine blk_alloc ?_ _)); exact BK101.out)) : gb103 ≠ gb101)); have n8_ := Aside0.mk ((by rw [hg]; exact Nat.ne_of_lt (blk_lt (g := gb102) (o := .cells #[.int .i64 a1_0, .int .i64 a1_1, .int .i64 a1_2, .int .i64 a1_3] 23 (0, 0)) (by (with_reducible repeat (first | refine blk_drewN ?_ _ | refine blk_drew ?_ | refine blk_alloc ?_ _)); exact BK102.out)) : gb102 ≠ gb103)); have n9_ := Aside0.mk ((by rw [hg]; exact Nat.ne_of_gt (blk_lt (g := gb102) (o := .cells #[.int .i64 a1_0, .int .i64 a1_1, .int .i64 a1_2, .int .i64 a1_3] 23 (0, 0)) (by (with_reducible repeat (first | refine blk_drewN ?_ _ | refine blk_drew ?_ | refine blk_alloc ?_ _)); exact BK102.out)) : gb103 ≠ gb102)); clear BK101; clear BK102; clear HB; have BK101 := n0_; have BK102 := n1_; have HB := n2_; have BK103 := n3_; have GW103 := n4_; have GE103 := n5_; have NB101_103 := n6_; have NB103_101 := n7_; have NB102_103 := n8_; have NB103_102 := n9_; clear n0_ n1_ n2_ n3_ n4_ n5_ n6_ n7_ n8_ n9_; clear hb hbox hg) | ((with_reducible refine gate_callee (f := 14) rfl ?_); refine goesL_ (some 7) rfl rfl Tryd.func14 (by kernel_rfl) rfl #[] rfl (by (try simp only [List.map_toArray, List.map_cons, List.map_nil]); first | done | rfl | (simp only [List.length_drop, List.length_take]; rfl)) ?_; (with_reducible refine (donjonlaw4_known.calls  true _ (by first | exact HG.out | exact Laid.below HG.out (by repeat (first | (with_reducible first | exact HB.out | apply below_alloc | apply pw_below_drewN | apply below_drew1) | exact HB.out))) A4.out).mono ?_); rintro e w32 ⟨rfl, hb⟩; refine ⟨_, rfl, ?_⟩; have n0_ := Aside0.mk (blk_below (g := gb101) (o := .cells #[.int .i64 a0_0, .int .i64 a0_1, .int .i64 a0_2, .int .i64 a0_3] 23 (0, 0)) (by (with_reducible repeat (first | refine blk_drewN ?_ _ | refine blk_drew ?_ | refine blk_alloc ?_ _)); exact BK101.out) hb); have n1_ := Aside0.mk (blk_below (g := gb102) (o := .cells #[.int .i64 a1_0, .int .i64 a1_1, .int .i64 a1_2, .int .i64 a1_3] 23 (0, 0)) (by (with_reducible repeat (first | refine blk_drewN ?_ _ | refine blk_drew ?_ | refine blk_alloc ?_ _)); exact BK102.out) hb); have n2_ := Aside0.mk (blk_below (g := gb103) (o := .cells #[.int .i64 a2_0, .int .i64 a2_1, .int .i64 a2_2, .int .i64 a2_3] 23 (0, 0)) (by (with_reducible repeat (first | refine blk_drewN ?_ _ | refine blk_drew ?_ | refine blk_alloc ?_ _)); exact BK103.out) hb); have n3_ := Aside0.mk (below_step (by repeat (first | (with_reducible first | exact HB.out | apply below_alloc | apply pw_below_drewN | apply below_drew1 | refine below_set ?_ GE101.out | refine below_set ?_ GE102.out | refine below_set ?_ GE103.out) | exact HB.out)) hb); clear BK101; clear BK102; clear BK103; clear HB; have BK101 := n0_; have BK102 := n1_; have BK103 := n2_; have HB := n3_; clear n0_ n1_ n2_ n3_; (try clear hb); (try clear hb2); (try clear hk); (try clear hi)))
              have n0_ := Aside0.mk (blk_drew BK101.out)
              have n1_ := Aside0.mk (blk_drew BK102.out)
              have n2_ := Aside0.mk (blk_drew BK103.out)
              have n3_ := Aside0.mk (below_drew1 HB.out)
              clear BK101
              clear BK102
              clear BK103
              clear HB
              have BK101 := n0_
              have BK102 := n1_
              have BK103 := n2_
              have HB := n3_
              clear n0_ n1_ n2_ n3_
              refine start_ (n := 9) (S := fun w' => w'.cell? ⟨gb101, 0, none⟩ = some (.int .i64 a0_0) ∧ w'.cell? ⟨gb101, 1, none⟩ = some (.int .i64 a0_1) ∧ w'.cell? ⟨gb101, 2, none⟩ = some (.int .i64 a0_2) ∧ w'.cell? ⟨gb101, 3, none⟩ = some (.int .i64 a0_3) ∧ w'.cell? ⟨gb102, 0, none⟩ = some (.int .i64 a1_0) ∧ w'.cell? ⟨gb102, 1, none⟩ = some (.int .i64 a1_1) ∧ w'.cell? ⟨gb102, 2, none⟩ = some (.int .i64 a1_2) ∧ w'.cell? ⟨gb102, 3, none⟩ = some (.int .i64 a1_3) ∧ w'.cell? ⟨gb103, 0, none⟩ = some (.int .i64 a2_0) ∧ w'.cell? ⟨gb103, 1, none⟩ = some (.int .i64 a2_1) ∧ w'.cell? ⟨gb103, 2, none⟩ = some (.int .i64 a2_2) ∧ w'.cell? ⟨gb103, 3, none⟩ = some (.int .i64 a2_3)) (ds := [6, 7, 8]) #[false, false, false, false, false, false, false, false, false] (by kernel_rfl) rfl rfl ⟨(blk_cell BK101.out 0).trans rfl, (blk_cell BK101.out 1).trans rfl, (blk_cell BK101.out 2).trans rfl, (blk_cell BK101.out 3).trans rfl, (blk_cell BK102.out 0).trans rfl, (blk_cell BK102.out 1).trans rfl, (blk_cell BK102.out 2).trans rfl, (blk_cell BK102.out 3).trans rfl, (blk_cell BK103.out 0).trans rfl, (blk_cell BK103.out 1).trans rfl, (blk_cell BK103.out 2).trans rfl, (blk_cell BK103.out 3).trans rfl⟩ (fun hHeld => ?_); refine with_tabW donjonlaw4_LabelJoins.tab3 donjonlaw4_LabelJoins.bits3 (fun HT_ HW_ => ?_)
              generalize w32.drew = w33 at BK101 BK102 BK103 HB hHeld ⊢
              refine take_ (i := 0) (N := some 9) (v := ?_) (a' := ?_) #[true, false, false, false, false, false, false, false, false] rfl rfl (take_ofW HT_.out HW_.out (by kernel_rfl)) (fun _ _ _ h => h) (Or.inl ⟨by rfl, ?_⟩) hHeld ?_ ?_
              rotate_left
              · rintro w' ⟨s0, s1, s2, s3, s4, s5, s6, s7, s8, s9, s10, s11⟩
                go_simp
                with_reducible rfl
              rotate_left
              · simp only [Act.put, List.setIfInBounds_toArray, List.set_cons_zero, List.set_cons_succ, i64_w, i32_w]
                rfl
              refine take_ (i := 2) (N := some 11) (v := ?_) (a' := ?_) #[true, false, true, false, false, false, false, false, false] rfl rfl (take_ofW HT_.out HW_.out (by kernel_rfl)) (fun _ _ _ h => h) (Or.inl ⟨by rfl, ?_⟩) hHeld ?_ ?_
              rotate_left
              · rintro w' ⟨s0, s1, s2, s3, s4, s5, s6, s7, s8, s9, s10, s11⟩
                go_simp
                with_reducible rfl
              rotate_left
              · simp only [Act.put, List.setIfInBounds_toArray, List.set_cons_zero, List.set_cons_succ, i64_w, i32_w]
                rfl
              refine take_ (i := 4) (N := some 13) (v := ?_) (a' := ?_) #[true, false, true, false, true, false, false, false, false] rfl rfl (take_ofW HT_.out HW_.out (by kernel_rfl)) (fun _ _ _ h => h) (Or.inl ⟨by rfl, ?_⟩) hHeld ?_ ?_
              rotate_left
              · rintro w' ⟨s0, s1, s2, s3, s4, s5, s6, s7, s8, s9, s10, s11⟩
                go_simp
                with_reducible rfl
              rotate_left
              · simp only [Act.put, List.setIfInBounds_toArray, List.set_cons_zero, List.set_cons_succ, i64_w, i32_w]
                rfl
              refine one_ (i := 1) (N := some 10) #[true, true, true, false, true, false, false, false, false] rfl rfl (one_of HT_.out (by kernel_rfl)) (by decide) (fun K hK => ?_)
              refine goes_ Tryd.func15 (by kernel_rfl) rfl #[.agg #[.int .i64 a0_0, .int .i64 a0_1, .int .i64 a0_2, .int .i64 a0_3]] (by rfl) rfl rfl (by (try simp only [List.map_toArray, List.map_cons, List.map_nil]); first | done | rfl | (simp only [List.length_drop, List.length_take]; rfl)) ?_
              with_reducible refine (donjonlaw4_Good.calls a0_0 a0_1 a0_2 a0_3 t105 t106 t107 t108 _ A6.out).mono ?_
              rintro e w34 ⟨rfl, hb⟩
              refine ⟨_, rfl, ?_⟩
              have n0_ := Aside0.mk (blk_below (g := gb101) (o := .cells #[.int .i64 a0_0, .int .i64 a0_1, .int .i64 a0_2, .int .i64 a0_3] 23 (0, 0)) (by (with_reducible repeat (first | refine blk_drewN ?_ _ | refine blk_drew ?_ | refine blk_alloc ?_ _)); exact BK101.out) hb)
              have n1_ := Aside0.mk (blk_below (g := gb102) (o := .cells #[.int .i64 a1_0, .int .i64 a1_1, .int .i64 a1_2, .int .i64 a1_3] 23 (0, 0)) (by (with_reducible repeat (first | refine blk_drewN ?_ _ | refine blk_drew ?_ | refine blk_alloc ?_ _)); exact BK102.out) hb)
              have n2_ := Aside0.mk (blk_below (g := gb103) (o := .cells #[.int .i64 a2_0, .int .i64 a2_1, .int .i64 a2_2, .int .i64 a2_3] 23 (0, 0)) (by (with_reducible repeat (first | refine blk_drewN ?_ _ | refine blk_drew ?_ | refine blk_alloc ?_ _)); exact BK103.out) hb)
              have n3_ := Aside0.mk (below_step (by repeat (first | (with_reducible first | exact HB.out | apply below_alloc | apply pw_below_drewN | apply below_drew1 | refine below_set ?_ GE101.out | refine below_set ?_ GE102.out | refine below_set ?_ GE103.out) | exact HB.out)) hb)
              clear BK101
              clear BK102
              clear BK103
              clear HB
              have BK101 := n0_
              have BK102 := n1_
              have BK103 := n2_
              have HB := n3_
              clear n0_ n1_ n2_ n3_
              (try clear hb)
              (try clear hb2)
              (try clear hk)
              (try clear hi)
              refine hK.out _ _ ⟨(blk_cell BK101.out 0).trans rfl, (blk_cell BK101.out 1).trans rfl, (blk_cell BK101.out 2).trans rfl, (blk_cell BK101.out 3).trans rfl, (blk_cell BK102.out 0).trans rfl, (blk_cell BK102.out 1).trans rfl, (blk_cell BK102.out 2).trans rfl, (blk_cell BK102.out 3).trans rfl, (blk_cell BK103.out 0).trans rfl, (blk_cell BK103.out 1).trans rfl, (blk_cell BK103.out 2).trans rfl, (blk_cell BK103.out 3).trans rfl⟩ (fun hHeld => ?_)
              clear hK K
              refine norm_ (a' := ?_) ?_ ?_
              rotate_left
              · show Act.put _ (some 10) _ = _
                simp only [Act.put, List.setIfInBounds_toArray, List.set_cons_zero, List.set_cons_succ, i64_w, i32_w]
                rfl
              refine one_ (i := 3) (N := some 12) #[true, true, true, true, true, false, false, false, false] rfl rfl (one_of HT_.out (by kernel_rfl)) (by decide) (fun K hK => ?_)
              refine goes_ Tryd.func15 (by kernel_rfl) rfl #[.agg #[.int .i64 a1_0, .int .i64 a1_1, .int .i64 a1_2, .int .i64 a1_3]] (by rfl) rfl rfl (by (try simp only [List.map_toArray, List.map_cons, List.map_nil]); first | done | rfl | (simp only [List.length_drop, List.length_take]; rfl)) ?_
              with_reducible refine (donjonlaw4_Good.calls a1_0 a1_1 a1_2 a1_3 t109 t110 t111 t112 _ A7.out).mono ?_
              rintro e w35 ⟨rfl, hb⟩
              refine ⟨_, rfl, ?_⟩
              have n0_ := Aside0.mk (blk_below (g := gb101) (o := .cells #[.int .i64 a0_0, .int .i64 a0_1, .int .i64 a0_2, .int .i64 a0_3] 23 (0, 0)) (by (with_reducible repeat (first | refine blk_drewN ?_ _ | refine blk_drew ?_ | refine blk_alloc ?_ _)); exact BK101.out) hb)
              have n1_ := Aside0.mk (blk_below (g := gb102) (o := .cells #[.int .i64 a1_0, .int .i64 a1_1, .int .i64 a1_2, .int .i64 a1_3] 23 (0, 0)) (by (with_reducible repeat (first | refine blk_drewN ?_ _ | refine blk_drew ?_ | refine blk_alloc ?_ _)); exact BK102.out) hb)
              have n2_ := Aside0.mk (blk_below (g := gb103) (o := .cells #[.int .i64 a2_0, .int .i64 a2_1, .int .i64 a2_2, .int .i64 a2_3] 23 (0, 0)) (by (with_reducible repeat (first | refine blk_drewN ?_ _ | refine blk_drew ?_ | refine blk_alloc ?_ _)); exact BK103.out) hb)
              have n3_ := Aside0.mk (below_step (by repeat (first | (with_reducible first | exact HB.out | apply below_alloc | apply pw_below_drewN | apply below_drew1 | refine below_set ?_ GE101.out | refine below_set ?_ GE102.out | refine below_set ?_ GE103.out) | exact HB.out)) hb)
              clear BK101
              clear BK102
              clear BK103
              clear HB
              have BK101 := n0_
              have BK102 := n1_
              have BK103 := n2_
              have HB := n3_
              clear n0_ n1_ n2_ n3_
              (try clear hb)
              (try clear hb2)
              (try clear hk)
              (try clear hi)
              refine hK.out _ _ ⟨(blk_cell BK101.out 0).trans rfl, (blk_cell BK101.out 1).trans rfl, (blk_cell BK101.out 2).trans rfl, (blk_cell BK101.out 3).trans rfl, (blk_cell BK102.out 0).trans rfl, (blk_cell BK102.out 1).trans rfl, (blk_cell BK102.out 2).trans rfl, (blk_cell BK102.out 3).trans rfl, (blk_cell BK103.out 0).trans rfl, (blk_cell BK103.out 1).trans rfl, (blk_cell BK103.out 2).trans rfl, (blk_cell BK103.out 3).trans rfl⟩ (fun hHeld => ?_)
              clear hK K
              refine norm_ (a' := ?_) ?_ ?_
              rotate_left
              · show Act.put _ (some 12) _ = _
                simp only [Act.put, List.setIfInBounds_toArray, List.set_cons_zero, List.set_cons_succ, i64_w, i32_w]
                rfl
              refine one_ (i := 5) (N := some 14) #[true, true, true, true, true, true, false, false, false] rfl rfl (one_of HT_.out (by kernel_rfl)) (by decide) (fun K hK => ?_)
              refine goes_ Tryd.func15 (by kernel_rfl) rfl #[.agg #[.int .i64 a2_0, .int .i64 a2_1, .int .i64 a2_2, .int .i64 a2_3]] (by rfl) rfl rfl (by (try simp only [List.map_toArray, List.map_cons, List.map_nil]); first | done | rfl | (simp only [List.length_drop, List.length_take]; rfl)) ?_
              with_reducible refine (donjonlaw4_Good.calls a2_0 a2_1 a2_2 a2_3 t113 t114 t115 t116 _ A8.out).mono ?_
              rintro e w36 ⟨rfl, hb⟩
              refine ⟨_, rfl, ?_⟩
              have n0_ := Aside0.mk (blk_below (g := gb101) (o := .cells #[.int .i64 a0_0, .int .i64 a0_1, .int .i64 a0_2, .int .i64 a0_3] 23 (0, 0)) (by (with_reducible repeat (first | refine blk_drewN ?_ _ | refine blk_drew ?_ | refine blk_alloc ?_ _)); exact BK101.out) hb)
              have n1_ := Aside0.mk (blk_below (g := gb102) (o := .cells #[.int .i64 a1_0, .int .i64 a1_1, .int .i64 a1_2, .int .i64 a1_3] 23 (0, 0)) (by (with_reducible repeat (first | refine blk_drewN ?_ _ | refine blk_drew ?_ | refine blk_alloc ?_ _)); exact BK102.out) hb)
              have n2_ := Aside0.mk (blk_below (g := gb103) (o := .cells #[.int .i64 a2_0, .int .i64 a2_1, .int .i64 a2_2, .int .i64 a2_3] 23 (0, 0)) (by (with_reducible repeat (first | refine blk_drewN ?_ _ | refine blk_drew ?_ | refine blk_alloc ?_ _)); exact BK103.out) hb)
              have n3_ := Aside0.mk (below_step (by repeat (first | (with_reducible first | exact HB.out | apply below_alloc | apply pw_below_drewN | apply below_drew1 | refine below_set ?_ GE101.out | refine below_set ?_ GE102.out | refine below_set ?_ GE103.out) | exact HB.out)) hb)
              clear BK101
              clear BK102
              clear BK103
              clear HB
              have BK101 := n0_
              have BK102 := n1_
              have BK103 := n2_
              have HB := n3_
              clear n0_ n1_ n2_ n3_
              (try clear hb)
              (try clear hb2)
              (try clear hk)
              (try clear hi)
              refine hK.out _ _ ⟨(blk_cell BK101.out 0).trans rfl, (blk_cell BK101.out 1).trans rfl, (blk_cell BK101.out 2).trans rfl, (blk_cell BK101.out 3).trans rfl, (blk_cell BK102.out 0).trans rfl, (blk_cell BK102.out 1).trans rfl, (blk_cell BK102.out 2).trans rfl, (blk_cell BK102.out 3).trans rfl, (blk_cell BK103.out 0).trans rfl, (blk_cell BK103.out 1).trans rfl, (blk_cell BK103.out 2).trans rfl, (blk_cell BK103.out 3).trans rfl⟩ (fun hHeld => ?_)
              clear hK K
              refine norm_ (a' := ?_) ?_ ?_
              rotate_left
              · show Act.put _ (some 14) _ = _
                simp only [Act.put, List.setIfInBounds_toArray, List.set_cons_zero, List.set_cons_succ, i64_w, i32_w]
                rfl
              refine last_ (i := 6) (N := none) #[true, true, true, true, true, true, true, false, false] rfl rfl (one_of HT_.out (by kernel_rfl)) (by decide) (fun K hK => ?_)
              have hs37 : w36.cell? ⟨gb101, 0, none⟩ = some (.int .i64 a0_0) := (blk_cell BK101.out 0).trans rfl
              have hfs37 := blk_frozen BK101.out 0
              have hns37_1 := NB102_101.out
              have hns37_2 := NB103_101.out
              have hms37_1 := NB101_102.out
              have hms37_2 := NB101_103.out
              have hs38 : w36.cell? ⟨gb101, 1, none⟩ = some (.int .i64 a0_1) := (blk_cell BK101.out 1).trans rfl
              have hfs38 := blk_frozen BK101.out 1
              have hns38_1 := NB102_101.out
              have hns38_2 := NB103_101.out
              have hms38_1 := NB101_102.out
              have hms38_2 := NB101_103.out
              have hs39 : w36.cell? ⟨gb101, 2, none⟩ = some (.int .i64 a0_2) := (blk_cell BK101.out 2).trans rfl
              have hfs39 := blk_frozen BK101.out 2
              have hns39_1 := NB102_101.out
              have hns39_2 := NB103_101.out
              have hms39_1 := NB101_102.out
              have hms39_2 := NB101_103.out
              have hs40 : w36.cell? ⟨gb101, 3, none⟩ = some (.int .i64 a0_3) := (blk_cell BK101.out 3).trans rfl
              have hfs40 := blk_frozen BK101.out 3
              have hns40_1 := NB102_101.out
              have hns40_2 := NB103_101.out
              have hms40_1 := NB101_102.out
              have hms40_2 := NB101_103.out
              with_reducible refine skip_ (w1 := ?_) ?_ rfl ?_ ?_
              rotate_left
              · rfl
              · go_simp
                rfl
              refine hK.out _ _ ?_
              clear hK K
              refine last_ (i := 7) (N := none) #[true, true, true, true, true, true, true, true, false] rfl rfl (one_of HT_.out (by kernel_rfl)) (by decide) (fun K hK => ?_)
              have hs41 : w36.cell? ⟨gb102, 0, none⟩ = some (.int .i64 a1_0) := (blk_cell BK102.out 0).trans rfl
              have hfs41 := blk_frozen BK102.out 0
              have hns41_0 := NB101_102.out
              have hns41_2 := NB103_102.out
              have hms41_0 := NB102_101.out
              have hms41_2 := NB102_103.out
              have hs42 : w36.cell? ⟨gb102, 1, none⟩ = some (.int .i64 a1_1) := (blk_cell BK102.out 1).trans rfl
              have hfs42 := blk_frozen BK102.out 1
              have hns42_0 := NB101_102.out
              have hns42_2 := NB103_102.out
              have hms42_0 := NB102_101.out
              have hms42_2 := NB102_103.out
              have hs43 : w36.cell? ⟨gb102, 2, none⟩ = some (.int .i64 a1_2) := (blk_cell BK102.out 2).trans rfl
              have hfs43 := blk_frozen BK102.out 2
              have hns43_0 := NB101_102.out
              have hns43_2 := NB103_102.out
              have hms43_0 := NB102_101.out
              have hms43_2 := NB102_103.out
              have hs44 : w36.cell? ⟨gb102, 3, none⟩ = some (.int .i64 a1_3) := (blk_cell BK102.out 3).trans rfl
              have hfs44 := blk_frozen BK102.out 3
              have hns44_0 := NB101_102.out
              have hns44_2 := NB103_102.out
              have hms44_0 := NB102_101.out
              have hms44_2 := NB102_103.out
              with_reducible refine skip_ (w1 := ?_) ?_ rfl ?_ ?_
              rotate_left
              · rfl
              · go_simp
                rfl
              refine hK.out _ _ ?_
              clear hK K
              refine last_ (i := 8) (N := none) #[true, true, true, true, true, true, true, true, true] rfl rfl (one_of HT_.out (by kernel_rfl)) (by decide) (fun K hK => ?_)
              have hs45 : w36.cell? ⟨gb103, 0, none⟩ = some (.int .i64 a2_0) := (blk_cell BK103.out 0).trans rfl
              have hfs45 := blk_frozen BK103.out 0
              have hns45_0 := NB101_103.out
              have hns45_1 := NB102_103.out
              have hms45_0 := NB103_101.out
              have hms45_1 := NB103_102.out
              have hs46 : w36.cell? ⟨gb103, 1, none⟩ = some (.int .i64 a2_1) := (blk_cell BK103.out 1).trans rfl
              have hfs46 := blk_frozen BK103.out 1
              have hns46_0 := NB101_103.out
              have hns46_1 := NB102_103.out
              have hms46_0 := NB103_101.out
              have hms46_1 := NB103_102.out
              have hs47 : w36.cell? ⟨gb103, 2, none⟩ = some (.int .i64 a2_2) := (blk_cell BK103.out 2).trans rfl
              have hfs47 := blk_frozen BK103.out 2
              have hns47_0 := NB101_103.out
              have hns47_1 := NB102_103.out
              have hms47_0 := NB103_101.out
              have hms47_1 := NB103_102.out
              have hs48 : w36.cell? ⟨gb103, 3, none⟩ = some (.int .i64 a2_3) := (blk_cell BK103.out 3).trans rfl
              have hfs48 := blk_frozen BK103.out 3
              have hns48_0 := NB101_103.out
              have hns48_1 := NB102_103.out
              have hms48_0 := NB103_101.out
              have hms48_1 := NB103_102.out
              with_reducible refine skip_ (w1 := ?_) ?_ rfl ?_ ?_
              rotate_left
              · rfl
              · go_simp
                rfl
              refine hK.out _ _ ?_
              clear hK K
              refine done_ (done_of HT_.out (by kernel_rfl)) ?_
              try go_wp2
              have n0_ : Aside0 (((((((((((((w36.setCell ⟨gb101, 0, none⟩ (.int .i64 t105)).setCell ⟨gb101, 1, none⟩ (.int .i64 t106)).setCell ⟨gb101, 2, none⟩ (.int .i64 t107)).setCell ⟨gb101, 3, none⟩ (.int .i64 t108)).setCell ⟨gb102, 0, none⟩ (.int .i64 t109)).setCell ⟨gb102, 1, none⟩ (.int .i64 t110)).setCell ⟨gb102, 2, none⟩ (.int .i64 t111)).setCell ⟨gb102, 3, none⟩ (.int .i64 t112)).setCell ⟨gb103, 0, none⟩ (.int .i64 t113)).setCell ⟨gb103, 1, none⟩ (.int .i64 t114)).setCell ⟨gb103, 2, none⟩ (.int .i64 t115)).setCell ⟨gb103, 3, none⟩ (.int .i64 t116)).heap[gb101]? = some (.cells #[.int .i64 t105, .int .i64 t106, .int .i64 t107, .int .i64 t108] 23 (0, 0))) := ⟨by (with_reducible repeat (first | refine blk_drewN ?_ _ | refine blk_drew ?_ | refine blk_alloc ?_ _)); refine blk_far ?_ NB101_103.out _; (with_reducible repeat (first | refine blk_drewN ?_ _ | refine blk_drew ?_ | refine blk_alloc ?_ _)); refine blk_far ?_ NB101_103.out _; (with_reducible repeat (first | refine blk_drewN ?_ _ | refine blk_drew ?_ | refine blk_alloc ?_ _)); refine blk_far ?_ NB101_103.out _; (with_reducible repeat (first | refine blk_drewN ?_ _ | refine blk_drew ?_ | refine blk_alloc ?_ _)); refine blk_far ?_ NB101_103.out _; (with_reducible repeat (first | refine blk_drewN ?_ _ | refine blk_drew ?_ | refine blk_alloc ?_ _)); refine blk_far ?_ NB101_102.out _; (with_reducible repeat (first | refine blk_drewN ?_ _ | refine blk_drew ?_ | refine blk_alloc ?_ _)); refine blk_far ?_ NB101_102.out _; (with_reducible repeat (first | refine blk_drewN ?_ _ | refine blk_drew ?_ | refine blk_alloc ?_ _)); refine blk_far ?_ NB101_102.out _; (with_reducible repeat (first | refine blk_drewN ?_ _ | refine blk_drew ?_ | refine blk_alloc ?_ _)); refine blk_far ?_ NB101_102.out _; (with_reducible repeat (first | refine blk_drewN ?_ _ | refine blk_drew ?_ | refine blk_alloc ?_ _)); refine blk_put (cs := #[.int .i64 t105, .int .i64 t106, .int .i64 t107, .int .i64 a0_3]) ?_ 3 _ rfl; (with_reducible repeat (first | refine blk_drewN ?_ _ | refine blk_drew ?_ | refine blk_alloc ?_ _)); refine blk_put (cs := #[.int .i64 t105, .int .i64 t106, .int .i64 a0_2, .int .i64 a0_3]) ?_ 2 _ rfl; (with_reducible repeat (first | refine blk_drewN ?_ _ | refine blk_drew ?_ | refine blk_alloc ?_ _)); refine blk_put (cs := #[.int .i64 t105, .int .i64 a0_1, .int .i64 a0_2, .int .i64 a0_3]) ?_ 1 _ rfl; (with_reducible repeat (first | refine blk_drewN ?_ _ | refine blk_drew ?_ | refine blk_alloc ?_ _)); refine blk_put (cs := #[.int .i64 a0_0, .int .i64 a0_1, .int .i64 a0_2, .int .i64 a0_3]) ?_ 0 _ rfl; (with_reducible repeat (first | refine blk_drewN ?_ _ | refine blk_drew ?_ | refine blk_alloc ?_ _)); exact BK101.out⟩
              have n1_ : Aside0 (((((((((((((w36.setCell ⟨gb101, 0, none⟩ (.int .i64 t105)).setCell ⟨gb101, 1, none⟩ (.int .i64 t106)).setCell ⟨gb101, 2, none⟩ (.int .i64 t107)).setCell ⟨gb101, 3, none⟩ (.int .i64 t108)).setCell ⟨gb102, 0, none⟩ (.int .i64 t109)).setCell ⟨gb102, 1, none⟩ (.int .i64 t110)).setCell ⟨gb102, 2, none⟩ (.int .i64 t111)).setCell ⟨gb102, 3, none⟩ (.int .i64 t112)).setCell ⟨gb103, 0, none⟩ (.int .i64 t113)).setCell ⟨gb103, 1, none⟩ (.int .i64 t114)).setCell ⟨gb103, 2, none⟩ (.int .i64 t115)).setCell ⟨gb103, 3, none⟩ (.int .i64 t116)).heap[gb102]? = some (.cells #[.int .i64 t109, .int .i64 t110, .int .i64 t111, .int .i64 t112] 23 (0, 0))) := ⟨by (with_reducible repeat (first | refine blk_drewN ?_ _ | refine blk_drew ?_ | refine blk_alloc ?_ _)); refine blk_far ?_ NB102_103.out _; (with_reducible repeat (first | refine blk_drewN ?_ _ | refine blk_drew ?_ | refine blk_alloc ?_ _)); refine blk_far ?_ NB102_103.out _; (with_reducible repeat (first | refine blk_drewN ?_ _ | refine blk_drew ?_ | refine blk_alloc ?_ _)); refine blk_far ?_ NB102_103.out _; (with_reducible repeat (first | refine blk_drewN ?_ _ | refine blk_drew ?_ | refine blk_alloc ?_ _)); refine blk_far ?_ NB102_103.out _; (with_reducible repeat (first | refine blk_drewN ?_ _ | refine blk_drew ?_ | refine blk_alloc ?_ _)); refine blk_put (cs := #[.int .i64 t109, .int .i64 t110, .int .i64 t111, .int .i64 a1_3]) ?_ 3 _ rfl; (with_reducible repeat (first | refine blk_drewN ?_ _ | refine blk_drew ?_ | refine blk_alloc ?_ _)); refine blk_put (cs := #[.int .i64 t109, .int .i64 t110, .int .i64 a1_2, .int .i64 a1_3]) ?_ 2 _ rfl; (with_reducible repeat (first | refine blk_drewN ?_ _ | refine blk_drew ?_ | refine blk_alloc ?_ _)); refine blk_put (cs := #[.int .i64 t109, .int .i64 a1_1, .int .i64 a1_2, .int .i64 a1_3]) ?_ 1 _ rfl; (with_reducible repeat (first | refine blk_drewN ?_ _ | refine blk_drew ?_ | refine blk_alloc ?_ _)); refine blk_put (cs := #[.int .i64 a1_0, .int .i64 a1_1, .int .i64 a1_2, .int .i64 a1_3]) ?_ 0 _ rfl; (with_reducible repeat (first | refine blk_drewN ?_ _ | refine blk_drew ?_ | refine blk_alloc ?_ _)); refine blk_far ?_ NB102_101.out _; (with_reducible repeat (first | refine blk_drewN ?_ _ | refine blk_drew ?_ | refine blk_alloc ?_ _)); refine blk_far ?_ NB102_101.out _; (with_reducible repeat (first | refine blk_drewN ?_ _ | refine blk_drew ?_ | refine blk_alloc ?_ _)); refine blk_far ?_ NB102_101.out _; (with_reducible repeat (first | refine blk_drewN ?_ _ | refine blk_drew ?_ | refine blk_alloc ?_ _)); refine blk_far ?_ NB102_101.out _; (with_reducible repeat (first | refine blk_drewN ?_ _ | refine blk_drew ?_ | refine blk_alloc ?_ _)); exact BK102.out⟩
              have n2_ : Aside0 (((((((((((((w36.setCell ⟨gb101, 0, none⟩ (.int .i64 t105)).setCell ⟨gb101, 1, none⟩ (.int .i64 t106)).setCell ⟨gb101, 2, none⟩ (.int .i64 t107)).setCell ⟨gb101, 3, none⟩ (.int .i64 t108)).setCell ⟨gb102, 0, none⟩ (.int .i64 t109)).setCell ⟨gb102, 1, none⟩ (.int .i64 t110)).setCell ⟨gb102, 2, none⟩ (.int .i64 t111)).setCell ⟨gb102, 3, none⟩ (.int .i64 t112)).setCell ⟨gb103, 0, none⟩ (.int .i64 t113)).setCell ⟨gb103, 1, none⟩ (.int .i64 t114)).setCell ⟨gb103, 2, none⟩ (.int .i64 t115)).setCell ⟨gb103, 3, none⟩ (.int .i64 t116)).heap[gb103]? = some (.cells #[.int .i64 t113, .int .i64 t114, .int .i64 t115, .int .i64 t116] 23 (0, 0))) := ⟨by (with_reducible repeat (first | refine blk_drewN ?_ _ | refine blk_drew ?_ | refine blk_alloc ?_ _)); refine blk_put (cs := #[.int .i64 t113, .int .i64 t114, .int .i64 t115, .int .i64 a2_3]) ?_ 3 _ rfl; (with_reducible repeat (first | refine blk_drewN ?_ _ | refine blk_drew ?_ | refine blk_alloc ?_ _)); refine blk_put (cs := #[.int .i64 t113, .int .i64 t114, .int .i64 a2_2, .int .i64 a2_3]) ?_ 2 _ rfl; (with_reducible repeat (first | refine blk_drewN ?_ _ | refine blk_drew ?_ | refine blk_alloc ?_ _)); refine blk_put (cs := #[.int .i64 t113, .int .i64 a2_1, .int .i64 a2_2, .int .i64 a2_3]) ?_ 1 _ rfl; (with_reducible repeat (first | refine blk_drewN ?_ _ | refine blk_drew ?_ | refine blk_alloc ?_ _)); refine blk_put (cs := #[.int .i64 a2_0, .int .i64 a2_1, .int .i64 a2_2, .int .i64 a2_3]) ?_ 0 _ rfl; (with_reducible repeat (first | refine blk_drewN ?_ _ | refine blk_drew ?_ | refine blk_alloc ?_ _)); refine blk_far ?_ NB103_102.out _; (with_reducible repeat (first | refine blk_drewN ?_ _ | refine blk_drew ?_ | refine blk_alloc ?_ _)); refine blk_far ?_ NB103_102.out _; (with_reducible repeat (first | refine blk_drewN ?_ _ | refine blk_drew ?_ | refine blk_alloc ?_ _)); refine blk_far ?_ NB103_102.out _; (with_reducible repeat (first | refine blk_drewN ?_ _ | refine blk_drew ?_ | refine blk_alloc ?_ _)); refine blk_far ?_ NB103_102.out _; (with_reducible repeat (first | refine blk_drewN ?_ _ | refine blk_drew ?_ | refine blk_alloc ?_ _)); refine blk_far ?_ NB103_101.out _; (with_reducible repeat (first | refine blk_drewN ?_ _ | refine blk_drew ?_ | refine blk_alloc ?_ _)); refine blk_far ?_ NB103_101.out _; (with_reducible repeat (first | refine blk_drewN ?_ _ | refine blk_drew ?_ | refine blk_alloc ?_ _)); refine blk_far ?_ NB103_101.out _; (with_reducible repeat (first | refine blk_drewN ?_ _ | refine blk_drew ?_ | refine blk_alloc ?_ _)); refine blk_far ?_ NB103_101.out _; (with_reducible repeat (first | refine blk_drewN ?_ _ | refine blk_drew ?_ | refine blk_alloc ?_ _)); exact BK103.out⟩
              have n3_ : Aside0 (Below w.heap.size w ((((((((((((w36.setCell ⟨gb101, 0, none⟩ (.int .i64 t105)).setCell ⟨gb101, 1, none⟩ (.int .i64 t106)).setCell ⟨gb101, 2, none⟩ (.int .i64 t107)).setCell ⟨gb101, 3, none⟩ (.int .i64 t108)).setCell ⟨gb102, 0, none⟩ (.int .i64 t109)).setCell ⟨gb102, 1, none⟩ (.int .i64 t110)).setCell ⟨gb102, 2, none⟩ (.int .i64 t111)).setCell ⟨gb102, 3, none⟩ (.int .i64 t112)).setCell ⟨gb103, 0, none⟩ (.int .i64 t113)).setCell ⟨gb103, 1, none⟩ (.int .i64 t114)).setCell ⟨gb103, 2, none⟩ (.int .i64 t115)).setCell ⟨gb103, 3, none⟩ (.int .i64 t116))) := ⟨by repeat (first | (with_reducible first | exact HB.out | apply below_alloc | apply pw_below_drewN | apply below_drew1 | refine below_set ?_ GE101.out | refine below_set ?_ GE102.out | refine below_set ?_ GE103.out) | exact HB.out)⟩
              (try clear BK101)
              (try clear BK102)
              (try clear BK103)
              (try clear HB)
              generalize ((((((((((((w36.setCell ⟨gb101, 0, none⟩ (.int .i64 t105)).setCell ⟨gb101, 1, none⟩ (.int .i64 t106)).setCell ⟨gb101, 2, none⟩ (.int .i64 t107)).setCell ⟨gb101, 3, none⟩ (.int .i64 t108)).setCell ⟨gb102, 0, none⟩ (.int .i64 t109)).setCell ⟨gb102, 1, none⟩ (.int .i64 t110)).setCell ⟨gb102, 2, none⟩ (.int .i64 t111)).setCell ⟨gb102, 3, none⟩ (.int .i64 t112)).setCell ⟨gb103, 0, none⟩ (.int .i64 t113)).setCell ⟨gb103, 1, none⟩ (.int .i64 t114)).setCell ⟨gb103, 2, none⟩ (.int .i64 t115)).setCell ⟨gb103, 3, none⟩ (.int .i64 t116)) = w49 at n0_ n1_ n2_ n3_ ⊢
              have BK101 := n0_
              have BK102 := n1_
              have BK103 := n2_
              have HB := n3_
              clear n0_ n1_ n2_ n3_
              have n0_ := Aside0.mk (blk_drew BK101.out)
              have n1_ := Aside0.mk (blk_drew BK102.out)
              have n2_ := Aside0.mk (blk_drew BK103.out)
              have n3_ := Aside0.mk (below_drew1 HB.out)
              clear BK101
              clear BK102
              clear BK103
              clear HB
              have BK101 := n0_
              have BK102 := n1_
              have BK103 := n2_
              have HB := n3_
              clear n0_ n1_ n2_ n3_
              refine start_ (n := 53) (S := fun w' => w'.cell? ⟨gb101, 0, none⟩ = some (.int .i64 t105) ∧ w'.cell? ⟨gb101, 1, none⟩ = some (.int .i64 t106) ∧ w'.cell? ⟨gb101, 2, none⟩ = some (.int .i64 t107) ∧ w'.cell? ⟨gb101, 3, none⟩ = some (.int .i64 t108) ∧ w'.cell? ⟨gb102, 0, none⟩ = some (.int .i64 t109) ∧ w'.cell? ⟨gb102, 1, none⟩ = some (.int .i64 t110) ∧ w'.cell? ⟨gb102, 2, none⟩ = some (.int .i64 t111) ∧ w'.cell? ⟨gb102, 3, none⟩ = some (.int .i64 t112) ∧ w'.cell? ⟨gb103, 0, none⟩ = some (.int .i64 t113) ∧ w'.cell? ⟨gb103, 1, none⟩ = some (.int .i64 t114) ∧ w'.cell? ⟨gb103, 2, none⟩ = some (.int .i64 t115) ∧ w'.cell? ⟨gb103, 3, none⟩ = some (.int .i64 t116)) (ds := []) #[false, false, false, false, false, false, false, false, false, false, false, false, false, false, false, false, false, false, false, false, false, false, false, false, false, false, false, false, false, false, false, false, false, false, false, false, false, false, false, false, false, false, false, false, false, false, false, false, false, false, false, false, false] (by kernel_rfl) rfl rfl ⟨(blk_cell BK101.out 0).trans rfl, (blk_cell BK101.out 1).trans rfl, (blk_cell BK101.out 2).trans rfl, (blk_cell BK101.out 3).trans rfl, (blk_cell BK102.out 0).trans rfl, (blk_cell BK102.out 1).trans rfl, (blk_cell BK102.out 2).trans rfl, (blk_cell BK102.out 3).trans rfl, (blk_cell BK103.out 0).trans rfl, (blk_cell BK103.out 1).trans rfl, (blk_cell BK103.out 2).trans rfl, (blk_cell BK103.out 3).trans rfl⟩ (fun hHeld => ?_); refine with_tabW donjonlaw4_LabelJoins.tab4 donjonlaw4_LabelJoins.bits4 (fun HT_ HW_ => ?_)
              generalize w49.drew = w50 at BK101 BK102 BK103 HB hHeld ⊢
              refine take_ (i := 0) (N := some 15) (v := ?_) (a' := ?_) #[true, false, false, false, false, false, false, false, false, false, false, false, false, false, false, false, false, false, false, false, false, false, false, false, false, false, false, false, false, false, false, false, false, false, false, false, false, false, false, false, false, false, false, false, false, false, false, false, false, false, false, false, false] rfl rfl (take_ofW HT_.out HW_.out (by kernel_rfl)) (fun _ _ _ h => h) (Or.inl ⟨by rfl, ?_⟩) hHeld ?_ ?_
              rotate_left
              · rintro w' ⟨s0, s1, s2, s3, s4, s5, s6, s7, s8, s9, s10, s11⟩
                go_simp
                with_reducible rfl
              rotate_left
              · simp only [Act.put, List.setIfInBounds_toArray, List.set_cons_zero, List.set_cons_succ, i64_w, i32_w]
                rfl
              refine take_ (i := 1) (N := some 16) (v := ?_) (a' := ?_) #[true, true, false, false, false, false, false, false, false, false, false, false, false, false, false, false, false, false, false, false, false, false, false, false, false, false, false, false, false, false, false, false, false, false, false, false, false, false, false, false, false, false, false, false, false, false, false, false, false, false, false, false, false] rfl rfl (take_ofW HT_.out HW_.out (by kernel_rfl)) (fun _ _ _ h => h) (Or.inl ⟨by rfl, ?_⟩) hHeld ?_ ?_
              rotate_left
              · rintro w' ⟨s0, s1, s2, s3, s4, s5, s6, s7, s8, s9, s10, s11⟩
                go_simp
                with_reducible rfl
              rotate_left
              · simp only [Act.put, List.setIfInBounds_toArray, List.set_cons_zero, List.set_cons_succ, i64_w, i32_w]
                rfl
              refine take_ (i := 3) (N := some 18) (v := ?_) (a' := ?_) #[true, true, false, true, false, false, false, false, false, false, false, false, false, false, false, false, false, false, false, false, false, false, false, false, false, false, false, false, false, false, false, false, false, false, false, false, false, false, false, false, false, false, false, false, false, false, false, false, false, false, false, false, false] rfl rfl (take_ofW HT_.out HW_.out (by kernel_rfl)) (fun _ _ _ h => h) (Or.inl ⟨by rfl, ?_⟩) hHeld ?_ ?_
              rotate_left
              · rintro w' ⟨s0, s1, s2, s3, s4, s5, s6, s7, s8, s9, s10, s11⟩
                go_simp
                with_reducible rfl
              rotate_left
              · simp only [Act.put, List.setIfInBounds_toArray, List.set_cons_zero, List.set_cons_succ, i64_w, i32_w]
                rfl
              refine take_ (i := 5) (N := some 20) (v := ?_) (a' := ?_) #[true, true, false, true, false, true, false, false, false, false, false, false, false, false, false, false, false, false, false, false, false, false, false, false, false, false, false, false, false, false, false, false, false, false, false, false, false, false, false, false, false, false, false, false, false, false, false, false, false, false, false, false, false] rfl rfl (take_ofW HT_.out HW_.out (by kernel_rfl)) (fun _ _ _ h => h) (Or.inl ⟨by rfl, ?_⟩) hHeld ?_ ?_
              rotate_left
              · rintro w' ⟨s0, s1, s2, s3, s4, s5, s6, s7, s8, s9, s10, s11⟩
                go_simp
                with_reducible rfl
              rotate_left
              · simp only [Act.put, List.setIfInBounds_toArray, List.set_cons_zero, List.set_cons_succ, i64_w, i32_w]
                rfl
              refine take_ (i := 6) (N := some 21) (v := ?_) (a' := ?_) #[true, true, false, true, false, true, true, false, false, false, false, false, false, false, false, false, false, false, false, false, false, false, false, false, false, false, false, false, false, false, false, false, false, false, false, false, false, false, false, false, false, false, false, false, false, false, false, false, false, false, false, false, false] rfl rfl (take_ofW HT_.out HW_.out (by kernel_rfl)) (fun _ _ _ h => h) (Or.inl ⟨by rfl, ?_⟩) hHeld ?_ ?_
              rotate_left
              · rintro w' ⟨s0, s1, s2, s3, s4, s5, s6, s7, s8, s9, s10, s11⟩
                go_simp
                with_reducible rfl
              rotate_left
              · simp only [Act.put, List.setIfInBounds_toArray, List.set_cons_zero, List.set_cons_succ, i64_w, i32_w]
                rfl
              refine take_ (i := 7) (N := some 22) (v := ?_) (a' := ?_) #[true, true, false, true, false, true, true, true, false, false, false, false, false, false, false, false, false, false, false, false, false, false, false, false, false, false, false, false, false, false, false, false, false, false, false, false, false, false, false, false, false, false, false, false, false, false, false, false, false, false, false, false, false] rfl rfl (take_ofW HT_.out HW_.out (by kernel_rfl)) (fun _ _ _ h => h) (Or.inl ⟨by rfl, ?_⟩) hHeld ?_ ?_
              rotate_left
              · rintro w' ⟨s0, s1, s2, s3, s4, s5, s6, s7, s8, s9, s10, s11⟩
                go_simp
                with_reducible rfl
              rotate_left
              · simp only [Act.put, List.setIfInBounds_toArray, List.set_cons_zero, List.set_cons_succ, i64_w, i32_w]
                rfl
              refine one_ (i := 2) (N := some 17) #[true, true, true, true, false, true, true, true, false, false, false, false, false, false, false, false, false, false, false, false, false, false, false, false, false, false, false, false, false, false, false, false, false, false, false, false, false, false, false, false, false, false, false, false, false, false, false, false, false, false, false, false, false] rfl rfl (one_of HT_.out (by kernel_rfl)) (by decide) (fun K hK => ?_)
              refine goes_ Tryd.func18 (by kernel_rfl) rfl #[.agg #[.int .i64 t105, .int .i64 t106, .int .i64 t107, .int .i64 t108], .agg #[.int .i64 t109, .int .i64 t110, .int .i64 t111, .int .i64 t112]] (by rfl) rfl rfl (by (try simp only [List.map_toArray, List.map_cons, List.map_nil]); first | done | rfl | (simp only [List.length_drop, List.length_take]; rfl)) ?_
              with_reducible refine (label_Join.calls t105 t106 t107 t108 t109 t110 t111 t112 t117 t118 t119 t120 _ A9.out).mono ?_
              rintro e w51 ⟨rfl, hb⟩
              refine ⟨_, rfl, ?_⟩
              have n0_ := Aside0.mk (blk_below (g := gb101) (o := .cells #[.int .i64 t105, .int .i64 t106, .int .i64 t107, .int .i64 t108] 23 (0, 0)) (by (with_reducible repeat (first | refine blk_drewN ?_ _ | refine blk_drew ?_ | refine blk_alloc ?_ _)); exact BK101.out) hb)
              have n1_ := Aside0.mk (blk_below (g := gb102) (o := .cells #[.int .i64 t109, .int .i64 t110, .int .i64 t111, .int .i64 t112] 23 (0, 0)) (by (with_reducible repeat (first | refine blk_drewN ?_ _ | refine blk_drew ?_ | refine blk_alloc ?_ _)); exact BK102.out) hb)
              have n2_ := Aside0.mk (blk_below (g := gb103) (o := .cells #[.int .i64 t113, .int .i64 t114, .int .i64 t115, .int .i64 t116] 23 (0, 0)) (by (with_reducible repeat (first | refine blk_drewN ?_ _ | refine blk_drew ?_ | refine blk_alloc ?_ _)); exact BK103.out) hb)
              have n3_ := Aside0.mk (below_step (by repeat (first | (with_reducible first | exact HB.out | apply below_alloc | apply pw_below_drewN | apply below_drew1 | refine below_set ?_ GE101.out | refine below_set ?_ GE102.out | refine below_set ?_ GE103.out) | exact HB.out)) hb)
              clear BK101
              clear BK102
              clear BK103
              clear HB
              have BK101 := n0_
              have BK102 := n1_
              have BK103 := n2_
              have HB := n3_
              clear n0_ n1_ n2_ n3_
              (try clear hb)
              (try clear hb2)
              (try clear hk)
              (try clear hi)
              refine hK.out _ _ ⟨(blk_cell BK101.out 0).trans rfl, (blk_cell BK101.out 1).trans rfl, (blk_cell BK101.out 2).trans rfl, (blk_cell BK101.out 3).trans rfl, (blk_cell BK102.out 0).trans rfl, (blk_cell BK102.out 1).trans rfl, (blk_cell BK102.out 2).trans rfl, (blk_cell BK102.out 3).trans rfl, (blk_cell BK103.out 0).trans rfl, (blk_cell BK103.out 1).trans rfl, (blk_cell BK103.out 2).trans rfl, (blk_cell BK103.out 3).trans rfl⟩ (fun hHeld => ?_)
              clear hK K
              refine norm_ (a' := ?_) ?_ ?_
              rotate_left
              · show Act.put _ (some 17) _ = _
                simp only [Act.put, List.setIfInBounds_toArray, List.set_cons_zero, List.set_cons_succ, i64_w, i32_w]
                rfl
              refine one_ (i := 4) (N := some 19) #[true, true, true, true, true, true, true, true, false, false, false, false, false, false, false, false, false, false, false, false, false, false, false, false, false, false, false, false, false, false, false, false, false, false, false, false, false, false, false, false, false, false, false, false, false, false, false, false, false, false, false, false, false] rfl rfl (one_of HT_.out (by kernel_rfl)) (by decide) (fun K hK => ?_)
              refine goes_ Tryd.func18 (by kernel_rfl) rfl #[.agg #[.int .i64 t117, .int .i64 t118, .int .i64 t119, .int .i64 t120], .agg #[.int .i64 t113, .int .i64 t114, .int .i64 t115, .int .i64 t116]] (by rfl) rfl rfl (by (try simp only [List.map_toArray, List.map_cons, List.map_nil]); first | done | rfl | (simp only [List.length_drop, List.length_take]; rfl)) ?_
              with_reducible refine (label_Join.calls t117 t118 t119 t120 t113 t114 t115 t116 t121 t122 t123 t124 _ A10.out).mono ?_
              rintro e w52 ⟨rfl, hb⟩
              refine ⟨_, rfl, ?_⟩
              have n0_ := Aside0.mk (blk_below (g := gb101) (o := .cells #[.int .i64 t105, .int .i64 t106, .int .i64 t107, .int .i64 t108] 23 (0, 0)) (by (with_reducible repeat (first | refine blk_drewN ?_ _ | refine blk_drew ?_ | refine blk_alloc ?_ _)); exact BK101.out) hb)
              have n1_ := Aside0.mk (blk_below (g := gb102) (o := .cells #[.int .i64 t109, .int .i64 t110, .int .i64 t111, .int .i64 t112] 23 (0, 0)) (by (with_reducible repeat (first | refine blk_drewN ?_ _ | refine blk_drew ?_ | refine blk_alloc ?_ _)); exact BK102.out) hb)
              have n2_ := Aside0.mk (blk_below (g := gb103) (o := .cells #[.int .i64 t113, .int .i64 t114, .int .i64 t115, .int .i64 t116] 23 (0, 0)) (by (with_reducible repeat (first | refine blk_drewN ?_ _ | refine blk_drew ?_ | refine blk_alloc ?_ _)); exact BK103.out) hb)
              have n3_ := Aside0.mk (below_step (by repeat (first | (with_reducible first | exact HB.out | apply below_alloc | apply pw_below_drewN | apply below_drew1 | refine below_set ?_ GE101.out | refine below_set ?_ GE102.out | refine below_set ?_ GE103.out) | exact HB.out)) hb)
              clear BK101
              clear BK102
              clear BK103
              clear HB
              have BK101 := n0_
              have BK102 := n1_
              have BK103 := n2_
              have HB := n3_
              clear n0_ n1_ n2_ n3_
              (try clear hb)
              (try clear hb2)
              (try clear hk)
              (try clear hi)
              refine hK.out _ _ ⟨(blk_cell BK101.out 0).trans rfl, (blk_cell BK101.out 1).trans rfl, (blk_cell BK101.out 2).trans rfl, (blk_cell BK101.out 3).trans rfl, (blk_cell BK102.out 0).trans rfl, (blk_cell BK102.out 1).trans rfl, (blk_cell BK102.out 2).trans rfl, (blk_cell BK102.out 3).trans rfl, (blk_cell BK103.out 0).trans rfl, (blk_cell BK103.out 1).trans rfl, (blk_cell BK103.out 2).trans rfl, (blk_cell BK103.out 3).trans rfl⟩ (fun hHeld => ?_)
              clear hK K
              refine norm_ (a' := ?_) ?_ ?_
              rotate_left
              · show Act.put _ (some 19) _ = _
                simp only [Act.put, List.setIfInBounds_toArray, List.set_cons_zero, List.set_cons_succ, i64_w, i32_w]
                rfl
              refine one_ (i := 8) (N := some 23) #[true, true, true, true, true, true, true, true, true, false, false, false, false, false, false, false, false, false, false, false, false, false, false, false, false, false, false, false, false, false, false, false, false, false, false, false, false, false, false, false, false, false, false, false, false, false, false, false, false, false, false, false, false] rfl rfl (one_of HT_.out (by kernel_rfl)) (by decide) (fun K hK => ?_)
              refine goes_ Tryd.func18 (by kernel_rfl) rfl #[.agg #[.int .i64 t109, .int .i64 t110, .int .i64 t111, .int .i64 t112], .agg #[.int .i64 t113, .int .i64 t114, .int .i64 t115, .int .i64 t116]] (by rfl) rfl rfl (by (try simp only [List.map_toArray, List.map_cons, List.map_nil]); first | done | rfl | (simp only [List.length_drop, List.length_take]; rfl)) ?_
              with_reducible refine (label_Join.calls t109 t110 t111 t112 t113 t114 t115 t116 t125 t126 t127 t128 _ A11.out).mono ?_
              rintro e w53 ⟨rfl, hb⟩
              refine ⟨_, rfl, ?_⟩
              have n0_ := Aside0.mk (blk_below (g := gb101) (o := .cells #[.int .i64 t105, .int .i64 t106, .int .i64 t107, .int .i64 t108] 23 (0, 0)) (by (with_reducible repeat (first | refine blk_drewN ?_ _ | refine blk_drew ?_ | refine blk_alloc ?_ _)); exact BK101.out) hb)
              have n1_ := Aside0.mk (blk_below (g := gb102) (o := .cells #[.int .i64 t109, .int .i64 t110, .int .i64 t111, .int .i64 t112] 23 (0, 0)) (by (with_reducible repeat (first | refine blk_drewN ?_ _ | refine blk_drew ?_ | refine blk_alloc ?_ _)); exact BK102.out) hb)
              have n2_ := Aside0.mk (blk_below (g := gb103) (o := .cells #[.int .i64 t113, .int .i64 t114, .int .i64 t115, .int .i64 t116] 23 (0, 0)) (by (with_reducible repeat (first | refine blk_drewN ?_ _ | refine blk_drew ?_ | refine blk_alloc ?_ _)); exact BK103.out) hb)
              have n3_ := Aside0.mk (below_step (by repeat (first | (with_reducible first | exact HB.out | apply below_alloc | apply pw_below_drewN | apply below_drew1 | refine below_set ?_ GE101.out | refine below_set ?_ GE102.out | refine below_set ?_ GE103.out) | exact HB.out)) hb)
              clear BK101
              clear BK102
              clear BK103
              clear HB
              have BK101 := n0_
              have BK102 := n1_
              have BK103 := n2_
              have HB := n3_
              clear n0_ n1_ n2_ n3_
              (try clear hb)
              (try clear hb2)
              (try clear hk)
              (try clear hi)
              refine hK.out _ _ ⟨(blk_cell BK101.out 0).trans rfl, (blk_cell BK101.out 1).trans rfl, (blk_cell BK101.out 2).trans rfl, (blk_cell BK101.out 3).trans rfl, (blk_cell BK102.out 0).trans rfl, (blk_cell BK102.out 1).trans rfl, (blk_cell BK102.out 2).trans rfl, (blk_cell BK102.out 3).trans rfl, (blk_cell BK103.out 0).trans rfl, (blk_cell BK103.out 1).trans rfl, (blk_cell BK103.out 2).trans rfl, (blk_cell BK103.out 3).trans rfl⟩ (fun hHeld => ?_)
              clear hK K
              refine norm_ (a' := ?_) ?_ ?_
              rotate_left
              · show Act.put _ (some 23) _ = _
                simp only [Act.put, List.setIfInBounds_toArray, List.set_cons_zero, List.set_cons_succ, i64_w, i32_w]
                rfl
              refine one_ (i := 9) (N := some 24) #[true, true, true, true, true, true, true, true, true, true, false, false, false, false, false, false, false, false, false, false, false, false, false, false, false, false, false, false, false, false, false, false, false, false, false, false, false, false, false, false, false, false, false, false, false, false, false, false, false, false, false, false, false] rfl rfl (one_of HT_.out (by kernel_rfl)) (by decide) (fun K hK => ?_)
              refine goes_ Tryd.func18 (by kernel_rfl) rfl #[.agg #[.int .i64 t105, .int .i64 t106, .int .i64 t107, .int .i64 t108], .agg #[.int .i64 t125, .int .i64 t126, .int .i64 t127, .int .i64 t128]] (by rfl) rfl rfl (by (try simp only [List.map_toArray, List.map_cons, List.map_nil]); first | done | rfl | (simp only [List.length_drop, List.length_take]; rfl)) ?_
              with_reducible refine (label_Join.calls t105 t106 t107 t108 t125 t126 t127 t128 t129 t130 t131 t132 _ A12.out).mono ?_
              rintro e w54 ⟨rfl, hb⟩
              refine ⟨_, rfl, ?_⟩
              have n0_ := Aside0.mk (blk_below (g := gb101) (o := .cells #[.int .i64 t105, .int .i64 t106, .int .i64 t107, .int .i64 t108] 23 (0, 0)) (by (with_reducible repeat (first | refine blk_drewN ?_ _ | refine blk_drew ?_ | refine blk_alloc ?_ _)); exact BK101.out) hb)
              have n1_ := Aside0.mk (blk_below (g := gb102) (o := .cells #[.int .i64 t109, .int .i64 t110, .int .i64 t111, .int .i64 t112] 23 (0, 0)) (by (with_reducible repeat (first | refine blk_drewN ?_ _ | refine blk_drew ?_ | refine blk_alloc ?_ _)); exact BK102.out) hb)
              have n2_ := Aside0.mk (blk_below (g := gb103) (o := .cells #[.int .i64 t113, .int .i64 t114, .int .i64 t115, .int .i64 t116] 23 (0, 0)) (by (with_reducible repeat (first | refine blk_drewN ?_ _ | refine blk_drew ?_ | refine blk_alloc ?_ _)); exact BK103.out) hb)
              have n3_ := Aside0.mk (below_step (by repeat (first | (with_reducible first | exact HB.out | apply below_alloc | apply pw_below_drewN | apply below_drew1 | refine below_set ?_ GE101.out | refine below_set ?_ GE102.out | refine below_set ?_ GE103.out) | exact HB.out)) hb)
              clear BK101
              clear BK102
              clear BK103
              clear HB
              have BK101 := n0_
              have BK102 := n1_
              have BK103 := n2_
              have HB := n3_
              clear n0_ n1_ n2_ n3_
              (try clear hb)
              (try clear hb2)
              (try clear hk)
              (try clear hi)
              refine hK.out _ _ ⟨(blk_cell BK101.out 0).trans rfl, (blk_cell BK101.out 1).trans rfl, (blk_cell BK101.out 2).trans rfl, (blk_cell BK101.out 3).trans rfl, (blk_cell BK102.out 0).trans rfl, (blk_cell BK102.out 1).trans rfl, (blk_cell BK102.out 2).trans rfl, (blk_cell BK102.out 3).trans rfl, (blk_cell BK103.out 0).trans rfl, (blk_cell BK103.out 1).trans rfl, (blk_cell BK103.out 2).trans rfl, (blk_cell BK103.out 3).trans rfl⟩ (fun hHeld => ?_)
              clear hK K
              refine norm_ (a' := ?_) ?_ ?_
              rotate_left
              · show Act.put _ (some 24) _ = _
                simp only [Act.put, List.setIfInBounds_toArray, List.set_cons_zero, List.set_cons_succ, i64_w, i32_w]
                rfl
              refine pure_ (i := 10) (N := some 25) (v := ?_) (a' := ?_) #[true, true, true, true, true, true, true, true, true, true, true, false, false, false, false, false, false, false, false, false, false, false, false, false, false, false, false, false, false, false, false, false, false, false, false, false, false, false, false, false, false, false, false, false, false, false, false, false, false, false, false, false, false] rfl rfl (any_of HT_.out (by kernel_rfl)) (fun _ _ _ h => h) (Or.inl ⟨by rfl, ?_⟩) ?_ ?_
              rotate_left
              · intro w'
                go_simp
                with_reducible rfl
              rotate_left
              · simp only [Act.put, List.setIfInBounds_toArray, List.set_cons_zero, List.set_cons_succ, i64_w, i32_w]
                rfl
              refine pure_ (i := 11) (N := some 26) (v := ?_) (a' := ?_) #[true, true, true, true, true, true, true, true, true, true, true, true, false, false, false, false, false, false, false, false, false, false, false, false, false, false, false, false, false, false, false, false, false, false, false, false, false, false, false, false, false, false, false, false, false, false, false, false, false, false, false, false, false] rfl rfl (any_of HT_.out (by kernel_rfl)) (fun _ _ _ h => h) (Or.inl ⟨by rfl, ?_⟩) ?_ ?_
              rotate_left
              · intro w'
                go_simp
                with_reducible rfl
              rotate_left
              · simp only [Act.put, List.setIfInBounds_toArray, List.set_cons_zero, List.set_cons_succ, i64_w, i32_w]
                rfl
              refine take_ (i := 12) (N := some 27) (v := ?_) (a' := ?_) #[true, true, true, true, true, true, true, true, true, true, true, true, true, false, false, false, false, false, false, false, false, false, false, false, false, false, false, false, false, false, false, false, false, false, false, false, false, false, false, false, false, false, false, false, false, false, false, false, false, false, false, false, false] rfl rfl (take_ofW HT_.out HW_.out (by kernel_rfl)) (fun _ _ _ h => h) (Or.inl ⟨by rfl, ?_⟩) hHeld ?_ ?_
              rotate_left
              · rintro w' ⟨s0, s1, s2, s3, s4, s5, s6, s7, s8, s9, s10, s11⟩
                go_simp
                with_reducible rfl
              rotate_left
              · simp only [Act.put, List.setIfInBounds_toArray, List.set_cons_zero, List.set_cons_succ, i64_w, i32_w]
                rfl
              refine take_ (i := 13) (N := some 28) (v := ?_) (a' := ?_) #[true, true, true, true, true, true, true, true, true, true, true, true, true, true, false, false, false, false, false, false, false, false, false, false, false, false, false, false, false, false, false, false, false, false, false, false, false, false, false, false, false, false, false, false, false, false, false, false, false, false, false, false, false] rfl rfl (take_ofW HT_.out HW_.out (by kernel_rfl)) (fun _ _ _ h => h) (Or.inl ⟨by rfl, ?_⟩) hHeld ?_ ?_
              rotate_left
              · rintro w' ⟨s0, s1, s2, s3, s4, s5, s6, s7, s8, s9, s10, s11⟩
                go_simp
                with_reducible rfl
              rotate_left
              · simp only [Act.put, List.setIfInBounds_toArray, List.set_cons_zero, List.set_cons_succ, i64_w, i32_w]
                rfl
              refine take_ (i := 15) (N := some 30) (v := ?_) (a' := ?_) #[true, true, true, true, true, true, true, true, true, true, true, true, true, true, false, true, false, false, false, false, false, false, false, false, false, false, false, false, false, false, false, false, false, false, false, false, false, false, false, false, false, false, false, false, false, false, false, false, false, false, false, false, false] rfl rfl (take_ofW HT_.out HW_.out (by kernel_rfl)) (fun _ _ _ h => h) (Or.inl ⟨by rfl, ?_⟩) hHeld ?_ ?_
              rotate_left
              · rintro w' ⟨s0, s1, s2, s3, s4, s5, s6, s7, s8, s9, s10, s11⟩
                go_simp
                with_reducible rfl
              rotate_left
              · simp only [Act.put, List.setIfInBounds_toArray, List.set_cons_zero, List.set_cons_succ, i64_w, i32_w]
                rfl
              refine take_ (i := 17) (N := some 32) (v := ?_) (a' := ?_) #[true, true, true, true, true, true, true, true, true, true, true, true, true, true, false, true, false, true, false, false, false, false, false, false, false, false, false, false, false, false, false, false, false, false, false, false, false, false, false, false, false, false, false, false, false, false, false, false, false, false, false, false, false] rfl rfl (take_ofW HT_.out HW_.out (by kernel_rfl)) (fun _ _ _ h => h) (Or.inl ⟨by rfl, ?_⟩) hHeld ?_ ?_
              rotate_left
              · rintro w' ⟨s0, s1, s2, s3, s4, s5, s6, s7, s8, s9, s10, s11⟩
                go_simp
                with_reducible rfl
              rotate_left
              · simp only [Act.put, List.setIfInBounds_toArray, List.set_cons_zero, List.set_cons_succ, i64_w, i32_w]
                rfl
              refine take_ (i := 18) (N := some 33) (v := ?_) (a' := ?_) #[true, true, true, true, true, true, true, true, true, true, true, true, true, true, false, true, false, true, true, false, false, false, false, false, false, false, false, false, false, false, false, false, false, false, false, false, false, false, false, false, false, false, false, false, false, false, false, false, false, false, false, false, false] rfl rfl (take_ofW HT_.out HW_.out (by kernel_rfl)) (fun _ _ _ h => h) (Or.inl ⟨by rfl, ?_⟩) hHeld ?_ ?_
              rotate_left
              · rintro w' ⟨s0, s1, s2, s3, s4, s5, s6, s7, s8, s9, s10, s11⟩
                go_simp
                with_reducible rfl
              rotate_left
              · simp only [Act.put, List.setIfInBounds_toArray, List.set_cons_zero, List.set_cons_succ, i64_w, i32_w]
                rfl
              refine take_ (i := 19) (N := some 34) (v := ?_) (a' := ?_) #[true, true, true, true, true, true, true, true, true, true, true, true, true, true, false, true, false, true, true, true, false, false, false, false, false, false, false, false, false, false, false, false, false, false, false, false, false, false, false, false, false, false, false, false, false, false, false, false, false, false, false, false, false] rfl rfl (take_ofW HT_.out HW_.out (by kernel_rfl)) (fun _ _ _ h => h) (Or.inl ⟨by rfl, ?_⟩) hHeld ?_ ?_
              rotate_left
              · rintro w' ⟨s0, s1, s2, s3, s4, s5, s6, s7, s8, s9, s10, s11⟩
                go_simp
                with_reducible rfl
              rotate_left
              · simp only [Act.put, List.setIfInBounds_toArray, List.set_cons_zero, List.set_cons_succ, i64_w, i32_w]
                rfl
              refine one_ (i := 14) (N := some 29) #[true, true, true, true, true, true, true, true, true, true, true, true, true, true, true, true, false, true, true, true, false, false, false, false, false, false, false, false, false, false, false, false, false, false, false, false, false, false, false, false, false, false, false, false, false, false, false, false, false, false, false, false, false] rfl rfl (one_of HT_.out (by kernel_rfl)) (by decide) (fun K hK => ?_)
              refine goes_ Tryd.func19 (by kernel_rfl) rfl #[.agg #[.int .i64 t105, .int .i64 t106, .int .i64 t107, .int .i64 t108], .agg #[.int .i64 t109, .int .i64 t110, .int .i64 t111, .int .i64 t112]] (by rfl) rfl rfl (by (try simp only [List.map_toArray, List.map_cons, List.map_nil]); first | done | rfl | (simp only [List.length_drop, List.length_take]; rfl)) ?_
              with_reducible refine (label_Meet.calls t105 t106 t107 t108 t109 t110 t111 t112 t133 t134 t135 t136 _ A14.out).mono ?_
              rintro e w55 ⟨rfl, hb⟩
              refine ⟨_, rfl, ?_⟩
              have n0_ := Aside0.mk (blk_below (g := gb101) (o := .cells #[.int .i64 t105, .int .i64 t106, .int .i64 t107, .int .i64 t108] 23 (0, 0)) (by (with_reducible repeat (first | refine blk_drewN ?_ _ | refine blk_drew ?_ | refine blk_alloc ?_ _)); exact BK101.out) hb)
              have n1_ := Aside0.mk (blk_below (g := gb102) (o := .cells #[.int .i64 t109, .int .i64 t110, .int .i64 t111, .int .i64 t112] 23 (0, 0)) (by (with_reducible repeat (first | refine blk_drewN ?_ _ | refine blk_drew ?_ | refine blk_alloc ?_ _)); exact BK102.out) hb)
              have n2_ := Aside0.mk (blk_below (g := gb103) (o := .cells #[.int .i64 t113, .int .i64 t114, .int .i64 t115, .int .i64 t116] 23 (0, 0)) (by (with_reducible repeat (first | refine blk_drewN ?_ _ | refine blk_drew ?_ | refine blk_alloc ?_ _)); exact BK103.out) hb)
              have n3_ := Aside0.mk (below_step (by repeat (first | (with_reducible first | exact HB.out | apply below_alloc | apply pw_below_drewN | apply below_drew1 | refine below_set ?_ GE101.out | refine below_set ?_ GE102.out | refine below_set ?_ GE103.out) | exact HB.out)) hb)
              clear BK101
              clear BK102
              clear BK103
              clear HB
              have BK101 := n0_
              have BK102 := n1_
              have BK103 := n2_
              have HB := n3_
              clear n0_ n1_ n2_ n3_
              (try clear hb)
              (try clear hb2)
              (try clear hk)
              (try clear hi)
              refine hK.out _ _ ⟨(blk_cell BK101.out 0).trans rfl, (blk_cell BK101.out 1).trans rfl, (blk_cell BK101.out 2).trans rfl, (blk_cell BK101.out 3).trans rfl, (blk_cell BK102.out 0).trans rfl, (blk_cell BK102.out 1).trans rfl, (blk_cell BK102.out 2).trans rfl, (blk_cell BK102.out 3).trans rfl, (blk_cell BK103.out 0).trans rfl, (blk_cell BK103.out 1).trans rfl, (blk_cell BK103.out 2).trans rfl, (blk_cell BK103.out 3).trans rfl⟩ (fun hHeld => ?_)
              clear hK K
              refine norm_ (a' := ?_) ?_ ?_
              rotate_left
              · show Act.put _ (some 29) _ = _
                simp only [Act.put, List.setIfInBounds_toArray, List.set_cons_zero, List.set_cons_succ, i64_w, i32_w]
                rfl
              refine one_ (i := 16) (N := some 31) #[true, true, true, true, true, true, true, true, true, true, true, true, true, true, true, true, true, true, true, true, false, false, false, false, false, false, false, false, false, false, false, false, false, false, false, false, false, false, false, false, false, false, false, false, false, false, false, false, false, false, false, false, false] rfl rfl (one_of HT_.out (by kernel_rfl)) (by decide) (fun K hK => ?_)
              refine goes_ Tryd.func19 (by kernel_rfl) rfl #[.agg #[.int .i64 t133, .int .i64 t134, .int .i64 t135, .int .i64 t136], .agg #[.int .i64 t113, .int .i64 t114, .int .i64 t115, .int .i64 t116]] (by rfl) rfl rfl (by (try simp only [List.map_toArray, List.map_cons, List.map_nil]); first | done | rfl | (simp only [List.length_drop, List.length_take]; rfl)) ?_
              with_reducible refine (label_Meet.calls t133 t134 t135 t136 t113 t114 t115 t116 t137 t138 t139 t140 _ A15.out).mono ?_
              rintro e w56 ⟨rfl, hb⟩
              refine ⟨_, rfl, ?_⟩
              have n0_ := Aside0.mk (blk_below (g := gb101) (o := .cells #[.int .i64 t105, .int .i64 t106, .int .i64 t107, .int .i64 t108] 23 (0, 0)) (by (with_reducible repeat (first | refine blk_drewN ?_ _ | refine blk_drew ?_ | refine blk_alloc ?_ _)); exact BK101.out) hb)
              have n1_ := Aside0.mk (blk_below (g := gb102) (o := .cells #[.int .i64 t109, .int .i64 t110, .int .i64 t111, .int .i64 t112] 23 (0, 0)) (by (with_reducible repeat (first | refine blk_drewN ?_ _ | refine blk_drew ?_ | refine blk_alloc ?_ _)); exact BK102.out) hb)
              have n2_ := Aside0.mk (blk_below (g := gb103) (o := .cells #[.int .i64 t113, .int .i64 t114, .int .i64 t115, .int .i64 t116] 23 (0, 0)) (by (with_reducible repeat (first | refine blk_drewN ?_ _ | refine blk_drew ?_ | refine blk_alloc ?_ _)); exact BK103.out) hb)
              have n3_ := Aside0.mk (below_step (by repeat (first | (with_reducible first | exact HB.out | apply below_alloc | apply pw_below_drewN | apply below_drew1 | refine below_set ?_ GE101.out | refine below_set ?_ GE102.out | refine below_set ?_ GE103.out) | exact HB.out)) hb)
              clear BK101
              clear BK102
              clear BK103
              clear HB
              have BK101 := n0_
              have BK102 := n1_
              have BK103 := n2_
              have HB := n3_
              clear n0_ n1_ n2_ n3_
              (try clear hb)
              (try clear hb2)
              (try clear hk)
              (try clear hi)
              refine hK.out _ _ ⟨(blk_cell BK101.out 0).trans rfl, (blk_cell BK101.out 1).trans rfl, (blk_cell BK101.out 2).trans rfl, (blk_cell BK101.out 3).trans rfl, (blk_cell BK102.out 0).trans rfl, (blk_cell BK102.out 1).trans rfl, (blk_cell BK102.out 2).trans rfl, (blk_cell BK102.out 3).trans rfl, (blk_cell BK103.out 0).trans rfl, (blk_cell BK103.out 1).trans rfl, (blk_cell BK103.out 2).trans rfl, (blk_cell BK103.out 3).trans rfl⟩ (fun hHeld => ?_)
              clear hK K
              refine norm_ (a' := ?_) ?_ ?_
              rotate_left
              · show Act.put _ (some 31) _ = _
                simp only [Act.put, List.setIfInBounds_toArray, List.set_cons_zero, List.set_cons_succ, i64_w, i32_w]
                rfl
              refine one_ (i := 20) (N := some 35) #[true, true, true, true, true, true, true, true, true, true, true, true, true, true, true, true, true, true, true, true, true, false, false, false, false, false, false, false, false, false, false, false, false, false, false, false, false, false, false, false, false, false, false, false, false, false, false, false, false, false, false, false, false] rfl rfl (one_of HT_.out (by kernel_rfl)) (by decide) (fun K hK => ?_)
              refine goes_ Tryd.func19 (by kernel_rfl) rfl #[.agg #[.int .i64 t109, .int .i64 t110, .int .i64 t111, .int .i64 t112], .agg #[.int .i64 t113, .int .i64 t114, .int .i64 t115, .int .i64 t116]] (by rfl) rfl rfl (by (try simp only [List.map_toArray, List.map_cons, List.map_nil]); first | done | rfl | (simp only [List.length_drop, List.length_take]; rfl)) ?_
              with_reducible refine (label_Meet.calls t109 t110 t111 t112 t113 t114 t115 t116 t141 t142 t143 t144 _ A16.out).mono ?_
              rintro e w57 ⟨rfl, hb⟩
              refine ⟨_, rfl, ?_⟩
              have n0_ := Aside0.mk (blk_below (g := gb101) (o := .cells #[.int .i64 t105, .int .i64 t106, .int .i64 t107, .int .i64 t108] 23 (0, 0)) (by (with_reducible repeat (first | refine blk_drewN ?_ _ | refine blk_drew ?_ | refine blk_alloc ?_ _)); exact BK101.out) hb)
              have n1_ := Aside0.mk (blk_below (g := gb102) (o := .cells #[.int .i64 t109, .int .i64 t110, .int .i64 t111, .int .i64 t112] 23 (0, 0)) (by (with_reducible repeat (first | refine blk_drewN ?_ _ | refine blk_drew ?_ | refine blk_alloc ?_ _)); exact BK102.out) hb)
              have n2_ := Aside0.mk (blk_below (g := gb103) (o := .cells #[.int .i64 t113, .int .i64 t114, .int .i64 t115, .int .i64 t116] 23 (0, 0)) (by (with_reducible repeat (first | refine blk_drewN ?_ _ | refine blk_drew ?_ | refine blk_alloc ?_ _)); exact BK103.out) hb)
              have n3_ := Aside0.mk (below_step (by repeat (first | (with_reducible first | exact HB.out | apply below_alloc | apply pw_below_drewN | apply below_drew1 | refine below_set ?_ GE101.out | refine below_set ?_ GE102.out | refine below_set ?_ GE103.out) | exact HB.out)) hb)
              clear BK101
              clear BK102
              clear BK103
              clear HB
              have BK101 := n0_
              have BK102 := n1_
              have BK103 := n2_
              have HB := n3_
              clear n0_ n1_ n2_ n3_
              (try clear hb)
              (try clear hb2)
              (try clear hk)
              (try clear hi)
              refine hK.out _ _ ⟨(blk_cell BK101.out 0).trans rfl, (blk_cell BK101.out 1).trans rfl, (blk_cell BK101.out 2).trans rfl, (blk_cell BK101.out 3).trans rfl, (blk_cell BK102.out 0).trans rfl, (blk_cell BK102.out 1).trans rfl, (blk_cell BK102.out 2).trans rfl, (blk_cell BK102.out 3).trans rfl, (blk_cell BK103.out 0).trans rfl, (blk_cell BK103.out 1).trans rfl, (blk_cell BK103.out 2).trans rfl, (blk_cell BK103.out 3).trans rfl⟩ (fun hHeld => ?_)
              clear hK K
              refine norm_ (a' := ?_) ?_ ?_
              rotate_left
              · show Act.put _ (some 35) _ = _
                simp only [Act.put, List.setIfInBounds_toArray, List.set_cons_zero, List.set_cons_succ, i64_w, i32_w]
                rfl
              refine one_ (i := 21) (N := some 36) #[true, true, true, true, true, true, true, true, true, true, true, true, true, true, true, true, true, true, true, true, true, true, false, false, false, false, false, false, false, false, false, false, false, false, false, false, false, false, false, false, false, false, false, false, false, false, false, false, false, false, false, false, false] rfl rfl (one_of HT_.out (by kernel_rfl)) (by decide) (fun K hK => ?_)
              refine goes_ Tryd.func19 (by kernel_rfl) rfl #[.agg #[.int .i64 t105, .int .i64 t106, .int .i64 t107, .int .i64 t108], .agg #[.int .i64 t141, .int .i64 t142, .int .i64 t143, .int .i64 t144]] (by rfl) rfl rfl (by (try simp only [List.map_toArray, List.map_cons, List.map_nil]); first | done | rfl | (simp only [List.length_drop, List.length_take]; rfl)) ?_
              with_reducible refine (label_Meet.calls t105 t106 t107 t108 t141 t142 t143 t144 t145 t146 t147 t148 _ A17.out).mono ?_
              rintro e w58 ⟨rfl, hb⟩
              refine ⟨_, rfl, ?_⟩
              have n0_ := Aside0.mk (blk_below (g := gb101) (o := .cells #[.int .i64 t105, .int .i64 t106, .int .i64 t107, .int .i64 t108] 23 (0, 0)) (by (with_reducible repeat (first | refine blk_drewN ?_ _ | refine blk_drew ?_ | refine blk_alloc ?_ _)); exact BK101.out) hb)
              have n1_ := Aside0.mk (blk_below (g := gb102) (o := .cells #[.int .i64 t109, .int .i64 t110, .int .i64 t111, .int .i64 t112] 23 (0, 0)) (by (with_reducible repeat (first | refine blk_drewN ?_ _ | refine blk_drew ?_ | refine blk_alloc ?_ _)); exact BK102.out) hb)
              have n2_ := Aside0.mk (blk_below (g := gb103) (o := .cells #[.int .i64 t113, .int .i64 t114, .int .i64 t115, .int .i64 t116] 23 (0, 0)) (by (with_reducible repeat (first | refine blk_drewN ?_ _ | refine blk_drew ?_ | refine blk_alloc ?_ _)); exact BK103.out) hb)
              have n3_ := Aside0.mk (below_step (by repeat (first | (with_reducible first | exact HB.out | apply below_alloc | apply pw_below_drewN | apply below_drew1 | refine below_set ?_ GE101.out | refine below_set ?_ GE102.out | refine below_set ?_ GE103.out) | exact HB.out)) hb)
              clear BK101
              clear BK102
              clear BK103
              clear HB
              have BK101 := n0_
              have BK102 := n1_
              have BK103 := n2_
              have HB := n3_
              clear n0_ n1_ n2_ n3_
              (try clear hb)
              (try clear hb2)
              (try clear hk)
              (try clear hi)
              refine hK.out _ _ ⟨(blk_cell BK101.out 0).trans rfl, (blk_cell BK101.out 1).trans rfl, (blk_cell BK101.out 2).trans rfl, (blk_cell BK101.out 3).trans rfl, (blk_cell BK102.out 0).trans rfl, (blk_cell BK102.out 1).trans rfl, (blk_cell BK102.out 2).trans rfl, (blk_cell BK102.out 3).trans rfl, (blk_cell BK103.out 0).trans rfl, (blk_cell BK103.out 1).trans rfl, (blk_cell BK103.out 2).trans rfl, (blk_cell BK103.out 3).trans rfl⟩ (fun hHeld => ?_)
              clear hK K
              refine norm_ (a' := ?_) ?_ ?_
              rotate_left
              · show Act.put _ (some 36) _ = _
                simp only [Act.put, List.setIfInBounds_toArray, List.set_cons_zero, List.set_cons_succ, i64_w, i32_w]
                rfl
              refine pure_ (i := 22) (N := some 37) (v := ?_) (a' := ?_) #[true, true, true, true, true, true, true, true, true, true, true, true, true, true, true, true, true, true, true, true, true, true, true, false, false, false, false, false, false, false, false, false, false, false, false, false, false, false, false, false, false, false, false, false, false, false, false, false, false, false, false, false, false] rfl rfl (any_of HT_.out (by kernel_rfl)) (fun _ _ _ h => h) (Or.inl ⟨by rfl, ?_⟩) ?_ ?_
              rotate_left
              · intro w'
                go_simp
                with_reducible rfl
              rotate_left
              · simp only [Act.put, List.setIfInBounds_toArray, List.set_cons_zero, List.set_cons_succ, i64_w, i32_w]
                rfl
              refine pure_ (i := 23) (N := some 38) (v := ?_) (a' := ?_) #[true, true, true, true, true, true, true, true, true, true, true, true, true, true, true, true, true, true, true, true, true, true, true, true, false, false, false, false, false, false, false, false, false, false, false, false, false, false, false, false, false, false, false, false, false, false, false, false, false, false, false, false, false] rfl rfl (any_of HT_.out (by kernel_rfl)) (fun _ _ _ h => h) (Or.inl ⟨by rfl, ?_⟩) ?_ ?_
              rotate_left
              · intro w'
                go_simp
                with_reducible rfl
              rotate_left
              · simp only [Act.put, List.setIfInBounds_toArray, List.set_cons_zero, List.set_cons_succ, i64_w, i32_w]
                rfl
              refine pure_ (i := 24) (N := some 39) (v := ?_) (a' := ?_) #[true, true, true, true, true, true, true, true, true, true, true, true, true, true, true, true, true, true, true, true, true, true, true, true, true, false, false, false, false, false, false, false, false, false, false, false, false, false, false, false, false, false, false, false, false, false, false, false, false, false, false, false, false] rfl rfl (any_of HT_.out (by kernel_rfl)) (fun _ _ _ h => h) (Or.inl ⟨by rfl, ?_⟩) ?_ ?_
              rotate_left
              · intro w'
                go_simp
                with_reducible rfl
              rotate_left
              · simp only [Act.put, List.setIfInBounds_toArray, List.set_cons_zero, List.set_cons_succ, i64_w, i32_w]
                rfl
              refine take_ (i := 25) (N := some 40) (v := ?_) (a' := ?_) #[true, true, true, true, true, true, true, true, true, true, true, true, true, true, true, true, true, true, true, true, true, true, true, true, true, true, false, false, false, false, false, false, false, false, false, false, false, false, false, false, false, false, false, false, false, false, false, false, false, false, false, false, false] rfl rfl (take_ofW HT_.out HW_.out (by kernel_rfl)) (fun _ _ _ h => h) (Or.inl ⟨by rfl, ?_⟩) hHeld ?_ ?_
              rotate_left
              · rintro w' ⟨s0, s1, s2, s3, s4, s5, s6, s7, s8, s9, s10, s11⟩
                go_simp
                with_reducible rfl
              rotate_left
              · simp only [Act.put, List.setIfInBounds_toArray, List.set_cons_zero, List.set_cons_succ, i64_w, i32_w]
                rfl
              refine take_ (i := 26) (N := some 41) (v := ?_) (a' := ?_) #[true, true, true, true, true, true, true, true, true, true, true, true, true, true, true, true, true, true, true, true, true, true, true, true, true, true, true, false, false, false, false, false, false, false, false, false, false, false, false, false, false, false, false, false, false, false, false, false, false, false, false, false, false] rfl rfl (take_ofW HT_.out HW_.out (by kernel_rfl)) (fun _ _ _ h => h) (Or.inl ⟨by rfl, ?_⟩) hHeld ?_ ?_
              rotate_left
              · rintro w' ⟨s0, s1, s2, s3, s4, s5, s6, s7, s8, s9, s10, s11⟩
                go_simp
                with_reducible rfl
              rotate_left
              · simp only [Act.put, List.setIfInBounds_toArray, List.set_cons_zero, List.set_cons_succ, i64_w, i32_w]
                rfl
              refine take_ (i := 28) (N := some 43) (v := ?_) (a' := ?_) #[true, true, true, true, true, true, true, true, true, true, true, true, true, true, true, true, true, true, true, true, true, true, true, true, true, true, true, false, true, false, false, false, false, false, false, false, false, false, false, false, false, false, false, false, false, false, false, false, false, false, false, false, false] rfl rfl (take_ofW HT_.out HW_.out (by kernel_rfl)) (fun _ _ _ h => h) (Or.inl ⟨by rfl, ?_⟩) hHeld ?_ ?_
              rotate_left
              · rintro w' ⟨s0, s1, s2, s3, s4, s5, s6, s7, s8, s9, s10, s11⟩
                go_simp
                with_reducible rfl
              rotate_left
              · simp only [Act.put, List.setIfInBounds_toArray, List.set_cons_zero, List.set_cons_succ, i64_w, i32_w]
                rfl
              refine one_ (i := 27) (N := some 42) #[true, true, true, true, true, true, true, true, true, true, true, true, true, true, true, true, true, true, true, true, true, true, true, true, true, true, true, true, true, false, false, false, false, false, false, false, false, false, false, false, false, false, false, false, false, false, false, false, false, false, false, false, false] rfl rfl (one_of HT_.out (by kernel_rfl)) (by decide) (fun K hK => ?_)
              refine goes_ Tryd.func18 (by kernel_rfl) rfl #[.agg #[.int .i64 t105, .int .i64 t106, .int .i64 t107, .int .i64 t108], .agg #[.int .i64 t105, .int .i64 t106, .int .i64 t107, .int .i64 t108]] (by rfl) rfl rfl (by (try simp only [List.map_toArray, List.map_cons, List.map_nil]); first | done | rfl | (simp only [List.length_drop, List.length_take]; rfl)) ?_
              with_reducible refine (label_Join.calls t105 t106 t107 t108 t105 t106 t107 t108 t149 t150 t151 t152 _ A19.out).mono ?_
              rintro e w59 ⟨rfl, hb⟩
              refine ⟨_, rfl, ?_⟩
              have n0_ := Aside0.mk (blk_below (g := gb101) (o := .cells #[.int .i64 t105, .int .i64 t106, .int .i64 t107, .int .i64 t108] 23 (0, 0)) (by (with_reducible repeat (first | refine blk_drewN ?_ _ | refine blk_drew ?_ | refine blk_alloc ?_ _)); exact BK101.out) hb)
              have n1_ := Aside0.mk (blk_below (g := gb102) (o := .cells #[.int .i64 t109, .int .i64 t110, .int .i64 t111, .int .i64 t112] 23 (0, 0)) (by (with_reducible repeat (first | refine blk_drewN ?_ _ | refine blk_drew ?_ | refine blk_alloc ?_ _)); exact BK102.out) hb)
              have n2_ := Aside0.mk (blk_below (g := gb103) (o := .cells #[.int .i64 t113, .int .i64 t114, .int .i64 t115, .int .i64 t116] 23 (0, 0)) (by (with_reducible repeat (first | refine blk_drewN ?_ _ | refine blk_drew ?_ | refine blk_alloc ?_ _)); exact BK103.out) hb)
              have n3_ := Aside0.mk (below_step (by repeat (first | (with_reducible first | exact HB.out | apply below_alloc | apply pw_below_drewN | apply below_drew1 | refine below_set ?_ GE101.out | refine below_set ?_ GE102.out | refine below_set ?_ GE103.out) | exact HB.out)) hb)
              clear BK101
              clear BK102
              clear BK103
              clear HB
              have BK101 := n0_
              have BK102 := n1_
              have BK103 := n2_
              have HB := n3_
              clear n0_ n1_ n2_ n3_
              (try clear hb)
              (try clear hb2)
              (try clear hk)
              (try clear hi)
              refine hK.out _ _ ⟨(blk_cell BK101.out 0).trans rfl, (blk_cell BK101.out 1).trans rfl, (blk_cell BK101.out 2).trans rfl, (blk_cell BK101.out 3).trans rfl, (blk_cell BK102.out 0).trans rfl, (blk_cell BK102.out 1).trans rfl, (blk_cell BK102.out 2).trans rfl, (blk_cell BK102.out 3).trans rfl, (blk_cell BK103.out 0).trans rfl, (blk_cell BK103.out 1).trans rfl, (blk_cell BK103.out 2).trans rfl, (blk_cell BK103.out 3).trans rfl⟩ (fun hHeld => ?_)
              clear hK K
              refine norm_ (a' := ?_) ?_ ?_
              rotate_left
              · show Act.put _ (some 42) _ = _
                simp only [Act.put, List.setIfInBounds_toArray, List.set_cons_zero, List.set_cons_succ, i64_w, i32_w]
                rfl
              refine pure_ (i := 29) (N := some 44) (v := ?_) (a' := ?_) #[true, true, true, true, true, true, true, true, true, true, true, true, true, true, true, true, true, true, true, true, true, true, true, true, true, true, true, true, true, true, false, false, false, false, false, false, false, false, false, false, false, false, false, false, false, false, false, false, false, false, false, false, false] rfl rfl (any_of HT_.out (by kernel_rfl)) (fun _ _ _ h => h) (Or.inl ⟨by rfl, ?_⟩) ?_ ?_
              rotate_left
              · intro w'
                go_simp
                with_reducible rfl
              rotate_left
              · simp only [Act.put, List.setIfInBounds_toArray, List.set_cons_zero, List.set_cons_succ, i64_w, i32_w]
                rfl
              refine pure_ (i := 30) (N := some 45) (v := ?_) (a' := ?_) #[true, true, true, true, true, true, true, true, true, true, true, true, true, true, true, true, true, true, true, true, true, true, true, true, true, true, true, true, true, true, true, false, false, false, false, false, false, false, false, false, false, false, false, false, false, false, false, false, false, false, false, false, false] rfl rfl (any_of HT_.out (by kernel_rfl)) (fun _ _ _ h => h) (Or.inl ⟨by rfl, ?_⟩) ?_ ?_
              rotate_left
              · intro w'
                go_simp
                with_reducible rfl
              rotate_left
              · simp only [Act.put, List.setIfInBounds_toArray, List.set_cons_zero, List.set_cons_succ, i64_w, i32_w]
                rfl
              refine pure_ (i := 31) (N := some 46) (v := ?_) (a' := ?_) #[true, true, true, true, true, true, true, true, true, true, true, true, true, true, true, true, true, true, true, true, true, true, true, true, true, true, true, true, true, true, true, true, false, false, false, false, false, false, false, false, false, false, false, false, false, false, false, false, false, false, false, false, false] rfl rfl (any_of HT_.out (by kernel_rfl)) (fun _ _ _ h => h) (Or.inl ⟨by rfl, ?_⟩) ?_ ?_
              rotate_left
              · intro w'
                go_simp
                with_reducible rfl
              rotate_left
              · simp only [Act.put, List.setIfInBounds_toArray, List.set_cons_zero, List.set_cons_succ, i64_w, i32_w]
                rfl
              refine take_ (i := 32) (N := some 47) (v := ?_) (a' := ?_) #[true, true, true, true, true, true, true, true, true, true, true, true, true, true, true, true, true, true, true, true, true, true, true, true, true, true, true, true, true, true, true, true, true, false, false, false, false, false, false, false, false, false, false, false, false, false, false, false, false, false, false, false, false] rfl rfl (take_ofW HT_.out HW_.out (by kernel_rfl)) (fun _ _ _ h => h) (Or.inl ⟨by rfl, ?_⟩) hHeld ?_ ?_
              rotate_left
              · rintro w' ⟨s0, s1, s2, s3, s4, s5, s6, s7, s8, s9, s10, s11⟩
                go_simp
                with_reducible rfl
              rotate_left
              · simp only [Act.put, List.setIfInBounds_toArray, List.set_cons_zero, List.set_cons_succ, i64_w, i32_w]
                rfl
              refine take_ (i := 33) (N := some 48) (v := ?_) (a' := ?_) #[true, true, true, true, true, true, true, true, true, true, true, true, true, true, true, true, true, true, true, true, true, true, true, true, true, true, true, true, true, true, true, true, true, true, false, false, false, false, false, false, false, false, false, false, false, false, false, false, false, false, false, false, false] rfl rfl (take_ofW HT_.out HW_.out (by kernel_rfl)) (fun _ _ _ h => h) (Or.inl ⟨by rfl, ?_⟩) hHeld ?_ ?_
              rotate_left
              · rintro w' ⟨s0, s1, s2, s3, s4, s5, s6, s7, s8, s9, s10, s11⟩
                go_simp
                with_reducible rfl
              rotate_left
              · simp only [Act.put, List.setIfInBounds_toArray, List.set_cons_zero, List.set_cons_succ, i64_w, i32_w]
                rfl
              refine take_ (i := 35) (N := some 50) (v := ?_) (a' := ?_) #[true, true, true, true, true, true, true, true, true, true, true, true, true, true, true, true, true, true, true, true, true, true, true, true, true, true, true, true, true, true, true, true, true, true, false, true, false, false, false, false, false, false, false, false, false, false, false, false, false, false, false, false, false] rfl rfl (take_ofW HT_.out HW_.out (by kernel_rfl)) (fun _ _ _ h => h) (Or.inl ⟨by rfl, ?_⟩) hHeld ?_ ?_
              rotate_left
              · rintro w' ⟨s0, s1, s2, s3, s4, s5, s6, s7, s8, s9, s10, s11⟩
                go_simp
                with_reducible rfl
              rotate_left
              · simp only [Act.put, List.setIfInBounds_toArray, List.set_cons_zero, List.set_cons_succ, i64_w, i32_w]
                rfl
              refine one_ (i := 34) (N := some 49) #[true, true, true, true, true, true, true, true, true, true, true, true, true, true, true, true, true, true, true, true, true, true, true, true, true, true, true, true, true, true, true, true, true, true, true, true, false, false, false, false, false, false, false, false, false, false, false, false, false, false, false, false, false] rfl rfl (one_of HT_.out (by kernel_rfl)) (by decide) (fun K hK => ?_)
              refine goes_ Tryd.func19 (by kernel_rfl) rfl #[.agg #[.int .i64 t105, .int .i64 t106, .int .i64 t107, .int .i64 t108], .agg #[.int .i64 t105, .int .i64 t106, .int .i64 t107, .int .i64 t108]] (by rfl) rfl rfl (by (try simp only [List.map_toArray, List.map_cons, List.map_nil]); first | done | rfl | (simp only [List.length_drop, List.length_take]; rfl)) ?_
              with_reducible refine (label_Meet.calls t105 t106 t107 t108 t105 t106 t107 t108 t153 t154 t155 t156 _ A21.out).mono ?_
              rintro e w60 ⟨rfl, hb⟩
              refine ⟨_, rfl, ?_⟩
              have n0_ := Aside0.mk (blk_below (g := gb101) (o := .cells #[.int .i64 t105, .int .i64 t106, .int .i64 t107, .int .i64 t108] 23 (0, 0)) (by (with_reducible repeat (first | refine blk_drewN ?_ _ | refine blk_drew ?_ | refine blk_alloc ?_ _)); exact BK101.out) hb)
              have n1_ := Aside0.mk (blk_below (g := gb102) (o := .cells #[.int .i64 t109, .int .i64 t110, .int .i64 t111, .int .i64 t112] 23 (0, 0)) (by (with_reducible repeat (first | refine blk_drewN ?_ _ | refine blk_drew ?_ | refine blk_alloc ?_ _)); exact BK102.out) hb)
              have n2_ := Aside0.mk (blk_below (g := gb103) (o := .cells #[.int .i64 t113, .int .i64 t114, .int .i64 t115, .int .i64 t116] 23 (0, 0)) (by (with_reducible repeat (first | refine blk_drewN ?_ _ | refine blk_drew ?_ | refine blk_alloc ?_ _)); exact BK103.out) hb)
              have n3_ := Aside0.mk (below_step (by repeat (first | (with_reducible first | exact HB.out | apply below_alloc | apply pw_below_drewN | apply below_drew1 | refine below_set ?_ GE101.out | refine below_set ?_ GE102.out | refine below_set ?_ GE103.out) | exact HB.out)) hb)
              clear BK101
              clear BK102
              clear BK103
              clear HB
              have BK101 := n0_
              have BK102 := n1_
              have BK103 := n2_
              have HB := n3_
              clear n0_ n1_ n2_ n3_
              (try clear hb)
              (try clear hb2)
              (try clear hk)
              (try clear hi)
              refine hK.out _ _ ⟨(blk_cell BK101.out 0).trans rfl, (blk_cell BK101.out 1).trans rfl, (blk_cell BK101.out 2).trans rfl, (blk_cell BK101.out 3).trans rfl, (blk_cell BK102.out 0).trans rfl, (blk_cell BK102.out 1).trans rfl, (blk_cell BK102.out 2).trans rfl, (blk_cell BK102.out 3).trans rfl, (blk_cell BK103.out 0).trans rfl, (blk_cell BK103.out 1).trans rfl, (blk_cell BK103.out 2).trans rfl, (blk_cell BK103.out 3).trans rfl⟩ (fun hHeld => ?_)
              clear hK K
              refine norm_ (a' := ?_) ?_ ?_
              rotate_left
              · show Act.put _ (some 49) _ = _
                simp only [Act.put, List.setIfInBounds_toArray, List.set_cons_zero, List.set_cons_succ, i64_w, i32_w]
                rfl
              refine pure_ (i := 36) (N := some 51) (v := ?_) (a' := ?_) #[true, true, true, true, true, true, true, true, true, true, true, true, true, true, true, true, true, true, true, true, true, true, true, true, true, true, true, true, true, true, true, true, true, true, true, true, true, false, false, false, false, false, false, false, false, false, false, false, false, false, false, false, false] rfl rfl (any_of HT_.out (by kernel_rfl)) (fun _ _ _ h => h) (Or.inl ⟨by rfl, ?_⟩) ?_ ?_
              rotate_left
              · intro w'
                go_simp
                with_reducible rfl
              rotate_left
              · simp only [Act.put, List.setIfInBounds_toArray, List.set_cons_zero, List.set_cons_succ, i64_w, i32_w]
                rfl
              refine pure_ (i := 37) (N := some 52) (v := ?_) (a' := ?_) #[true, true, true, true, true, true, true, true, true, true, true, true, true, true, true, true, true, true, true, true, true, true, true, true, true, true, true, true, true, true, true, true, true, true, true, true, true, true, false, false, false, false, false, false, false, false, false, false, false, false, false, false, false] rfl rfl (any_of HT_.out (by kernel_rfl)) (fun _ _ _ h => h) (Or.inl ⟨by rfl, ?_⟩) ?_ ?_
              rotate_left
              · intro w'
                go_simp
                with_reducible rfl
              rotate_left
              · simp only [Act.put, List.setIfInBounds_toArray, List.set_cons_zero, List.set_cons_succ, i64_w, i32_w]
                rfl
              refine pure_ (i := 38) (N := some 53) (v := ?_) (a' := ?_) #[true, true, true, true, true, true, true, true, true, true, true, true, true, true, true, true, true, true, true, true, true, true, true, true, true, true, true, true, true, true, true, true, true, true, true, true, true, true, true, false, false, false, false, false, false, false, false, false, false, false, false, false, false] rfl rfl (any_of HT_.out (by kernel_rfl)) (fun _ _ _ h => h) (Or.inl ⟨by rfl, ?_⟩) ?_ ?_
              rotate_left
              · intro w'
                go_simp
                with_reducible rfl
              rotate_left
              · simp only [Act.put, List.setIfInBounds_toArray, List.set_cons_zero, List.set_cons_succ, i64_w, i32_w]
                rfl
              refine take_ (i := 39) (N := some 54) (v := ?_) (a' := ?_) #[true, true, true, true, true, true, true, true, true, true, true, true, true, true, true, true, true, true, true, true, true, true, true, true, true, true, true, true, true, true, true, true, true, true, true, true, true, true, true, true, false, false, false, false, false, false, false, false, false, false, false, false, false] rfl rfl (take_ofW HT_.out HW_.out (by kernel_rfl)) (fun _ _ _ h => h) (Or.inl ⟨by rfl, ?_⟩) hHeld ?_ ?_
              rotate_left
              · rintro w' ⟨s0, s1, s2, s3, s4, s5, s6, s7, s8, s9, s10, s11⟩
                go_simp
                with_reducible rfl
              rotate_left
              · simp only [Act.put, List.setIfInBounds_toArray, List.set_cons_zero, List.set_cons_succ, i64_w, i32_w]
                rfl
              refine take_ (i := 42) (N := some 57) (v := ?_) (a' := ?_) #[true, true, true, true, true, true, true, true, true, true, true, true, true, true, true, true, true, true, true, true, true, true, true, true, true, true, true, true, true, true, true, true, true, true, true, true, true, true, true, true, false, false, true, false, false, false, false, false, false, false, false, false, false] rfl rfl (take_ofW HT_.out HW_.out (by kernel_rfl)) (fun _ _ _ h => h) (Or.inl ⟨by rfl, ?_⟩) hHeld ?_ ?_
              rotate_left
              · rintro w' ⟨s0, s1, s2, s3, s4, s5, s6, s7, s8, s9, s10, s11⟩
                go_simp
                with_reducible rfl
              rotate_left
              · simp only [Act.put, List.setIfInBounds_toArray, List.set_cons_zero, List.set_cons_succ, i64_w, i32_w]
                rfl
              refine one_ (i := 40) (N := some 55) #[true, true, true, true, true, true, true, true, true, true, true, true, true, true, true, true, true, true, true, true, true, true, true, true, true, true, true, true, true, true, true, true, true, true, true, true, true, true, true, true, true, false, true, false, false, false, false, false, false, false, false, false, false] rfl rfl (one_of HT_.out (by kernel_rfl)) (by decide) (fun K hK => ?_)
              refine goes_ Tryd.func17 (by kernel_rfl) rfl #[] (by rfl) rfl rfl (by (try simp only [List.map_toArray, List.map_cons, List.map_nil]); first | done | rfl | (simp only [List.length_drop, List.length_take]; rfl)) ?_
              with_reducible refine (label_Bottom.calls  t157 t158 t159 t160 _ A23.out).mono ?_
              rintro e w61 ⟨rfl, hb⟩
              refine ⟨_, rfl, ?_⟩
              have n0_ := Aside0.mk (blk_below (g := gb101) (o := .cells #[.int .i64 t105, .int .i64 t106, .int .i64 t107, .int .i64 t108] 23 (0, 0)) (by (with_reducible repeat (first | refine blk_drewN ?_ _ | refine blk_drew ?_ | refine blk_alloc ?_ _)); exact BK101.out) hb)
              have n1_ := Aside0.mk (blk_below (g := gb102) (o := .cells #[.int .i64 t109, .int .i64 t110, .int .i64 t111, .int .i64 t112] 23 (0, 0)) (by (with_reducible repeat (first | refine blk_drewN ?_ _ | refine blk_drew ?_ | refine blk_alloc ?_ _)); exact BK102.out) hb)
              have n2_ := Aside0.mk (blk_below (g := gb103) (o := .cells #[.int .i64 t113, .int .i64 t114, .int .i64 t115, .int .i64 t116] 23 (0, 0)) (by (with_reducible repeat (first | refine blk_drewN ?_ _ | refine blk_drew ?_ | refine blk_alloc ?_ _)); exact BK103.out) hb)
              have n3_ := Aside0.mk (below_step (by repeat (first | (with_reducible first | exact HB.out | apply below_alloc | apply pw_below_drewN | apply below_drew1 | refine below_set ?_ GE101.out | refine below_set ?_ GE102.out | refine below_set ?_ GE103.out) | exact HB.out)) hb)
              clear BK101
              clear BK102
              clear BK103
              clear HB
              have BK101 := n0_
              have BK102 := n1_
              have BK103 := n2_
              have HB := n3_
              clear n0_ n1_ n2_ n3_
              (try clear hb)
              (try clear hb2)
              (try clear hk)
              (try clear hi)
              refine hK.out _ _ ⟨(blk_cell BK101.out 0).trans rfl, (blk_cell BK101.out 1).trans rfl, (blk_cell BK101.out 2).trans rfl, (blk_cell BK101.out 3).trans rfl, (blk_cell BK102.out 0).trans rfl, (blk_cell BK102.out 1).trans rfl, (blk_cell BK102.out 2).trans rfl, (blk_cell BK102.out 3).trans rfl, (blk_cell BK103.out 0).trans rfl, (blk_cell BK103.out 1).trans rfl, (blk_cell BK103.out 2).trans rfl, (blk_cell BK103.out 3).trans rfl⟩ (fun hHeld => ?_)
              clear hK K
              refine norm_ (a' := ?_) ?_ ?_
              rotate_left
              · show Act.put _ (some 55) _ = _
                simp only [Act.put, List.setIfInBounds_toArray, List.set_cons_zero, List.set_cons_succ, i64_w, i32_w]
                rfl
              refine one_ (i := 41) (N := some 56) #[true, true, true, true, true, true, true, true, true, true, true, true, true, true, true, true, true, true, true, true, true, true, true, true, true, true, true, true, true, true, true, true, true, true, true, true, true, true, true, true, true, true, true, false, false, false, false, false, false, false, false, false, false] rfl rfl (one_of HT_.out (by kernel_rfl)) (by decide) (fun K hK => ?_)
              refine goes_ Tryd.func18 (by kernel_rfl) rfl #[.agg #[.int .i64 t105, .int .i64 t106, .int .i64 t107, .int .i64 t108], .agg #[.int .i64 t157, .int .i64 t158, .int .i64 t159, .int .i64 t160]] (by rfl) rfl rfl (by (try simp only [List.map_toArray, List.map_cons, List.map_nil]); first | done | rfl | (simp only [List.length_drop, List.length_take]; rfl)) ?_
              with_reducible refine (label_Join.calls t105 t106 t107 t108 t157 t158 t159 t160 t161 t162 t163 t164 _ A24.out).mono ?_
              rintro e w62 ⟨rfl, hb⟩
              refine ⟨_, rfl, ?_⟩
              have n0_ := Aside0.mk (blk_below (g := gb101) (o := .cells #[.int .i64 t105, .int .i64 t106, .int .i64 t107, .int .i64 t108] 23 (0, 0)) (by (with_reducible repeat (first | refine blk_drewN ?_ _ | refine blk_drew ?_ | refine blk_alloc ?_ _)); exact BK101.out) hb)
              have n1_ := Aside0.mk (blk_below (g := gb102) (o := .cells #[.int .i64 t109, .int .i64 t110, .int .i64 t111, .int .i64 t112] 23 (0, 0)) (by (with_reducible repeat (first | refine blk_drewN ?_ _ | refine blk_drew ?_ | refine blk_alloc ?_ _)); exact BK102.out) hb)
              have n2_ := Aside0.mk (blk_below (g := gb103) (o := .cells #[.int .i64 t113, .int .i64 t114, .int .i64 t115, .int .i64 t116] 23 (0, 0)) (by (with_reducible repeat (first | refine blk_drewN ?_ _ | refine blk_drew ?_ | refine blk_alloc ?_ _)); exact BK103.out) hb)
              have n3_ := Aside0.mk (below_step (by repeat (first | (with_reducible first | exact HB.out | apply below_alloc | apply pw_below_drewN | apply below_drew1 | refine below_set ?_ GE101.out | refine below_set ?_ GE102.out | refine below_set ?_ GE103.out) | exact HB.out)) hb)
              clear BK101
              clear BK102
              clear BK103
              clear HB
              have BK101 := n0_
              have BK102 := n1_
              have BK103 := n2_
              have HB := n3_
              clear n0_ n1_ n2_ n3_
              (try clear hb)
              (try clear hb2)
              (try clear hk)
              (try clear hi)
              refine hK.out _ _ ⟨(blk_cell BK101.out 0).trans rfl, (blk_cell BK101.out 1).trans rfl, (blk_cell BK101.out 2).trans rfl, (blk_cell BK101.out 3).trans rfl, (blk_cell BK102.out 0).trans rfl, (blk_cell BK102.out 1).trans rfl, (blk_cell BK102.out 2).trans rfl, (blk_cell BK102.out 3).trans rfl, (blk_cell BK103.out 0).trans rfl, (blk_cell BK103.out 1).trans rfl, (blk_cell BK103.out 2).trans rfl, (blk_cell BK103.out 3).trans rfl⟩ (fun hHeld => ?_)
              clear hK K
              refine norm_ (a' := ?_) ?_ ?_
              rotate_left
              · show Act.put _ (some 56) _ = _
                simp only [Act.put, List.setIfInBounds_toArray, List.set_cons_zero, List.set_cons_succ, i64_w, i32_w]
                rfl
              refine pure_ (i := 43) (N := some 58) (v := ?_) (a' := ?_) #[true, true, true, true, true, true, true, true, true, true, true, true, true, true, true, true, true, true, true, true, true, true, true, true, true, true, true, true, true, true, true, true, true, true, true, true, true, true, true, true, true, true, true, true, false, false, false, false, false, false, false, false, false] rfl rfl (any_of HT_.out (by kernel_rfl)) (fun _ _ _ h => h) (Or.inl ⟨by rfl, ?_⟩) ?_ ?_
              rotate_left
              · intro w'
                go_simp
                with_reducible rfl
              rotate_left
              · simp only [Act.put, List.setIfInBounds_toArray, List.set_cons_zero, List.set_cons_succ, i64_w, i32_w]
                rfl
              refine pure_ (i := 44) (N := some 59) (v := ?_) (a' := ?_) #[true, true, true, true, true, true, true, true, true, true, true, true, true, true, true, true, true, true, true, true, true, true, true, true, true, true, true, true, true, true, true, true, true, true, true, true, true, true, true, true, true, true, true, true, true, false, false, false, false, false, false, false, false] rfl rfl (any_of HT_.out (by kernel_rfl)) (fun _ _ _ h => h) (Or.inl ⟨by rfl, ?_⟩) ?_ ?_
              rotate_left
              · intro w'
                go_simp
                with_reducible rfl
              rotate_left
              · simp only [Act.put, List.setIfInBounds_toArray, List.set_cons_zero, List.set_cons_succ, i64_w, i32_w]
                rfl
              refine pure_ (i := 45) (N := some 60) (v := ?_) (a' := ?_) #[true, true, true, true, true, true, true, true, true, true, true, true, true, true, true, true, true, true, true, true, true, true, true, true, true, true, true, true, true, true, true, true, true, true, true, true, true, true, true, true, true, true, true, true, true, true, false, false, false, false, false, false, false] rfl rfl (any_of HT_.out (by kernel_rfl)) (fun _ _ _ h => h) (Or.inl ⟨by rfl, ?_⟩) ?_ ?_
              rotate_left
              · intro w'
                go_simp
                with_reducible rfl
              rotate_left
              · simp only [Act.put, List.setIfInBounds_toArray, List.set_cons_zero, List.set_cons_succ, i64_w, i32_w]
                rfl
              refine take_ (i := 46) (N := some 61) (v := ?_) (a' := ?_) #[true, true, true, true, true, true, true, true, true, true, true, true, true, true, true, true, true, true, true, true, true, true, true, true, true, true, true, true, true, true, true, true, true, true, true, true, true, true, true, true, true, true, true, true, true, true, true, false, false, false, false, false, false] rfl rfl (take_ofW HT_.out HW_.out (by kernel_rfl)) (fun _ _ _ h => h) (Or.inl ⟨by rfl, ?_⟩) hHeld ?_ ?_
              rotate_left
              · rintro w' ⟨s0, s1, s2, s3, s4, s5, s6, s7, s8, s9, s10, s11⟩
                go_simp
                with_reducible rfl
              rotate_left
              · simp only [Act.put, List.setIfInBounds_toArray, List.set_cons_zero, List.set_cons_succ, i64_w, i32_w]
                rfl
              refine one_ (i := 47) (N := some 62) #[true, true, true, true, true, true, true, true, true, true, true, true, true, true, true, true, true, true, true, true, true, true, true, true, true, true, true, true, true, true, true, true, true, true, true, true, true, true, true, true, true, true, true, true, true, true, true, true, false, false, false, false, false] rfl rfl (one_of HT_.out (by kernel_rfl)) (by decide) (fun K hK => ?_)
              refine goes_ Tryd.func17 (by kernel_rfl) rfl #[] (by rfl) rfl rfl (by (try simp only [List.map_toArray, List.map_cons, List.map_nil]); first | done | rfl | (simp only [List.length_drop, List.length_take]; rfl)) ?_
              with_reducible refine (label_Bottom.calls  t165 t166 t167 t168 _ A26.out).mono ?_
              rintro e w63 ⟨rfl, hb⟩
              refine ⟨_, rfl, ?_⟩
              have n0_ := Aside0.mk (blk_below (g := gb101) (o := .cells #[.int .i64 t105, .int .i64 t106, .int .i64 t107, .int .i64 t108] 23 (0, 0)) (by (with_reducible repeat (first | refine blk_drewN ?_ _ | refine blk_drew ?_ | refine blk_alloc ?_ _)); exact BK101.out) hb)
              have n1_ := Aside0.mk (blk_below (g := gb102) (o := .cells #[.int .i64 t109, .int .i64 t110, .int .i64 t111, .int .i64 t112] 23 (0, 0)) (by (with_reducible repeat (first | refine blk_drewN ?_ _ | refine blk_drew ?_ | refine blk_alloc ?_ _)); exact BK102.out) hb)
              have n2_ := Aside0.mk (blk_below (g := gb103) (o := .cells #[.int .i64 t113, .int .i64 t114, .int .i64 t115, .int .i64 t116] 23 (0, 0)) (by (with_reducible repeat (first | refine blk_drewN ?_ _ | refine blk_drew ?_ | refine blk_alloc ?_ _)); exact BK103.out) hb)
              have n3_ := Aside0.mk (below_step (by repeat (first | (with_reducible first | exact HB.out | apply below_alloc | apply pw_below_drewN | apply below_drew1 | refine below_set ?_ GE101.out | refine below_set ?_ GE102.out | refine below_set ?_ GE103.out) | exact HB.out)) hb)
              clear BK101
              clear BK102
              clear BK103
              clear HB
              have BK101 := n0_
              have BK102 := n1_
              have BK103 := n2_
              have HB := n3_
              clear n0_ n1_ n2_ n3_
              (try clear hb)
              (try clear hb2)
              (try clear hk)
              (try clear hi)
              refine hK.out _ _ ⟨(blk_cell BK101.out 0).trans rfl, (blk_cell BK101.out 1).trans rfl, (blk_cell BK101.out 2).trans rfl, (blk_cell BK101.out 3).trans rfl, (blk_cell BK102.out 0).trans rfl, (blk_cell BK102.out 1).trans rfl, (blk_cell BK102.out 2).trans rfl, (blk_cell BK102.out 3).trans rfl, (blk_cell BK103.out 0).trans rfl, (blk_cell BK103.out 1).trans rfl, (blk_cell BK103.out 2).trans rfl, (blk_cell BK103.out 3).trans rfl⟩ (fun hHeld => ?_)
              clear hK K
              refine norm_ (a' := ?_) ?_ ?_
              rotate_left
              · show Act.put _ (some 62) _ = _
                simp only [Act.put, List.setIfInBounds_toArray, List.set_cons_zero, List.set_cons_succ, i64_w, i32_w]
                rfl
              refine one_ (i := 48) (N := some 63) #[true, true, true, true, true, true, true, true, true, true, true, true, true, true, true, true, true, true, true, true, true, true, true, true, true, true, true, true, true, true, true, true, true, true, true, true, true, true, true, true, true, true, true, true, true, true, true, true, true, false, false, false, false] rfl rfl (one_of HT_.out (by kernel_rfl)) (by decide) (fun K hK => ?_)
              refine goes_ Tryd.func19 (by kernel_rfl) rfl #[.agg #[.int .i64 t105, .int .i64 t106, .int .i64 t107, .int .i64 t108], .agg #[.int .i64 t165, .int .i64 t166, .int .i64 t167, .int .i64 t168]] (by rfl) rfl rfl (by (try simp only [List.map_toArray, List.map_cons, List.map_nil]); first | done | rfl | (simp only [List.length_drop, List.length_take]; rfl)) ?_
              with_reducible refine (label_Meet.calls t105 t106 t107 t108 t165 t166 t167 t168 t169 t170 t171 t172 _ A27.out).mono ?_
              rintro e w64 ⟨rfl, hb⟩
              refine ⟨_, rfl, ?_⟩
              have n0_ := Aside0.mk (blk_below (g := gb101) (o := .cells #[.int .i64 t105, .int .i64 t106, .int .i64 t107, .int .i64 t108] 23 (0, 0)) (by (with_reducible repeat (first | refine blk_drewN ?_ _ | refine blk_drew ?_ | refine blk_alloc ?_ _)); exact BK101.out) hb)
              have n1_ := Aside0.mk (blk_below (g := gb102) (o := .cells #[.int .i64 t109, .int .i64 t110, .int .i64 t111, .int .i64 t112] 23 (0, 0)) (by (with_reducible repeat (first | refine blk_drewN ?_ _ | refine blk_drew ?_ | refine blk_alloc ?_ _)); exact BK102.out) hb)
              have n2_ := Aside0.mk (blk_below (g := gb103) (o := .cells #[.int .i64 t113, .int .i64 t114, .int .i64 t115, .int .i64 t116] 23 (0, 0)) (by (with_reducible repeat (first | refine blk_drewN ?_ _ | refine blk_drew ?_ | refine blk_alloc ?_ _)); exact BK103.out) hb)
              have n3_ := Aside0.mk (below_step (by repeat (first | (with_reducible first | exact HB.out | apply below_alloc | apply pw_below_drewN | apply below_drew1 | refine below_set ?_ GE101.out | refine below_set ?_ GE102.out | refine below_set ?_ GE103.out) | exact HB.out)) hb)
              clear BK101
              clear BK102
              clear BK103
              clear HB
              have BK101 := n0_
              have BK102 := n1_
              have BK103 := n2_
              have HB := n3_
              clear n0_ n1_ n2_ n3_
              (try clear hb)
              (try clear hb2)
              (try clear hk)
              (try clear hi)
              refine hK.out _ _ ⟨(blk_cell BK101.out 0).trans rfl, (blk_cell BK101.out 1).trans rfl, (blk_cell BK101.out 2).trans rfl, (blk_cell BK101.out 3).trans rfl, (blk_cell BK102.out 0).trans rfl, (blk_cell BK102.out 1).trans rfl, (blk_cell BK102.out 2).trans rfl, (blk_cell BK102.out 3).trans rfl, (blk_cell BK103.out 0).trans rfl, (blk_cell BK103.out 1).trans rfl, (blk_cell BK103.out 2).trans rfl, (blk_cell BK103.out 3).trans rfl⟩ (fun hHeld => ?_)
              clear hK K
              refine norm_ (a' := ?_) ?_ ?_
              rotate_left
              · show Act.put _ (some 63) _ = _
                simp only [Act.put, List.setIfInBounds_toArray, List.set_cons_zero, List.set_cons_succ, i64_w, i32_w]
                rfl
              refine one_ (i := 49) (N := some 64) #[true, true, true, true, true, true, true, true, true, true, true, true, true, true, true, true, true, true, true, true, true, true, true, true, true, true, true, true, true, true, true, true, true, true, true, true, true, true, true, true, true, true, true, true, true, true, true, true, true, true, false, false, false] rfl rfl (one_of HT_.out (by kernel_rfl)) (by decide) (fun K hK => ?_)
              refine goes_ Tryd.func17 (by kernel_rfl) rfl #[] (by rfl) rfl rfl (by (try simp only [List.map_toArray, List.map_cons, List.map_nil]); first | done | rfl | (simp only [List.length_drop, List.length_take]; rfl)) ?_
              with_reducible refine (label_Bottom.calls  t173 t174 t175 t176 _ A28.out).mono ?_
              rintro e w65 ⟨rfl, hb⟩
              refine ⟨_, rfl, ?_⟩
              have n0_ := Aside0.mk (blk_below (g := gb101) (o := .cells #[.int .i64 t105, .int .i64 t106, .int .i64 t107, .int .i64 t108] 23 (0, 0)) (by (with_reducible repeat (first | refine blk_drewN ?_ _ | refine blk_drew ?_ | refine blk_alloc ?_ _)); exact BK101.out) hb)
              have n1_ := Aside0.mk (blk_below (g := gb102) (o := .cells #[.int .i64 t109, .int .i64 t110, .int .i64 t111, .int .i64 t112] 23 (0, 0)) (by (with_reducible repeat (first | refine blk_drewN ?_ _ | refine blk_drew ?_ | refine blk_alloc ?_ _)); exact BK102.out) hb)
              have n2_ := Aside0.mk (blk_below (g := gb103) (o := .cells #[.int .i64 t113, .int .i64 t114, .int .i64 t115, .int .i64 t116] 23 (0, 0)) (by (with_reducible repeat (first | refine blk_drewN ?_ _ | refine blk_drew ?_ | refine blk_alloc ?_ _)); exact BK103.out) hb)
              have n3_ := Aside0.mk (below_step (by repeat (first | (with_reducible first | exact HB.out | apply below_alloc | apply pw_below_drewN | apply below_drew1 | refine below_set ?_ GE101.out | refine below_set ?_ GE102.out | refine below_set ?_ GE103.out) | exact HB.out)) hb)
              clear BK101
              clear BK102
              clear BK103
              clear HB
              have BK101 := n0_
              have BK102 := n1_
              have BK103 := n2_
              have HB := n3_
              clear n0_ n1_ n2_ n3_
              (try clear hb)
              (try clear hb2)
              (try clear hk)
              (try clear hi)
              refine hK.out _ _ ⟨(blk_cell BK101.out 0).trans rfl, (blk_cell BK101.out 1).trans rfl, (blk_cell BK101.out 2).trans rfl, (blk_cell BK101.out 3).trans rfl, (blk_cell BK102.out 0).trans rfl, (blk_cell BK102.out 1).trans rfl, (blk_cell BK102.out 2).trans rfl, (blk_cell BK102.out 3).trans rfl, (blk_cell BK103.out 0).trans rfl, (blk_cell BK103.out 1).trans rfl, (blk_cell BK103.out 2).trans rfl, (blk_cell BK103.out 3).trans rfl⟩ (fun hHeld => ?_)
              clear hK K
              refine norm_ (a' := ?_) ?_ ?_
              rotate_left
              · show Act.put _ (some 64) _ = _
                simp only [Act.put, List.setIfInBounds_toArray, List.set_cons_zero, List.set_cons_succ, i64_w, i32_w]
                rfl
              refine pure_ (i := 50) (N := some 65) (v := ?_) (a' := ?_) #[true, true, true, true, true, true, true, true, true, true, true, true, true, true, true, true, true, true, true, true, true, true, true, true, true, true, true, true, true, true, true, true, true, true, true, true, true, true, true, true, true, true, true, true, true, true, true, true, true, true, true, false, false] rfl rfl (any_of HT_.out (by kernel_rfl)) (fun _ _ _ h => h) (Or.inl ⟨by rfl, ?_⟩) ?_ ?_
              rotate_left
              · intro w'
                go_simp
                with_reducible rfl
              rotate_left
              · simp only [Act.put, List.setIfInBounds_toArray, List.set_cons_zero, List.set_cons_succ, i64_w, i32_w]
                rfl
              refine pure_ (i := 51) (N := some 66) (v := ?_) (a' := ?_) #[true, true, true, true, true, true, true, true, true, true, true, true, true, true, true, true, true, true, true, true, true, true, true, true, true, true, true, true, true, true, true, true, true, true, true, true, true, true, true, true, true, true, true, true, true, true, true, true, true, true, true, true, false] rfl rfl (any_of HT_.out (by kernel_rfl)) (fun _ _ _ h => h) (Or.inl ⟨by rfl, ?_⟩) ?_ ?_
              rotate_left
              · intro w'
                go_simp
                with_reducible rfl
              rotate_left
              · simp only [Act.put, List.setIfInBounds_toArray, List.set_cons_zero, List.set_cons_succ, i64_w, i32_w]
                rfl
              refine pure_ (i := 52) (N := some 6) (v := ?_) (a' := ?_) #[true, true, true, true, true, true, true, true, true, true, true, true, true, true, true, true, true, true, true, true, true, true, true, true, true, true, true, true, true, true, true, true, true, true, true, true, true, true, true, true, true, true, true, true, true, true, true, true, true, true, true, true, true] rfl rfl (any_of HT_.out (by kernel_rfl)) (fun _ _ _ h => h) (Or.inl ⟨by rfl, ?_⟩) ?_ ?_
              rotate_left
              · intro w'
                go_simp
                with_reducible rfl
              rotate_left
              · simp only [Act.put, List.setIfInBounds_toArray, List.set_cons_zero, List.set_cons_succ, i64_w, i32_w]
                rfl
              refine done_ (done_of HT_.out (by kernel_rfl)) ?_
              try go_wp2
              go_ret
              exact ⟨by first | rfl | (simp [errW_none, errW_some] <;> rfl) | (simp [*, errW_none, errW_some] <;> rfl), by repeat (first | (with_reducible first | exact HB.out | apply below_alloc | apply pw_below_drewN | apply below_drew1 | refine below_set ?_ GE101.out | refine below_set ?_ GE102.out | refine below_set ?_ GE103.out) | exact HB.out)⟩
            · rw [if_neg c25] at H
              have c25b0 : (t161 == t105 && (t162 == t106 && (t163 == t107 && (t164 == t108)))) = false := by simpa using c25
              (try (have c25b1 : decide (t161 = t105 && (t162 == t106 && (t163 == t107 && (t164 == t108)))) = false := by simpa using c25))
              (try (have c25b2 : (t161 == t105 && (t162 == t106 && (t163 == t107 && (t164 == t108)))) = false := by simpa using c25))
              (try (have c25b3 : ¬ (t161 = t105 && (t162 == t106 && (t163 == t107 && (t164 == t108)))) := by simpa using c25))
              clear c25
              obtain rfl := Option.some.inj H
              exact absurd HRT.out (by decide)
          · rw [if_neg c22] at H
            have c22b0 : (t153 == t105 && (t154 == t106 && (t155 == t107 && (t156 == t108)))) = false := by simpa using c22
            (try (have c22b1 : decide (t153 = t105 && (t154 == t106 && (t155 == t107 && (t156 == t108)))) = false := by simpa using c22))
            (try (have c22b2 : (t153 == t105 && (t154 == t106 && (t155 == t107 && (t156 == t108)))) = false := by simpa using c22))
            (try (have c22b3 : ¬ (t153 = t105 && (t154 == t106 && (t155 == t107 && (t156 == t108)))) := by simpa using c22))
            clear c22
            obtain rfl := Option.some.inj H
            exact absurd HRT.out (by decide)
        · rw [if_neg c20] at H
          have c20b0 : (t149 == t105 && (t150 == t106 && (t151 == t107 && (t152 == t108)))) = false := by simpa using c20
          (try (have c20b1 : decide (t149 = t105 && (t150 == t106 && (t151 == t107 && (t152 == t108)))) = false := by simpa using c20))
          (try (have c20b2 : (t149 == t105 && (t150 == t106 && (t151 == t107 && (t152 == t108)))) = false := by simpa using c20))
          (try (have c20b3 : ¬ (t149 = t105 && (t150 == t106 && (t151 == t107 && (t152 == t108)))) := by simpa using c20))
          clear c20
          obtain rfl := Option.some.inj H
          exact absurd HRT.out (by decide)
      · rw [if_neg c18] at H
        have c18b0 : (t137 == t145 && (t138 == t146 && (t139 == t147 && (t140 == t148)))) = false := by simpa using c18
        (try (have c18b1 : decide (t137 = t145 && (t138 == t146 && (t139 == t147 && (t140 == t148)))) = false := by simpa using c18))
        (try (have c18b2 : (t137 == t145 && (t138 == t146 && (t139 == t147 && (t140 == t148)))) = false := by simpa using c18))
        (try (have c18b3 : ¬ (t137 = t145 && (t138 == t146 && (t139 == t147 && (t140 == t148)))) := by simpa using c18))
        clear c18
        obtain rfl := Option.some.inj H
        exact absurd HRT.out (by decide)
    · rw [if_neg c13] at H
      have c13b0 : (t121 == t129 && (t122 == t130 && (t123 == t131 && (t124 == t132)))) = false := by simpa using c13
      (try (have c13b1 : decide (t121 = t129 && (t122 == t130 && (t123 == t131 && (t124 == t132)))) = false := by simpa using c13))
      (try (have c13b2 : (t121 == t129 && (t122 == t130 && (t123 == t131 && (t124 == t132)))) = false := by simpa using c13))
      (try (have c13b3 : ¬ (t121 = t129 && (t122 == t130 && (t123 == t131 && (t124 == t132)))) := by simpa using c13))
      clear c13
      obtain rfl := Option.some.inj H
      exact absurd HRT.out (by decide)
  · replace c5 := Bool.eq_false_iff.mpr c5
    subst c5
    have H1 : (some false) = some r := by rw [if_neg (show ¬ (false = true) by decide)] at H; exact H
    clear H
    have H := H1
    clear H1
    obtain rfl := Option.some.inj H
    exact absurd HRT.out (by decide)

end Go.Proofs.YtnepinkookbanaaDoor.X
