/- Written by a program of this session over the kit's print: YtnepinkookbanaaDoorF6. -/
import Derived.Test.YtnepinkookbanaaDoorH
import Derived.Test.YtnepinkookbanaaDoorE23
import Derived.Test.YtnepinkookbanaaDoorF14
import Derived.Test.YtnepinkookbanaaDoorF15
import Derived.Test.YtnepinkookbanaaDoorF16
import Derived.Test.YtnepinkookbanaaDoorF18
import Derived.Test.YtnepinkookbanaaDoorF19
import Derived.Test.YtnepinkookbanaaDoorF21
import Derived.Test.YtnepinkookbanaaDoorLaid
namespace Go.Proofs.YtnepinkookbanaaDoor.X
open Go.RowKit Go.Proofs.YtnepinkookbanaaDoorW.PrintWords Go.Proofs.YtnepinkookbanaaDoorW.PrintLast Go.Proofs.YtnepinkookbanaaDoorW.PrintMore Go.Proofs.YtnepinkookbanaaDoor.More
attribute [local go_sem] max2_int min2_int max_two min_two max_three min_three max_four min_four binOp_string_leq binOp_string_gtr   -- for this text's walks alone
set_option linter.unusedVariables false
set_option linter.unusedSimpArgs false

attribute [local go_sem high] eqA23
/-! ### donjonlaw4_LabelLattice: function 6 -/
mutual
def donjonlaw4_LabelLattice.j0 : Nat → Bool → Int → Int → Int → Int → Int → Int → Int → Int → Int → Int → Int → Int → Int → Int → Int → Int → Int → Int → Int → Int → Option (Bool)
 | 0, _, _, _, _, _, _, _, _, _, _, _, _, _, _, _, _, _, _, _, _, _ => none
 | k + 1, x54, x102000, x102001, x102002, x102003, x103000, x103001, x103002, x103003, x104000, x104001, x104002, x104003, x126000, x126001, x126002, x126003, x127000, x127001, x127002, x127003 => if x54 = true then (some false) else ((label_Over.f x104000 x104001 x104002 x104003 x102000 x102001 x102002 x102003).bind fun t133 => (if t133 = true then ((label_Over.f x104000 x104001 x104002 x104003 x103000 x103001 x103002 x103003).bind fun t134 => (if t134 = true then ((label_Over.f x104000 x104001 x104002 x104003 x126000 x126001 x126002 x126003).bind fun t135 => (if t135 = true then ((label_Over.f x102000 x102001 x102002 x102003 x104000 x104001 x104002 x104003).bind fun t136 => (if t136 = true then ((label_Over.f x103000 x103001 x103002 x103003 x104000 x104001 x104002 x104003).bind fun t137 => (if t137 = true then ((label_Over.f x127000 x127001 x127002 x127003 x104000 x104001 x104002 x104003).bind fun t138 => (donjonlaw4_LabelLattice.j1 k (!t138) x102000 x102001 x102002 x102003 x103000 x103001 x103002 x103003 x126000 x126001 x126002 x126003 x127000 x127001 x127002 x127003)) else (donjonlaw4_LabelLattice.j1 k false x102000 x102001 x102002 x102003 x103000 x103001 x103002 x103003 x126000 x126001 x126002 x126003 x127000 x127001 x127002 x127003))) else (donjonlaw4_LabelLattice.j1 k false x102000 x102001 x102002 x102003 x103000 x103001 x103002 x103003 x126000 x126001 x126002 x126003 x127000 x127001 x127002 x127003))) else (donjonlaw4_LabelLattice.j1 k true x102000 x102001 x102002 x102003 x103000 x103001 x103002 x103003 x126000 x126001 x126002 x126003 x127000 x127001 x127002 x127003))) else ((label_Over.f x102000 x102001 x102002 x102003 x104000 x104001 x104002 x104003).bind fun t139 => (if t139 = true then ((label_Over.f x103000 x103001 x103002 x103003 x104000 x104001 x104002 x104003).bind fun t140 => (if t140 = true then ((label_Over.f x127000 x127001 x127002 x127003 x104000 x104001 x104002 x104003).bind fun t141 => (donjonlaw4_LabelLattice.j1 k (!t141) x102000 x102001 x102002 x102003 x103000 x103001 x103002 x103003 x126000 x126001 x126002 x126003 x127000 x127001 x127002 x127003)) else (donjonlaw4_LabelLattice.j1 k false x102000 x102001 x102002 x102003 x103000 x103001 x103002 x103003 x126000 x126001 x126002 x126003 x127000 x127001 x127002 x127003))) else (donjonlaw4_LabelLattice.j1 k false x102000 x102001 x102002 x102003 x103000 x103001 x103002 x103003 x126000 x126001 x126002 x126003 x127000 x127001 x127002 x127003))))) else ((label_Over.f x102000 x102001 x102002 x102003 x104000 x104001 x104002 x104003).bind fun t142 => (if t142 = true then ((label_Over.f x103000 x103001 x103002 x103003 x104000 x104001 x104002 x104003).bind fun t143 => (if t143 = true then ((label_Over.f x127000 x127001 x127002 x127003 x104000 x104001 x104002 x104003).bind fun t144 => (donjonlaw4_LabelLattice.j1 k (!t144) x102000 x102001 x102002 x102003 x103000 x103001 x103002 x103003 x126000 x126001 x126002 x126003 x127000 x127001 x127002 x127003)) else (donjonlaw4_LabelLattice.j1 k false x102000 x102001 x102002 x102003 x103000 x103001 x103002 x103003 x126000 x126001 x126002 x126003 x127000 x127001 x127002 x127003))) else (donjonlaw4_LabelLattice.j1 k false x102000 x102001 x102002 x102003 x103000 x103001 x103002 x103003 x126000 x126001 x126002 x126003 x127000 x127001 x127002 x127003)))))
def donjonlaw4_LabelLattice.j1 : Nat → Bool → Int → Int → Int → Int → Int → Int → Int → Int → Int → Int → Int → Int → Int → Int → Int → Int → Option (Bool)
 | 0, _, _, _, _, _, _, _, _, _, _, _, _, _, _, _, _, _ => none
 | k + 1, x84, x102000, x102001, x102002, x102003, x103000, x103001, x103002, x103003, x126000, x126001, x126002, x126003, x127000, x127001, x127002, x127003 => if x84 = true then (some false) else ((label_Join.f x103000 x103001 x103002 x103003 x102000 x102001 x102002 x102003).bind fun bt145 => (if (x126000 == bt145.1 && (x126001 == bt145.2.1 && (x126002 == bt145.2.2.1 && (x126003 == bt145.2.2.2)))) = true then ((label_Meet.f x103000 x103001 x103002 x103003 x102000 x102001 x102002 x102003).bind fun bt149 => (if (x127000 == bt149.1 && (x127001 == bt149.2.1 && (x127002 == bt149.2.2.1 && (x127003 == bt149.2.2.2)))) = true then ((label_Join.f x102000 x102001 x102002 x102003 x127000 x127001 x127002 x127003).bind fun bt153 => (if (bt153.1 == x102000 && (bt153.2.1 == x102001 && (bt153.2.2.1 == x102002 && (bt153.2.2.2 == x102003)))) = true then ((label_Meet.f x102000 x102001 x102002 x102003 x126000 x126001 x126002 x126003).bind fun bt157 => (if (bt157.1 == x102000 && (bt157.2.1 == x102001 && (bt157.2.2.1 == x102002 && (bt157.2.2.2 == x102003)))) = true then ((label_Over.f x102000 x102001 x102002 x102003 x103000 x103001 x103002 x103003).bind fun t161 => (if (t161 == (x126000 == x102000 && (x126001 == x102001 && (x126002 == x102002 && (x126003 == x102003))))) = true then ((label_Over.f x102000 x102001 x102002 x102003 x103000 x103001 x103002 x103003).bind fun t162 => (some (t162 == (x127000 == x103000 && (x127001 == x103001 && (x127002 == x103002 && (x127003 == x103003))))))) else (some false))) else (some false))) else (some false))) else (some false))) else (some false)))
end
def donjonlaw4_LabelLattice.f (k : Nat) (a0_0 : Int) (a0_1 : Int) (a0_2 : Int) (a0_3 : Int) (a1_0 : Int) (a1_1 : Int) (a1_2 : Int) (a1_3 : Int) (a2_0 : Int) (a2_1 : Int) (a2_2 : Int) (a2_3 : Int) : Option (Bool) := (donjonlaw4_known.f).bind fun t104 => (if t104 = true then ((donjonlaw4_Good.f a0_0 a0_1 a0_2 a0_3).bind fun bt105 => ((donjonlaw4_Good.f a1_0 a1_1 a1_2 a1_3).bind fun bt109 => ((donjonlaw4_Good.f a2_0 a2_1 a2_2 a2_3).bind fun bt113 => ((label_Join.f bt105.1 bt105.2.1 bt105.2.2.1 bt105.2.2.2 bt109.1 bt109.2.1 bt109.2.2.1 bt109.2.2.2).bind fun bt117 => ((label_Meet.f bt105.1 bt105.2.1 bt105.2.2.1 bt105.2.2.2 bt109.1 bt109.2.1 bt109.2.2.1 bt109.2.2.2).bind fun bt121 => ((label_Check.f bt117.1 bt117.2.1 bt117.2.2.1 bt117.2.2.2).bind fun t127 => (if t127 = 0 then ((label_Check.f bt121.1 bt121.2.1 bt121.2.2.1 bt121.2.2.2).bind fun t128 => (if t128 = 0 then ((label_Over.f bt117.1 bt117.2.1 bt117.2.2.1 bt117.2.2.2 bt105.1 bt105.2.1 bt105.2.2.1 bt105.2.2.2).bind fun t129 => (if t129 = true then ((label_Over.f bt117.1 bt117.2.1 bt117.2.2.1 bt117.2.2.2 bt109.1 bt109.2.1 bt109.2.2.1 bt109.2.2.2).bind fun t130 => (if t130 = true then ((label_Over.f bt105.1 bt105.2.1 bt105.2.2.1 bt105.2.2.2 bt121.1 bt121.2.1 bt121.2.2.1 bt121.2.2.2).bind fun t131 => (if t131 = true then ((label_Over.f bt109.1 bt109.2.1 bt109.2.2.1 bt109.2.2.2 bt121.1 bt121.2.1 bt121.2.2.1 bt121.2.2.2).bind fun t132 => (donjonlaw4_LabelLattice.j0 k (!t132) bt105.1 bt105.2.1 bt105.2.2.1 bt105.2.2.2 bt109.1 bt109.2.1 bt109.2.2.1 bt109.2.2.2 bt113.1 bt113.2.1 bt113.2.2.1 bt113.2.2.2 bt117.1 bt117.2.1 bt117.2.2.1 bt117.2.2.2 bt121.1 bt121.2.1 bt121.2.2.1 bt121.2.2.2)) else (donjonlaw4_LabelLattice.j0 k true bt105.1 bt105.2.1 bt105.2.2.1 bt105.2.2.2 bt109.1 bt109.2.1 bt109.2.2.1 bt109.2.2.2 bt113.1 bt113.2.1 bt113.2.2.1 bt113.2.2.2 bt117.1 bt117.2.1 bt117.2.2.1 bt117.2.2.2 bt121.1 bt121.2.1 bt121.2.2.1 bt121.2.2.2))) else (donjonlaw4_LabelLattice.j0 k true bt105.1 bt105.2.1 bt105.2.2.1 bt105.2.2.2 bt109.1 bt109.2.1 bt109.2.2.1 bt109.2.2.2 bt113.1 bt113.2.1 bt113.2.2.1 bt113.2.2.2 bt117.1 bt117.2.1 bt117.2.2.1 bt117.2.2.2 bt121.1 bt121.2.1 bt121.2.2.1 bt121.2.2.2))) else (donjonlaw4_LabelLattice.j0 k true bt105.1 bt105.2.1 bt105.2.2.1 bt105.2.2.2 bt109.1 bt109.2.1 bt109.2.2.1 bt109.2.2.2 bt113.1 bt113.2.1 bt113.2.2.1 bt113.2.2.2 bt117.1 bt117.2.1 bt117.2.2.1 bt117.2.2.2 bt121.1 bt121.2.1 bt121.2.2.1 bt121.2.2.2))) else (donjonlaw4_LabelLattice.j0 k true bt105.1 bt105.2.1 bt105.2.2.1 bt105.2.2.2 bt109.1 bt109.2.1 bt109.2.2.1 bt109.2.2.2 bt113.1 bt113.2.1 bt113.2.2.1 bt113.2.2.2 bt117.1 bt117.2.1 bt117.2.2.1 bt117.2.2.2 bt121.1 bt121.2.1 bt121.2.2.1 bt121.2.2.2))) else (donjonlaw4_LabelLattice.j0 k true bt105.1 bt105.2.1 bt105.2.2.1 bt105.2.2.2 bt109.1 bt109.2.1 bt109.2.2.1 bt109.2.2.2 bt113.1 bt113.2.1 bt113.2.2.1 bt113.2.2.2 bt117.1 bt117.2.1 bt117.2.2.1 bt117.2.2.2 bt121.1 bt121.2.1 bt121.2.2.1 bt121.2.2.2)))))))) else (some false))
theorem donjonlaw4_LabelLattice.mono_l : ∀ k, (∀ y0 y1 y2 y3 y4 y5 y6 y7 y8 y9 y10 y11 y12 y13 y14 y15 y16 y17 y18 y19 y20, LeO (donjonlaw4_LabelLattice.j0 k y0 y1 y2 y3 y4 y5 y6 y7 y8 y9 y10 y11 y12 y13 y14 y15 y16 y17 y18 y19 y20) (donjonlaw4_LabelLattice.j0 (k + 1) y0 y1 y2 y3 y4 y5 y6 y7 y8 y9 y10 y11 y12 y13 y14 y15 y16 y17 y18 y19 y20)) ∧ (∀ y0 y1 y2 y3 y4 y5 y6 y7 y8 y9 y10 y11 y12 y13 y14 y15 y16, LeO (donjonlaw4_LabelLattice.j1 k y0 y1 y2 y3 y4 y5 y6 y7 y8 y9 y10 y11 y12 y13 y14 y15 y16) (donjonlaw4_LabelLattice.j1 (k + 1) y0 y1 y2 y3 y4 y5 y6 y7 y8 y9 y10 y11 y12 y13 y14 y15 y16))
 | 0 => ⟨fun _ _ _ _ _ _ _ _ _ _ _ _ _ _ _ _ _ _ _ _ _ r h => by simp [donjonlaw4_LabelLattice.j0] at h, fun _ _ _ _ _ _ _ _ _ _ _ _ _ _ _ _ _ r h => by simp [donjonlaw4_LabelLattice.j1] at h⟩
 | k + 1 => by
  obtain ⟨ih0, ih1⟩ := donjonlaw4_LabelLattice.mono_l k
  refine ⟨?_, ?_⟩
  ·intro y0 y1 y2 y3 y4 y5 y6 y7 y8 y9 y10 y11 y12 y13 y14 y15 y16 y17 y18 y19 y20
   unfold donjonlaw4_LabelLattice.j0
   repeat' first
   | (with_reducible exact ih0 _ _ _ _ _ _ _ _ _ _ _ _ _ _ _ _ _ _ _ _ _)
   | (with_reducible exact ih1 _ _ _ _ _ _ _ _ _ _ _ _ _ _ _ _ _)
   | (with_reducible exact LeO.refl _)
   | (with_reducible exact LeO.none _)
   | (with_reducible refine LeO.ite ?_ ?_)
   | (with_reducible refine LeO.bind ?_ (fun _ => ?_))
   | exact ih0 _ _ _ _ _ _ _ _ _ _ _ _ _ _ _ _ _ _ _ _ _
   | exact ih1 _ _ _ _ _ _ _ _ _ _ _ _ _ _ _ _ _
   | exact LeO.none _
   | refine LeO.ite ?_ ?_
   | refine LeO.bind ?_ (fun _ => ?_)
  ·intro y0 y1 y2 y3 y4 y5 y6 y7 y8 y9 y10 y11 y12 y13 y14 y15 y16
   unfold donjonlaw4_LabelLattice.j1
   repeat' first
   | (with_reducible exact ih0 _ _ _ _ _ _ _ _ _ _ _ _ _ _ _ _ _ _ _ _ _)
   | (with_reducible exact ih1 _ _ _ _ _ _ _ _ _ _ _ _ _ _ _ _ _)
   | (with_reducible exact LeO.refl _)
   | (with_reducible exact LeO.none _)
   | (with_reducible refine LeO.ite ?_ ?_)
   | (with_reducible refine LeO.bind ?_ (fun _ => ?_))
   | exact ih0 _ _ _ _ _ _ _ _ _ _ _ _ _ _ _ _ _ _ _ _ _
   | exact ih1 _ _ _ _ _ _ _ _ _ _ _ _ _ _ _ _ _
   | exact LeO.none _
   | refine LeO.ite ?_ ?_
   | refine LeO.bind ?_ (fun _ => ?_)
theorem donjonlaw4_LabelLattice.mono : ∀ a0 a1 a2 a3 a4 a5 a6 a7 a8 a9 a10 a11 k, LeO (donjonlaw4_LabelLattice.f k a0 a1 a2 a3 a4 a5 a6 a7 a8 a9 a10 a11) (donjonlaw4_LabelLattice.f (k + 1) a0 a1 a2 a3 a4 a5 a6 a7 a8 a9 a10 a11) := by
 intro a0 a1 a2 a3 a4 a5 a6 a7 a8 a9 a10 a11 k
 obtain ⟨ih0, ih1⟩ := donjonlaw4_LabelLattice.mono_l k
 unfold donjonlaw4_LabelLattice.f
 repeat' first
   | (with_reducible exact ih0 _ _ _ _ _ _ _ _ _ _ _ _ _ _ _ _ _ _ _ _ _)
   | (with_reducible exact ih1 _ _ _ _ _ _ _ _ _ _ _ _ _ _ _ _ _)
   | (with_reducible exact LeO.refl _)
   | (with_reducible exact LeO.none _)
   | (with_reducible refine LeO.ite ?_ ?_)
   | (with_reducible refine LeO.bind ?_ (fun _ => ?_))
   | exact ih0 _ _ _ _ _ _ _ _ _ _ _ _ _ _ _ _ _ _ _ _ _
   | exact ih1 _ _ _ _ _ _ _ _ _ _ _ _ _ _ _ _ _
   | exact LeO.none _
   | refine LeO.ite ?_ ?_
   | refine LeO.bind ?_ (fun _ => ?_)
def donjonlaw4_LabelLattice.T3 : Bool × List (List Nat × List Nat) := (true, [([], []), ([0], [0]), ([], []), ([2, 1], [2]), ([], []), ([4, 3], [4]), ([1, 5, 0, 1], [1]), ([3, 6, 0, 1, 2, 3, 6], [3]), ([5, 7, 0, 1, 2, 3, 4, 5, 6, 7], [5])])
def donjonlaw4_LabelLattice.B3 : List Nat := [0, 1, 0, 7, 0, 31, 63, 127, 255]
theorem donjonlaw4_LabelLattice.tab3 : rtab .any (opsOf Tryd.f6 3) = donjonlaw4_LabelLattice.T3 := by kernel_rfl
theorem donjonlaw4_LabelLattice.bits3 : waitsOk donjonlaw4_LabelLattice.T3.2 donjonlaw4_LabelLattice.B3 = true := by kernel_rfl
def donjonlaw4_LabelLattice.T4 : Bool × List (List Nat × List Nat) := (true, [([], []), ([], []), ([0, 1], [0, 1]), ([], []), ([], []), ([3, 4, 2], [3, 4]), ([], []), ([], []), ([6, 2, 5, 0, 1, 2, 6, 7], [2, 6]), ([7, 5, 8, 0, 1, 2, 3, 4, 5, 6, 7, 8], [5, 7])])
def donjonlaw4_LabelLattice.B4 : List Nat := [0, 0, 3, 0, 0, 31, 0, 0, 255, 511]
theorem donjonlaw4_LabelLattice.tab4 : rtab .any (opsOf Tryd.f6 4) = donjonlaw4_LabelLattice.T4 := by kernel_rfl
theorem donjonlaw4_LabelLattice.bits4 : waitsOk donjonlaw4_LabelLattice.T4.2 donjonlaw4_LabelLattice.B4 = true := by kernel_rfl
def donjonlaw4_LabelLattice.T9 : Bool × List (List Nat × List Nat) := (true, [([], []), ([], []), ([], []), ([1, 2], [1, 2]), ([0, 3], [0, 3]), ([4, 3], [4]), ([5], [5]), ([5], [5]), ([5], [5]), ([7, 8, 5, 5], [5, 7, 8]), ([6, 9, 5], [5, 6, 9]), ([5, 10], [5, 10]), ([11, 9], [11]), ([12], [12]), ([12], [12]), ([13, 14, 12, 12], [12, 13, 14]), ([12], [12]), ([15, 16, 12], [12, 15, 16]), ([12, 17], [12, 17]), ([18, 15], [18]), ([19], [19]), ([19], [19]), ([20, 21, 19, 19], [19, 20, 21]), ([19], [19]), ([22, 23, 19], [19, 22, 23]), ([19, 24], [19, 24]), ([25, 22], [25]), ([26], [26]), ([26], [26]), ([27, 28, 26, 26], [26, 27, 28]), ([26], [26]), ([26], [26]), ([30, 31, 26], [26, 30, 31]), ([29, 32, 26], [26, 29, 32]), ([26, 33], [26, 33]), ([34, 29], [34]), ([35], [35]), ([35], [35]), ([36, 37, 35, 35], [35, 36, 37]), ([35], [35]), ([35], [35]), ([39, 40, 35], [35, 39, 40]), ([38, 41, 35], [35, 38, 41]), ([35, 42], [35, 42]), ([43, 38, 0, 1, 2, 3, 4, 5, 6, 7, 8, 9, 10, 11, 12, 13, 14, 15, 16, 17, 18, 19, 20, 21, 22, 23, 24, 25, 26, 27, 28, 29, 30, 31, 32, 33, 34, 35, 36, 37, 38, 39, 40, 41, 42, 43], [43])])
def donjonlaw4_LabelLattice.B9 : List Nat := [0, 0, 0, 6, 15, 31, 63, 63, 63, 447, 1023, 2047, 4095, 8191, 8191, 32767, 8191, 131071, 262143, 524287, 1048575, 1048575, 4194303, 1048575, 16777215, 33554431, 67108863, 134217727, 134217727, 536870911, 134217727, 134217727, 3355443199, 8589934591, 17179869183, 34359738367, 68719476735, 68719476735, 274877906943, 68719476735, 68719476735, 1717986918399, 4398046511103, 8796093022207, 17592186044415]
theorem donjonlaw4_LabelLattice.tab9 : rtab .any (opsOf Tryd.f6 9) = donjonlaw4_LabelLattice.T9 := by kernel_rfl
theorem donjonlaw4_LabelLattice.bits9 : waitsOk donjonlaw4_LabelLattice.T9.2 donjonlaw4_LabelLattice.B9 = true := by kernel_rfl
set_option maxHeartbeats 100000000 in
set_option maxRecDepth 100000 in
theorem donjonlaw4_LabelLattice.calls (k : Nat) (a0_0 : Int) (a0_1 : Int) (a0_2 : Int) (a0_3 : Int) (a1_0 : Int) (a1_1 : Int) (a1_2 : Int) (a1_3 : Int) (a2_0 : Int) (a2_1 : Int) (a2_2 : Int) (a2_3 : Int) (r : Bool) (w : World) (hrt0 : r = true) (hG0 : Laid w) (h : donjonlaw4_LabelLattice.f k a0_0 a0_1 a0_2 a0_3 a1_0 a1_1 a1_2 a1_3 a2_0 a2_1 a2_2 a2_3 = some r) :
  Calls Tryd.prog 6 #[.agg #[.int .i64 a0_0, .int .i64 a0_1, .int .i64 a0_2, .int .i64 a0_3], .agg #[.int .i64 a1_0, .int .i64 a1_1, .int .i64 a1_2, .int .i64 a1_3], .agg #[.int .i64 a2_0, .int .i64 a2_1, .int .i64 a2_2, .int .i64 a2_3]] w fun e w' => e = .returned (.bool r) ∧ Below w.heap.size w w' := by
 have HRT := Aside0.mk hrt0
 clear hrt0
 have HG := Aside0.mk hG0
 clear hG0
 have hu23 := Tryd.underlying23
 have HB := Aside0.mk (Below.refl w.heap.size w)
 have H : ((donjonlaw4_known.f).bind fun t104 => (if t104 = true then ((donjonlaw4_Good.f a0_0 a0_1 a0_2 a0_3).bind fun bt105 => ((donjonlaw4_Good.f a1_0 a1_1 a1_2 a1_3).bind fun bt109 => ((donjonlaw4_Good.f a2_0 a2_1 a2_2 a2_3).bind fun bt113 => ((label_Join.f bt105.1 bt105.2.1 bt105.2.2.1 bt105.2.2.2 bt109.1 bt109.2.1 bt109.2.2.1 bt109.2.2.2).bind fun bt117 => ((label_Meet.f bt105.1 bt105.2.1 bt105.2.2.1 bt105.2.2.2 bt109.1 bt109.2.1 bt109.2.2.1 bt109.2.2.2).bind fun bt121 => ((label_Check.f bt117.1 bt117.2.1 bt117.2.2.1 bt117.2.2.2).bind fun t127 => (if t127 = 0 then ((label_Check.f bt121.1 bt121.2.1 bt121.2.2.1 bt121.2.2.2).bind fun t128 => (if t128 = 0 then ((label_Over.f bt117.1 bt117.2.1 bt117.2.2.1 bt117.2.2.2 bt105.1 bt105.2.1 bt105.2.2.1 bt105.2.2.2).bind fun t129 => (if t129 = true then ((label_Over.f bt117.1 bt117.2.1 bt117.2.2.1 bt117.2.2.2 bt109.1 bt109.2.1 bt109.2.2.1 bt109.2.2.2).bind fun t130 => (if t130 = true then ((label_Over.f bt105.1 bt105.2.1 bt105.2.2.1 bt105.2.2.2 bt121.1 bt121.2.1 bt121.2.2.1 bt121.2.2.2).bind fun t131 => (if t131 = true then ((label_Over.f bt109.1 bt109.2.1 bt109.2.2.1 bt109.2.2.2 bt121.1 bt121.2.1 bt121.2.2.1 bt121.2.2.2).bind fun t132 => (donjonlaw4_LabelLattice.j0 k (!t132) bt105.1 bt105.2.1 bt105.2.2.1 bt105.2.2.2 bt109.1 bt109.2.1 bt109.2.2.1 bt109.2.2.2 bt113.1 bt113.2.1 bt113.2.2.1 bt113.2.2.2 bt117.1 bt117.2.1 bt117.2.2.1 bt117.2.2.2 bt121.1 bt121.2.1 bt121.2.2.1 bt121.2.2.2)) else (donjonlaw4_LabelLattice.j0 k true bt105.1 bt105.2.1 bt105.2.2.1 bt105.2.2.2 bt109.1 bt109.2.1 bt109.2.2.1 bt109.2.2.2 bt113.1 bt113.2.1 bt113.2.2.1 bt113.2.2.2 bt117.1 bt117.2.1 bt117.2.2.1 bt117.2.2.2 bt121.1 bt121.2.1 bt121.2.2.1 bt121.2.2.2))) else (donjonlaw4_LabelLattice.j0 k true bt105.1 bt105.2.1 bt105.2.2.1 bt105.2.2.2 bt109.1 bt109.2.1 bt109.2.2.1 bt109.2.2.2 bt113.1 bt113.2.1 bt113.2.2.1 bt113.2.2.2 bt117.1 bt117.2.1 bt117.2.2.1 bt117.2.2.2 bt121.1 bt121.2.1 bt121.2.2.1 bt121.2.2.2))) else (donjonlaw4_LabelLattice.j0 k true bt105.1 bt105.2.1 bt105.2.2.1 bt105.2.2.2 bt109.1 bt109.2.1 bt109.2.2.1 bt109.2.2.2 bt113.1 bt113.2.1 bt113.2.2.1 bt113.2.2.2 bt117.1 bt117.2.1 bt117.2.2.1 bt117.2.2.2 bt121.1 bt121.2.1 bt121.2.2.1 bt121.2.2.2))) else (donjonlaw4_LabelLattice.j0 k true bt105.1 bt105.2.1 bt105.2.2.1 bt105.2.2.2 bt109.1 bt109.2.1 bt109.2.2.1 bt109.2.2.2 bt113.1 bt113.2.1 bt113.2.2.1 bt113.2.2.2 bt117.1 bt117.2.1 bt117.2.2.1 bt117.2.2.2 bt121.1 bt121.2.1 bt121.2.2.1 bt121.2.2.2))) else (donjonlaw4_LabelLattice.j0 k true bt105.1 bt105.2.1 bt105.2.2.1 bt105.2.2.2 bt109.1 bt109.2.1 bt109.2.2.1 bt109.2.2.2 bt113.1 bt113.2.1 bt113.2.2.1 bt113.2.2.2 bt117.1 bt117.2.1 bt117.2.2.1 bt117.2.2.2 bt121.1 bt121.2.1 bt121.2.2.1 bt121.2.2.2)))))))) else (some false))) = some r := h
 clear h
 replace H := Option.bind_eq_some_iff.mp H
 obtain ⟨t104, A40, H⟩ := H
 try dsimp only at H
 have A4 := Aside0.mk A40
 clear A40
 by_cases c5 : t104 = true
 ·subst c5
  have H1 : ((donjonlaw4_Good.f a0_0 a0_1 a0_2 a0_3).bind fun bt105 => ((donjonlaw4_Good.f a1_0 a1_1 a1_2 a1_3).bind fun bt109 => ((donjonlaw4_Good.f a2_0 a2_1 a2_2 a2_3).bind fun bt113 => ((label_Join.f bt105.1 bt105.2.1 bt105.2.2.1 bt105.2.2.2 bt109.1 bt109.2.1 bt109.2.2.1 bt109.2.2.2).bind fun bt117 => ((label_Meet.f bt105.1 bt105.2.1 bt105.2.2.1 bt105.2.2.2 bt109.1 bt109.2.1 bt109.2.2.1 bt109.2.2.2).bind fun bt121 => ((label_Check.f bt117.1 bt117.2.1 bt117.2.2.1 bt117.2.2.2).bind fun t127 => (if t127 = 0 then ((label_Check.f bt121.1 bt121.2.1 bt121.2.2.1 bt121.2.2.2).bind fun t128 => (if t128 = 0 then ((label_Over.f bt117.1 bt117.2.1 bt117.2.2.1 bt117.2.2.2 bt105.1 bt105.2.1 bt105.2.2.1 bt105.2.2.2).bind fun t129 => (if t129 = true then ((label_Over.f bt117.1 bt117.2.1 bt117.2.2.1 bt117.2.2.2 bt109.1 bt109.2.1 bt109.2.2.1 bt109.2.2.2).bind fun t130 => (if t130 = true then ((label_Over.f bt105.1 bt105.2.1 bt105.2.2.1 bt105.2.2.2 bt121.1 bt121.2.1 bt121.2.2.1 bt121.2.2.2).bind fun t131 => (if t131 = true then ((label_Over.f bt109.1 bt109.2.1 bt109.2.2.1 bt109.2.2.2 bt121.1 bt121.2.1 bt121.2.2.1 bt121.2.2.2).bind fun t132 => (donjonlaw4_LabelLattice.j0 k (!t132) bt105.1 bt105.2.1 bt105.2.2.1 bt105.2.2.2 bt109.1 bt109.2.1 bt109.2.2.1 bt109.2.2.2 bt113.1 bt113.2.1 bt113.2.2.1 bt113.2.2.2 bt117.1 bt117.2.1 bt117.2.2.1 bt117.2.2.2 bt121.1 bt121.2.1 bt121.2.2.1 bt121.2.2.2)) else (donjonlaw4_LabelLattice.j0 k true bt105.1 bt105.2.1 bt105.2.2.1 bt105.2.2.2 bt109.1 bt109.2.1 bt109.2.2.1 bt109.2.2.2 bt113.1 bt113.2.1 bt113.2.2.1 bt113.2.2.2 bt117.1 bt117.2.1 bt117.2.2.1 bt117.2.2.2 bt121.1 bt121.2.1 bt121.2.2.1 bt121.2.2.2))) else (donjonlaw4_LabelLattice.j0 k true bt105.1 bt105.2.1 bt105.2.2.1 bt105.2.2.2 bt109.1 bt109.2.1 bt109.2.2.1 bt109.2.2.2 bt113.1 bt113.2.1 bt113.2.2.1 bt113.2.2.2 bt117.1 bt117.2.1 bt117.2.2.1 bt117.2.2.2 bt121.1 bt121.2.1 bt121.2.2.1 bt121.2.2.2))) else (donjonlaw4_LabelLattice.j0 k true bt105.1 bt105.2.1 bt105.2.2.1 bt105.2.2.2 bt109.1 bt109.2.1 bt109.2.2.1 bt109.2.2.2 bt113.1 bt113.2.1 bt113.2.2.1 bt113.2.2.2 bt117.1 bt117.2.1 bt117.2.2.1 bt117.2.2.2 bt121.1 bt121.2.1 bt121.2.2.1 bt121.2.2.2))) else (donjonlaw4_LabelLattice.j0 k true bt105.1 bt105.2.1 bt105.2.2.1 bt105.2.2.2 bt109.1 bt109.2.1 bt109.2.2.1 bt109.2.2.2 bt113.1 bt113.2.1 bt113.2.2.1 bt113.2.2.2 bt117.1 bt117.2.1 bt117.2.2.1 bt117.2.2.2 bt121.1 bt121.2.1 bt121.2.2.1 bt121.2.2.2))) else (donjonlaw4_LabelLattice.j0 k true bt105.1 bt105.2.1 bt105.2.2.1 bt105.2.2.2 bt109.1 bt109.2.1 bt109.2.2.1 bt109.2.2.2 bt113.1 bt113.2.1 bt113.2.2.1 bt113.2.2.2 bt117.1 bt117.2.1 bt117.2.2.1 bt117.2.2.2 bt121.1 bt121.2.1 bt121.2.2.1 bt121.2.2.2)))))))) = some r := by rw [if_pos rfl] at H; exact H
  clear H
  have H := H1
  clear H1
  replace H := Option.bind_eq_some_iff.mp H
  obtain ⟨⟨t105, t106, t107, t108⟩, A60, H⟩ := H
  try dsimp only at H
  have A6 := Aside0.mk A60
  clear A60
  replace H := Option.bind_eq_some_iff.mp H
  obtain ⟨⟨t109, t110, t111, t112⟩, A70, H⟩ := H
  try dsimp only at H
  have A7 := Aside0.mk A70
  clear A70
  replace H := Option.bind_eq_some_iff.mp H
  obtain ⟨⟨t113, t114, t115, t116⟩, A80, H⟩ := H
  try dsimp only at H
  have A8 := Aside0.mk A80
  clear A80
  replace H := Option.bind_eq_some_iff.mp H
  obtain ⟨⟨t117, t118, t119, t120⟩, A90, H⟩ := H
  try dsimp only at H
  have A9 := Aside0.mk A90
  clear A90
  replace H := Option.bind_eq_some_iff.mp H
  obtain ⟨⟨t121, t122, t123, t124⟩, A100, H⟩ := H
  try dsimp only at H
  have A10 := Aside0.mk A100
  clear A100
  have HC11 := Aside0.mk H
  clear H
  go_enter Tryd.func6, Tryd.ntmps6
  try go_wp2_with (first | ((with_reducible refine gate_dst (N := 3) rfl ?_); refine box_event ?hg (N := 3) ?hd (cs := #[.int .i64 a0_0, .int .i64 a0_1, .int .i64 a0_2, .int .i64 a0_3]) (t := 23) ?hr ?_; (case hd => rfl); (case hg => rfl); (case hr => first | (go_simp; done) | (go_simp; rfl)); intro gb101 hg w12 hbox hb; have n0_ := Aside0.mk (below_step (bl_ HB.out) hb); have n1_ := Aside0.mk (hbox); have n2_ := Aside0.mk ((by rw [hg]; exact (below_size (bl_ HB.out)) : w.heap.size ≤ gb101)); have n3_ := Aside0.mk ((by rw [hg]; exact (below_size (bl_ HB.out)) : w.heap.size ≤ gb101)); clear HB; have HB := n0_; have Z101 := n1_; have GW101 := n2_; have GE101 := n3_; clear n0_ n1_ n2_ n3_; clear hb hbox hg) | ((with_reducible refine gate_dst (N := 4) rfl ?_); refine box_event ?hg (N := 4) ?hd (cs := #[.int .i64 a1_0, .int .i64 a1_1, .int .i64 a1_2, .int .i64 a1_3]) (t := 23) ?hr ?_; (case hd => rfl); (case hg => rfl); (case hr => first | (go_simp; done) | (go_simp; rfl)); intro gb102 hg w13 hbox hb; have n0_ := bb_ Z101 hb; have n1_ := Aside0.mk (below_step (bl_ HB.out) hb); have n2_ := Aside0.mk (hbox); have n3_ := Aside0.mk ((by rw [hg]; exact (below_size (bl_ HB.out)) : w.heap.size ≤ gb102)); have n4_ := Aside0.mk ((by rw [hg]; exact (below_size (bl_ HB.out)) : w.heap.size ≤ gb102)); have n5_ := Aside0.mk ((by rw [hg]; exact Nat.ne_of_lt (blk_lt (g := gb101) (o := .cells #[.int .i64 a0_0, .int .i64 a0_1, .int .i64 a0_2, .int .i64 a0_3] 23 (0, 0)) (bk_ Z101.out)) : gb101 ≠ gb102)); have n6_ := Aside0.mk ((by rw [hg]; exact Nat.ne_of_gt (blk_lt (g := gb101) (o := .cells #[.int .i64 a0_0, .int .i64 a0_1, .int .i64 a0_2, .int .i64 a0_3] 23 (0, 0)) (bk_ Z101.out)) : gb102 ≠ gb101)); clear Z101 HB; have Z101 := n0_; have HB := n1_; have Z102 := n2_; have GW102 := n3_; have GE102 := n4_; have NB101_102 := n5_; have NB102_101 := n6_; clear n0_ n1_ n2_ n3_ n4_ n5_ n6_; clear hb hbox hg) | ((with_reducible refine gate_dst (N := 5) rfl ?_); refine box_event ?hg (N := 5) ?hd (cs := #[.int .i64 a2_0, .int .i64 a2_1, .int .i64 a2_2, .int .i64 a2_3]) (t := 23) ?hr ?_; (case hd => rfl); (case hg => rfl); (case hr => first | (go_simp; done) | (go_simp; rfl)); intro gb103 hg w14 hbox hb; have n0_ := bb_ Z101 hb; have n1_ := bb_ Z102 hb; have n2_ := Aside0.mk (below_step (bl_ HB.out) hb); have n3_ := Aside0.mk (hbox); have n4_ := Aside0.mk ((by rw [hg]; exact (below_size (bl_ HB.out)) : w.heap.size ≤ gb103)); have n5_ := Aside0.mk ((by rw [hg]; exact (below_size (bl_ HB.out)) : w.heap.size ≤ gb103)); have n6_ := Aside0.mk ((by rw [hg]; exact Nat.ne_of_lt (blk_lt (g := gb101) (o := .cells #[.int .i64 a0_0, .int .i64 a0_1, .int .i64 a0_2, .int .i64 a0_3] 23 (0, 0)) (bk_ Z101.out)) : gb101 ≠ gb103)); have n7_ := Aside0.mk ((by rw [hg]; exact Nat.ne_of_gt (blk_lt (g := gb101) (o := .cells #[.int .i64 a0_0, .int .i64 a0_1, .int .i64 a0_2, .int .i64 a0_3] 23 (0, 0)) (bk_ Z101.out)) : gb103 ≠ gb101)); have n8_ := Aside0.mk ((by rw [hg]; exact Nat.ne_of_lt (blk_lt (g := gb102) (o := .cells #[.int .i64 a1_0, .int .i64 a1_1, .int .i64 a1_2, .int .i64 a1_3] 23 (0, 0)) (bk_ Z102.out)) : gb102 ≠ gb103)); have n9_ := Aside0.mk ((by rw [hg]; exact Nat.ne_of_gt (blk_lt (g := gb102) (o := .cells #[.int .i64 a1_0, .int .i64 a1_1, .int .i64 a1_2, .int .i64 a1_3] 23 (0, 0)) (bk_ Z102.out)) : gb103 ≠ gb102)); clear Z101 Z102 HB; have Z101 := n0_; have Z102 := n1_; have HB := n2_; have Z103 := n3_; have GW103 := n4_; have GE103 := n5_; have NB101_103 := n6_; have NB103_101 := n7_; have NB102_103 := n8_; have NB103_102 := n9_; clear n0_ n1_ n2_ n3_ n4_ n5_ n6_ n7_ n8_ n9_; clear hb hbox hg) | ((with_reducible refine gate_callee (f := 14) rfl ?_); refine goesL_ (some 9) rfl rfl Tryd.func14 (by kernel_rfl) rfl #[] rfl (by (try simp only [List.map_toArray, List.map_cons, List.map_nil]); first | done | rfl | (simp only [List.length_drop, List.length_take]; rfl)) ?_; (with_reducible refine (donjonlaw4_known.calls  true _ (by first | exact HG.out | exact Laid.below HG.out (bl_ HB.out)) A4.out).mono ?_); rintro e w15 ⟨rfl, hb⟩; refine ⟨_, rfl, ?_⟩; have n0_ := bb_ Z101 hb; have n1_ := bb_ Z102 hb; have n2_ := bb_ Z103 hb; have n3_ := Aside0.mk (below_step (bl_ HB.out) hb); clear Z101 Z102 Z103 HB; have Z101 := n0_; have Z102 := n1_; have Z103 := n2_; have HB := n3_; clear n0_ n1_ n2_ n3_; (try clear hb); (try clear hb2); (try clear hk); (try clear hi)))
  have n0_ := Aside0.mk (blk_drew Z101.out)
  have n1_ := Aside0.mk (blk_drew Z102.out)
  have n2_ := Aside0.mk (blk_drew Z103.out)
  have n3_ := Aside0.mk (below_drew1 HB.out)
  clear Z101 Z102 Z103 HB
  have Z101 := n0_; have Z102 := n1_; have Z103 := n2_; have HB := n3_
  clear n0_ n1_ n2_ n3_
  refine start_ (n := 9) (S := fun w' => w'.cell? ⟨gb101, 0, none⟩ = some (.int .i64 a0_0) ∧ w'.cell? ⟨gb101, 1, none⟩ = some (.int .i64 a0_1) ∧ w'.cell? ⟨gb101, 2, none⟩ = some (.int .i64 a0_2) ∧ w'.cell? ⟨gb101, 3, none⟩ = some (.int .i64 a0_3) ∧ w'.cell? ⟨gb102, 0, none⟩ = some (.int .i64 a1_0) ∧ w'.cell? ⟨gb102, 1, none⟩ = some (.int .i64 a1_1) ∧ w'.cell? ⟨gb102, 2, none⟩ = some (.int .i64 a1_2) ∧ w'.cell? ⟨gb102, 3, none⟩ = some (.int .i64 a1_3) ∧ w'.cell? ⟨gb103, 0, none⟩ = some (.int .i64 a2_0) ∧ w'.cell? ⟨gb103, 1, none⟩ = some (.int .i64 a2_1) ∧ w'.cell? ⟨gb103, 2, none⟩ = some (.int .i64 a2_2) ∧ w'.cell? ⟨gb103, 3, none⟩ = some (.int .i64 a2_3)) (ds := [6, 7, 8]) #[false, false, false, false, false, false, false, false, false] (by kernel_rfl) rfl rfl ⟨(blk_cell Z101.out 0).trans rfl, (blk_cell Z101.out 1).trans rfl, (blk_cell Z101.out 2).trans rfl, (blk_cell Z101.out 3).trans rfl, (blk_cell Z102.out 0).trans rfl, (blk_cell Z102.out 1).trans rfl, (blk_cell Z102.out 2).trans rfl, (blk_cell Z102.out 3).trans rfl, (blk_cell Z103.out 0).trans rfl, (blk_cell Z103.out 1).trans rfl, (blk_cell Z103.out 2).trans rfl, (blk_cell Z103.out 3).trans rfl⟩ (fun hHeld => ?_); refine with_tabW donjonlaw4_LabelLattice.tab3 donjonlaw4_LabelLattice.bits3 (fun HT_ HW_ => ?_)
  generalize w15.drew = w16 at Z101 Z102 Z103 HB hHeld ⊢
  refine take_ (i := 0) (N := some 11) (v := ?_) (a' := ?_) #[true, false, false, false, false, false, false, false, false] rfl rfl (take_ofW HT_.out HW_.out (by kernel_rfl)) (fun _ _ _ h => h) (Or.inl ⟨by rfl, ?_⟩) hHeld ?_ ?_
  rotate_left
  ·rintro w' ⟨s0, s1, s2, s3, s4, s5, s6, s7, s8, s9, s10, s11⟩
   go_simp
   with_reducible rfl
  rotate_left
  ·simp only [Act.put, xset_a, xset_z, xset_s, i64_w, i32_w]
   rfl
  refine take_ (i := 2) (N := some 13) (v := ?_) (a' := ?_) #[true, false, true, false, false, false, false, false, false] rfl rfl (take_ofW HT_.out HW_.out (by kernel_rfl)) (fun _ _ _ h => h) (Or.inl ⟨by rfl, ?_⟩) hHeld ?_ ?_
  rotate_left
  ·rintro w' ⟨s0, s1, s2, s3, s4, s5, s6, s7, s8, s9, s10, s11⟩
   go_simp
   with_reducible rfl
  rotate_left
  ·simp only [Act.put, xset_a, xset_z, xset_s, i64_w, i32_w]
   rfl
  refine take_ (i := 4) (N := some 15) (v := ?_) (a' := ?_) #[true, false, true, false, true, false, false, false, false] rfl rfl (take_ofW HT_.out HW_.out (by kernel_rfl)) (fun _ _ _ h => h) (Or.inl ⟨by rfl, ?_⟩) hHeld ?_ ?_
  rotate_left
  ·rintro w' ⟨s0, s1, s2, s3, s4, s5, s6, s7, s8, s9, s10, s11⟩
   go_simp
   with_reducible rfl
  rotate_left
  ·simp only [Act.put, xset_a, xset_z, xset_s, i64_w, i32_w]
   rfl
  refine one_ (i := 1) (N := some 12) #[true, true, true, false, true, false, false, false, false] rfl rfl (one_of HT_.out (by kernel_rfl)) (by decide) (fun K hK => ?_)
  refine goes_ Tryd.func15 (by kernel_rfl) rfl #[.agg #[.int .i64 a0_0, .int .i64 a0_1, .int .i64 a0_2, .int .i64 a0_3]] (by rfl) rfl rfl (by (try simp only [List.map_toArray, List.map_cons, List.map_nil]); first | done | rfl | (simp only [List.length_drop, List.length_take]; rfl)) ?_
  with_reducible refine (donjonlaw4_Good.calls a0_0 a0_1 a0_2 a0_3 t105 t106 t107 t108 _ A6.out).mono ?_
  rintro e w17 ⟨rfl, hb⟩
  refine ⟨_, rfl, ?_⟩
  have n0_ := bb_ Z101 hb
  have n1_ := bb_ Z102 hb
  have n2_ := bb_ Z103 hb
  have n3_ := Aside0.mk (below_step (bl_ HB.out) hb)
  clear Z101 Z102 Z103 HB
  have Z101 := n0_; have Z102 := n1_; have Z103 := n2_; have HB := n3_
  clear n0_ n1_ n2_ n3_
  (try clear hb)
  (try clear hb2)
  (try clear hk)
  (try clear hi)
  refine hK.out _ _ ⟨(blk_cell Z101.out 0).trans rfl, (blk_cell Z101.out 1).trans rfl, (blk_cell Z101.out 2).trans rfl, (blk_cell Z101.out 3).trans rfl, (blk_cell Z102.out 0).trans rfl, (blk_cell Z102.out 1).trans rfl, (blk_cell Z102.out 2).trans rfl, (blk_cell Z102.out 3).trans rfl, (blk_cell Z103.out 0).trans rfl, (blk_cell Z103.out 1).trans rfl, (blk_cell Z103.out 2).trans rfl, (blk_cell Z103.out 3).trans rfl⟩ (fun hHeld => ?_)
  clear hK K
  refine norm_ (a' := ?_) ?_ ?_
  rotate_left
  ·show Act.put _ (some 12) _ = _
   simp only [Act.put, xset_a, xset_z, xset_s, i64_w, i32_w]
   rfl
  refine one_ (i := 3) (N := some 14) #[true, true, true, true, true, false, false, false, false] rfl rfl (one_of HT_.out (by kernel_rfl)) (by decide) (fun K hK => ?_)
  refine goes_ Tryd.func15 (by kernel_rfl) rfl #[.agg #[.int .i64 a1_0, .int .i64 a1_1, .int .i64 a1_2, .int .i64 a1_3]] (by rfl) rfl rfl (by (try simp only [List.map_toArray, List.map_cons, List.map_nil]); first | done | rfl | (simp only [List.length_drop, List.length_take]; rfl)) ?_
  with_reducible refine (donjonlaw4_Good.calls a1_0 a1_1 a1_2 a1_3 t109 t110 t111 t112 _ A7.out).mono ?_
  rintro e w18 ⟨rfl, hb⟩
  refine ⟨_, rfl, ?_⟩
  have n0_ := bb_ Z101 hb
  have n1_ := bb_ Z102 hb
  have n2_ := bb_ Z103 hb
  have n3_ := Aside0.mk (below_step (bl_ HB.out) hb)
  clear Z101 Z102 Z103 HB
  have Z101 := n0_; have Z102 := n1_; have Z103 := n2_; have HB := n3_
  clear n0_ n1_ n2_ n3_
  (try clear hb)
  (try clear hb2)
  (try clear hk)
  (try clear hi)
  refine hK.out _ _ ⟨(blk_cell Z101.out 0).trans rfl, (blk_cell Z101.out 1).trans rfl, (blk_cell Z101.out 2).trans rfl, (blk_cell Z101.out 3).trans rfl, (blk_cell Z102.out 0).trans rfl, (blk_cell Z102.out 1).trans rfl, (blk_cell Z102.out 2).trans rfl, (blk_cell Z102.out 3).trans rfl, (blk_cell Z103.out 0).trans rfl, (blk_cell Z103.out 1).trans rfl, (blk_cell Z103.out 2).trans rfl, (blk_cell Z103.out 3).trans rfl⟩ (fun hHeld => ?_)
  clear hK K
  refine norm_ (a' := ?_) ?_ ?_
  rotate_left
  ·show Act.put _ (some 14) _ = _
   simp only [Act.put, xset_a, xset_z, xset_s, i64_w, i32_w]
   rfl
  refine one_ (i := 5) (N := some 16) #[true, true, true, true, true, true, false, false, false] rfl rfl (one_of HT_.out (by kernel_rfl)) (by decide) (fun K hK => ?_)
  refine goes_ Tryd.func15 (by kernel_rfl) rfl #[.agg #[.int .i64 a2_0, .int .i64 a2_1, .int .i64 a2_2, .int .i64 a2_3]] (by rfl) rfl rfl (by (try simp only [List.map_toArray, List.map_cons, List.map_nil]); first | done | rfl | (simp only [List.length_drop, List.length_take]; rfl)) ?_
  with_reducible refine (donjonlaw4_Good.calls a2_0 a2_1 a2_2 a2_3 t113 t114 t115 t116 _ A8.out).mono ?_
  rintro e w19 ⟨rfl, hb⟩
  refine ⟨_, rfl, ?_⟩
  have n0_ := bb_ Z101 hb
  have n1_ := bb_ Z102 hb
  have n2_ := bb_ Z103 hb
  have n3_ := Aside0.mk (below_step (bl_ HB.out) hb)
  clear Z101 Z102 Z103 HB
  have Z101 := n0_; have Z102 := n1_; have Z103 := n2_; have HB := n3_
  clear n0_ n1_ n2_ n3_
  (try clear hb)
  (try clear hb2)
  (try clear hk)
  (try clear hi)
  refine hK.out _ _ ⟨(blk_cell Z101.out 0).trans rfl, (blk_cell Z101.out 1).trans rfl, (blk_cell Z101.out 2).trans rfl, (blk_cell Z101.out 3).trans rfl, (blk_cell Z102.out 0).trans rfl, (blk_cell Z102.out 1).trans rfl, (blk_cell Z102.out 2).trans rfl, (blk_cell Z102.out 3).trans rfl, (blk_cell Z103.out 0).trans rfl, (blk_cell Z103.out 1).trans rfl, (blk_cell Z103.out 2).trans rfl, (blk_cell Z103.out 3).trans rfl⟩ (fun hHeld => ?_)
  clear hK K
  refine norm_ (a' := ?_) ?_ ?_
  rotate_left
  ·show Act.put _ (some 16) _ = _
   simp only [Act.put, xset_a, xset_z, xset_s, i64_w, i32_w]
   rfl
  refine last_ (i := 6) (N := none) #[true, true, true, true, true, true, true, false, false] rfl rfl (one_of HT_.out (by kernel_rfl)) (by decide) (fun K hK => ?_)
  have hs20 : w19.cell? ⟨gb101, 0, none⟩ = some (.int .i64 a0_0) := (blk_cell Z101.out 0).trans rfl
  have hfs20 := blk_frozen Z101.out 0
  have hns20_1 := NB102_101.out
  have hns20_2 := NB103_101.out
  have hms20_1 := NB101_102.out
  have hms20_2 := NB101_103.out
  have hs21 : w19.cell? ⟨gb101, 1, none⟩ = some (.int .i64 a0_1) := (blk_cell Z101.out 1).trans rfl
  have hfs21 := blk_frozen Z101.out 1
  have hns21_1 := NB102_101.out
  have hns21_2 := NB103_101.out
  have hms21_1 := NB101_102.out
  have hms21_2 := NB101_103.out
  have hs22 : w19.cell? ⟨gb101, 2, none⟩ = some (.int .i64 a0_2) := (blk_cell Z101.out 2).trans rfl
  have hfs22 := blk_frozen Z101.out 2
  have hns22_1 := NB102_101.out
  have hns22_2 := NB103_101.out
  have hms22_1 := NB101_102.out
  have hms22_2 := NB101_103.out
  have hs23 : w19.cell? ⟨gb101, 3, none⟩ = some (.int .i64 a0_3) := (blk_cell Z101.out 3).trans rfl
  have hfs23 := blk_frozen Z101.out 3
  have hns23_1 := NB102_101.out
  have hns23_2 := NB103_101.out
  have hms23_1 := NB101_102.out
  have hms23_2 := NB101_103.out
  with_reducible refine skip_ (w1 := ?_) ?_ rfl ?_ ?_
  rotate_left
  ·rfl
  ·go_simp
   rfl
  refine hK.out _ _ ?_
  clear hK K
  refine last_ (i := 7) (N := none) #[true, true, true, true, true, true, true, true, false] rfl rfl (one_of HT_.out (by kernel_rfl)) (by decide) (fun K hK => ?_)
  have hs24 : w19.cell? ⟨gb102, 0, none⟩ = some (.int .i64 a1_0) := (blk_cell Z102.out 0).trans rfl
  have hfs24 := blk_frozen Z102.out 0
  have hns24_0 := NB101_102.out
  have hns24_2 := NB103_102.out
  have hms24_0 := NB102_101.out
  have hms24_2 := NB102_103.out
  have hs25 : w19.cell? ⟨gb102, 1, none⟩ = some (.int .i64 a1_1) := (blk_cell Z102.out 1).trans rfl
  have hfs25 := blk_frozen Z102.out 1
  have hns25_0 := NB101_102.out
  have hns25_2 := NB103_102.out
  have hms25_0 := NB102_101.out
  have hms25_2 := NB102_103.out
  have hs26 : w19.cell? ⟨gb102, 2, none⟩ = some (.int .i64 a1_2) := (blk_cell Z102.out 2).trans rfl
  have hfs26 := blk_frozen Z102.out 2
  have hns26_0 := NB101_102.out
  have hns26_2 := NB103_102.out
  have hms26_0 := NB102_101.out
  have hms26_2 := NB102_103.out
  have hs27 : w19.cell? ⟨gb102, 3, none⟩ = some (.int .i64 a1_3) := (blk_cell Z102.out 3).trans rfl
  have hfs27 := blk_frozen Z102.out 3
  have hns27_0 := NB101_102.out
  have hns27_2 := NB103_102.out
  have hms27_0 := NB102_101.out
  have hms27_2 := NB102_103.out
  with_reducible refine skip_ (w1 := ?_) ?_ rfl ?_ ?_
  rotate_left
  ·rfl
  ·go_simp
   rfl
  refine hK.out _ _ ?_
  clear hK K
  refine last_ (i := 8) (N := none) #[true, true, true, true, true, true, true, true, true] rfl rfl (one_of HT_.out (by kernel_rfl)) (by decide) (fun K hK => ?_)
  have hs28 : w19.cell? ⟨gb103, 0, none⟩ = some (.int .i64 a2_0) := (blk_cell Z103.out 0).trans rfl
  have hfs28 := blk_frozen Z103.out 0
  have hns28_0 := NB101_103.out
  have hns28_1 := NB102_103.out
  have hms28_0 := NB103_101.out
  have hms28_1 := NB103_102.out
  have hs29 : w19.cell? ⟨gb103, 1, none⟩ = some (.int .i64 a2_1) := (blk_cell Z103.out 1).trans rfl
  have hfs29 := blk_frozen Z103.out 1
  have hns29_0 := NB101_103.out
  have hns29_1 := NB102_103.out
  have hms29_0 := NB103_101.out
  have hms29_1 := NB103_102.out
  have hs30 : w19.cell? ⟨gb103, 2, none⟩ = some (.int .i64 a2_2) := (blk_cell Z103.out 2).trans rfl
  have hfs30 := blk_frozen Z103.out 2
  have hns30_0 := NB101_103.out
  have hns30_1 := NB102_103.out
  have hms30_0 := NB103_101.out
  have hms30_1 := NB103_102.out
  have hs31 : w19.cell? ⟨gb103, 3, none⟩ = some (.int .i64 a2_3) := (blk_cell Z103.out 3).trans rfl
  have hfs31 := blk_frozen Z103.out 3
  have hns31_0 := NB101_103.out
  have hns31_1 := NB102_103.out
  have hms31_0 := NB103_101.out
  have hms31_1 := NB103_102.out
  with_reducible refine skip_ (w1 := ?_) ?_ rfl ?_ ?_
  rotate_left
  ·rfl
  ·go_simp
   rfl
  refine hK.out _ _ ?_
  clear hK K
  refine done_ (done_of HT_.out (by kernel_rfl)) ?_
  try go_wp2
  have n0_ : Aside0 (((((((((((((w19.setCell ⟨gb101, 0, none⟩ (.int .i64 t105)).setCell ⟨gb101, 1, none⟩ (.int .i64 t106)).setCell ⟨gb101, 2, none⟩ (.int .i64 t107)).setCell ⟨gb101, 3, none⟩ (.int .i64 t108)).setCell ⟨gb102, 0, none⟩ (.int .i64 t109)).setCell ⟨gb102, 1, none⟩ (.int .i64 t110)).setCell ⟨gb102, 2, none⟩ (.int .i64 t111)).setCell ⟨gb102, 3, none⟩ (.int .i64 t112)).setCell ⟨gb103, 0, none⟩ (.int .i64 t113)).setCell ⟨gb103, 1, none⟩ (.int .i64 t114)).setCell ⟨gb103, 2, none⟩ (.int .i64 t115)).setCell ⟨gb103, 3, none⟩ (.int .i64 t116)).heap[gb101]? = some (.cells #[.int .i64 t105, .int .i64 t106, .int .i64 t107, .int .i64 t108] 23 (0, 0))) := ⟨by (iterate 4 ((with_reducible repeat (first | refine blk_drewN ?_ _ | refine blk_drew ?_ | refine blk_alloc ?_ _)); refine blk_far ?_ NB101_103.out _)); (with_reducible repeat (first | refine blk_drewN ?_ _ | refine blk_drew ?_ | refine blk_alloc ?_ _)); refine blk_far ?_ NB101_102.out _; (iterate 3 ((with_reducible repeat (first | refine blk_drewN ?_ _ | refine blk_drew ?_ | refine blk_alloc ?_ _)); refine blk_far ?_ NB101_102.out _)); (with_reducible repeat (first | refine blk_drewN ?_ _ | refine blk_drew ?_ | refine blk_alloc ?_ _)); refine puts4 (cs := #[.int .i64 a0_0, .int .i64 a0_1, .int .i64 a0_2, .int .i64 a0_3]) ?_ rfl; (with_reducible repeat (first | refine blk_drewN ?_ _ | refine blk_drew ?_ | refine blk_alloc ?_ _)); exact Z101.out⟩
  have n1_ : Aside0 (((((((((((((w19.setCell ⟨gb101, 0, none⟩ (.int .i64 t105)).setCell ⟨gb101, 1, none⟩ (.int .i64 t106)).setCell ⟨gb101, 2, none⟩ (.int .i64 t107)).setCell ⟨gb101, 3, none⟩ (.int .i64 t108)).setCell ⟨gb102, 0, none⟩ (.int .i64 t109)).setCell ⟨gb102, 1, none⟩ (.int .i64 t110)).setCell ⟨gb102, 2, none⟩ (.int .i64 t111)).setCell ⟨gb102, 3, none⟩ (.int .i64 t112)).setCell ⟨gb103, 0, none⟩ (.int .i64 t113)).setCell ⟨gb103, 1, none⟩ (.int .i64 t114)).setCell ⟨gb103, 2, none⟩ (.int .i64 t115)).setCell ⟨gb103, 3, none⟩ (.int .i64 t116)).heap[gb102]? = some (.cells #[.int .i64 t109, .int .i64 t110, .int .i64 t111, .int .i64 t112] 23 (0, 0))) := ⟨by (iterate 4 ((with_reducible repeat (first | refine blk_drewN ?_ _ | refine blk_drew ?_ | refine blk_alloc ?_ _)); refine blk_far ?_ NB102_103.out _)); (with_reducible repeat (first | refine blk_drewN ?_ _ | refine blk_drew ?_ | refine blk_alloc ?_ _)); refine puts4 (cs := #[.int .i64 a1_0, .int .i64 a1_1, .int .i64 a1_2, .int .i64 a1_3]) ?_ rfl; (iterate 4 ((with_reducible repeat (first | refine blk_drewN ?_ _ | refine blk_drew ?_ | refine blk_alloc ?_ _)); refine blk_far ?_ NB102_101.out _)); (with_reducible repeat (first | refine blk_drewN ?_ _ | refine blk_drew ?_ | refine blk_alloc ?_ _)); exact Z102.out⟩
  have n2_ : Aside0 (((((((((((((w19.setCell ⟨gb101, 0, none⟩ (.int .i64 t105)).setCell ⟨gb101, 1, none⟩ (.int .i64 t106)).setCell ⟨gb101, 2, none⟩ (.int .i64 t107)).setCell ⟨gb101, 3, none⟩ (.int .i64 t108)).setCell ⟨gb102, 0, none⟩ (.int .i64 t109)).setCell ⟨gb102, 1, none⟩ (.int .i64 t110)).setCell ⟨gb102, 2, none⟩ (.int .i64 t111)).setCell ⟨gb102, 3, none⟩ (.int .i64 t112)).setCell ⟨gb103, 0, none⟩ (.int .i64 t113)).setCell ⟨gb103, 1, none⟩ (.int .i64 t114)).setCell ⟨gb103, 2, none⟩ (.int .i64 t115)).setCell ⟨gb103, 3, none⟩ (.int .i64 t116)).heap[gb103]? = some (.cells #[.int .i64 t113, .int .i64 t114, .int .i64 t115, .int .i64 t116] 23 (0, 0))) := ⟨by (with_reducible repeat (first | refine blk_drewN ?_ _ | refine blk_drew ?_ | refine blk_alloc ?_ _)); refine puts4 (cs := #[.int .i64 a2_0, .int .i64 a2_1, .int .i64 a2_2, .int .i64 a2_3]) ?_ rfl; (iterate 4 ((with_reducible repeat (first | refine blk_drewN ?_ _ | refine blk_drew ?_ | refine blk_alloc ?_ _)); refine blk_far ?_ NB103_102.out _)); (with_reducible repeat (first | refine blk_drewN ?_ _ | refine blk_drew ?_ | refine blk_alloc ?_ _)); refine blk_far ?_ NB103_101.out _; (iterate 3 ((with_reducible repeat (first | refine blk_drewN ?_ _ | refine blk_drew ?_ | refine blk_alloc ?_ _)); refine blk_far ?_ NB103_101.out _)); (with_reducible repeat (first | refine blk_drewN ?_ _ | refine blk_drew ?_ | refine blk_alloc ?_ _)); exact Z103.out⟩
  have n3_ : Aside0 (Below w.heap.size w ((((((((((((w19.setCell ⟨gb101, 0, none⟩ (.int .i64 t105)).setCell ⟨gb101, 1, none⟩ (.int .i64 t106)).setCell ⟨gb101, 2, none⟩ (.int .i64 t107)).setCell ⟨gb101, 3, none⟩ (.int .i64 t108)).setCell ⟨gb102, 0, none⟩ (.int .i64 t109)).setCell ⟨gb102, 1, none⟩ (.int .i64 t110)).setCell ⟨gb102, 2, none⟩ (.int .i64 t111)).setCell ⟨gb102, 3, none⟩ (.int .i64 t112)).setCell ⟨gb103, 0, none⟩ (.int .i64 t113)).setCell ⟨gb103, 1, none⟩ (.int .i64 t114)).setCell ⟨gb103, 2, none⟩ (.int .i64 t115)).setCell ⟨gb103, 3, none⟩ (.int .i64 t116))) := ⟨bl_ HB.out⟩
  (try clear Z101)
  (try clear Z102)
  (try clear Z103)
  (try clear HB)
  generalize ((((((((((((w19.setCell ⟨gb101, 0, none⟩ (.int .i64 t105)).setCell ⟨gb101, 1, none⟩ (.int .i64 t106)).setCell ⟨gb101, 2, none⟩ (.int .i64 t107)).setCell ⟨gb101, 3, none⟩ (.int .i64 t108)).setCell ⟨gb102, 0, none⟩ (.int .i64 t109)).setCell ⟨gb102, 1, none⟩ (.int .i64 t110)).setCell ⟨gb102, 2, none⟩ (.int .i64 t111)).setCell ⟨gb102, 3, none⟩ (.int .i64 t112)).setCell ⟨gb103, 0, none⟩ (.int .i64 t113)).setCell ⟨gb103, 1, none⟩ (.int .i64 t114)).setCell ⟨gb103, 2, none⟩ (.int .i64 t115)).setCell ⟨gb103, 3, none⟩ (.int .i64 t116)) = w32 at n0_ n1_ n2_ n3_ ⊢
  have Z101 := n0_; have Z102 := n1_; have Z103 := n2_; have HB := n3_
  clear n0_ n1_ n2_ n3_
  have n0_ := Aside0.mk (blk_drew Z101.out)
  have n1_ := Aside0.mk (blk_drew Z102.out)
  have n2_ := Aside0.mk (blk_drew Z103.out)
  have n3_ := Aside0.mk (below_drew1 HB.out)
  clear Z101 Z102 Z103 HB
  have Z101 := n0_; have Z102 := n1_; have Z103 := n2_; have HB := n3_
  clear n0_ n1_ n2_ n3_
  refine start_ (n := 10) (S := fun w' => w'.cell? ⟨gb101, 0, none⟩ = some (.int .i64 t105) ∧ w'.cell? ⟨gb101, 1, none⟩ = some (.int .i64 t106) ∧ w'.cell? ⟨gb101, 2, none⟩ = some (.int .i64 t107) ∧ w'.cell? ⟨gb101, 3, none⟩ = some (.int .i64 t108) ∧ w'.cell? ⟨gb102, 0, none⟩ = some (.int .i64 t109) ∧ w'.cell? ⟨gb102, 1, none⟩ = some (.int .i64 t110) ∧ w'.cell? ⟨gb102, 2, none⟩ = some (.int .i64 t111) ∧ w'.cell? ⟨gb102, 3, none⟩ = some (.int .i64 t112)) (ds := []) #[false, false, false, false, false, false, false, false, false, false] (by kernel_rfl) rfl rfl ⟨(blk_cell Z101.out 0).trans rfl, (blk_cell Z101.out 1).trans rfl, (blk_cell Z101.out 2).trans rfl, (blk_cell Z101.out 3).trans rfl, (blk_cell Z102.out 0).trans rfl, (blk_cell Z102.out 1).trans rfl, (blk_cell Z102.out 2).trans rfl, (blk_cell Z102.out 3).trans rfl⟩ (fun hHeld => ?_); refine with_tabW donjonlaw4_LabelLattice.tab4 donjonlaw4_LabelLattice.bits4 (fun HT_ HW_ => ?_)
  generalize w32.drew = w33 at Z101 Z102 Z103 HB hHeld ⊢
  refine take_ (i := 0) (N := some 17) (v := ?_) (a' := ?_) #[true, false, false, false, false, false, false, false, false, false] rfl rfl (take_ofW HT_.out HW_.out (by kernel_rfl)) (fun _ _ _ h => h) (Or.inl ⟨by rfl, ?_⟩) hHeld ?_ ?_
  rotate_left
  ·rintro w' ⟨s0, s1, s2, s3, s4, s5, s6, s7⟩
   go_simp
   with_reducible rfl
  rotate_left
  ·simp only [Act.put, xset_a, xset_z, xset_s, i64_w, i32_w]
   rfl
  refine take_ (i := 1) (N := some 18) (v := ?_) (a' := ?_) #[true, true, false, false, false, false, false, false, false, false] rfl rfl (take_ofW HT_.out HW_.out (by kernel_rfl)) (fun _ _ _ h => h) (Or.inl ⟨by rfl, ?_⟩) hHeld ?_ ?_
  rotate_left
  ·rintro w' ⟨s0, s1, s2, s3, s4, s5, s6, s7⟩
   go_simp
   with_reducible rfl
  rotate_left
  ·simp only [Act.put, xset_a, xset_z, xset_s, i64_w, i32_w]
   rfl
  refine take_ (i := 3) (N := some 20) (v := ?_) (a' := ?_) #[true, true, false, true, false, false, false, false, false, false] rfl rfl (take_ofW HT_.out HW_.out (by kernel_rfl)) (fun _ _ _ h => h) (Or.inl ⟨by rfl, ?_⟩) hHeld ?_ ?_
  rotate_left
  ·rintro w' ⟨s0, s1, s2, s3, s4, s5, s6, s7⟩
   go_simp
   with_reducible rfl
  rotate_left
  ·simp only [Act.put, xset_a, xset_z, xset_s, i64_w, i32_w]
   rfl
  refine take_ (i := 4) (N := some 21) (v := ?_) (a' := ?_) #[true, true, false, true, true, false, false, false, false, false] rfl rfl (take_ofW HT_.out HW_.out (by kernel_rfl)) (fun _ _ _ h => h) (Or.inl ⟨by rfl, ?_⟩) hHeld ?_ ?_
  rotate_left
  ·rintro w' ⟨s0, s1, s2, s3, s4, s5, s6, s7⟩
   go_simp
   with_reducible rfl
  rotate_left
  ·simp only [Act.put, xset_a, xset_z, xset_s, i64_w, i32_w]
   rfl
  refine join_ (σ := Nat × Nat) 2 #[true, true, true, true, true, true, true, true, false, false] (fun s_ => [(19, .agg #[.int .i64 t117, .int .i64 t118, .int .i64 t119, .int .i64 t120]), (22, .agg #[.int .i64 t121, .int .i64 t122, .int .i64 t123, .int .i64 t124]), (7, .pointer (some ⟨s_.1, 0, none⟩)), (8, .pointer (some ⟨s_.2, 0, none⟩))]) (fun s_ w' => (w'.cell? ⟨gb101, 0, none⟩ = some (.int .i64 t105) ∧ w'.cell? ⟨gb101, 1, none⟩ = some (.int .i64 t106) ∧ w'.cell? ⟨gb101, 2, none⟩ = some (.int .i64 t107) ∧ w'.cell? ⟨gb101, 3, none⟩ = some (.int .i64 t108) ∧ w'.cell? ⟨gb102, 0, none⟩ = some (.int .i64 t109) ∧ w'.cell? ⟨gb102, 1, none⟩ = some (.int .i64 t110) ∧ w'.cell? ⟨gb102, 2, none⟩ = some (.int .i64 t111) ∧ w'.cell? ⟨gb102, 3, none⟩ = some (.int .i64 t112)) ∧ (w'.heap[gb101]? = some (.cells #[.int .i64 t105, .int .i64 t106, .int .i64 t107, .int .i64 t108] 23 (0, 0))) ∧ (w'.heap[gb102]? = some (.cells #[.int .i64 t109, .int .i64 t110, .int .i64 t111, .int .i64 t112] 23 (0, 0))) ∧ (w'.heap[gb103]? = some (.cells #[.int .i64 t113, .int .i64 t114, .int .i64 t115, .int .i64 t116] 23 (0, 0))) ∧ (w'.heap[s_.1]? = some (.cells #[.int .i64 0, .int .i64 0, .int .i64 0, .int .i64 0] 23 (0, 0))) ∧ (w'.heap[s_.2]? = some (.cells #[.int .i64 0, .int .i64 0, .int .i64 0, .int .i64 0] 23 (0, 0))) ∧ (w.heap.size ≤ s_.1) ∧ (w.heap.size ≤ s_.1) ∧ (gb101 ≠ s_.1) ∧ (s_.1 ≠ gb101) ∧ (gb102 ≠ s_.1) ∧ (s_.1 ≠ gb102) ∧ (gb103 ≠ s_.1) ∧ (s_.1 ≠ gb103) ∧ (s_.2 ≠ s_.1) ∧ (s_.1 ≠ s_.2) ∧ (w.heap.size ≤ s_.2) ∧ (w.heap.size ≤ s_.2) ∧ (gb101 ≠ s_.2) ∧ (s_.2 ≠ gb101) ∧ (gb102 ≠ s_.2) ∧ (s_.2 ≠ gb102) ∧ (gb103 ≠ s_.2) ∧ (s_.2 ≠ gb103) ∧ (Below w.heap.size w w')) ?_ ?_
  rotate_left
  ·intro hJ2_5_6_7
   refine join_ (σ := Nat) 3 #[true, true, true, true, true, true, true, false, false, false] (fun s_ => [(19, .agg #[.int .i64 t117, .int .i64 t118, .int .i64 t119, .int .i64 t120]), (22, .agg #[.int .i64 t121, .int .i64 t122, .int .i64 t123, .int .i64 t124]), (7, .pointer (some ⟨s_, 0, none⟩))]) (fun s_ w' => (w'.cell? ⟨gb101, 0, none⟩ = some (.int .i64 t105) ∧ w'.cell? ⟨gb101, 1, none⟩ = some (.int .i64 t106) ∧ w'.cell? ⟨gb101, 2, none⟩ = some (.int .i64 t107) ∧ w'.cell? ⟨gb101, 3, none⟩ = some (.int .i64 t108) ∧ w'.cell? ⟨gb102, 0, none⟩ = some (.int .i64 t109) ∧ w'.cell? ⟨gb102, 1, none⟩ = some (.int .i64 t110) ∧ w'.cell? ⟨gb102, 2, none⟩ = some (.int .i64 t111) ∧ w'.cell? ⟨gb102, 3, none⟩ = some (.int .i64 t112)) ∧ (w'.heap[gb101]? = some (.cells #[.int .i64 t105, .int .i64 t106, .int .i64 t107, .int .i64 t108] 23 (0, 0))) ∧ (w'.heap[gb102]? = some (.cells #[.int .i64 t109, .int .i64 t110, .int .i64 t111, .int .i64 t112] 23 (0, 0))) ∧ (w'.heap[gb103]? = some (.cells #[.int .i64 t113, .int .i64 t114, .int .i64 t115, .int .i64 t116] 23 (0, 0))) ∧ (w'.heap[s_]? = some (.cells #[.int .i64 0, .int .i64 0, .int .i64 0, .int .i64 0] 23 (0, 0))) ∧ (w.heap.size ≤ s_) ∧ (w.heap.size ≤ s_) ∧ (gb101 ≠ s_) ∧ (s_ ≠ gb101) ∧ (gb102 ≠ s_) ∧ (s_ ≠ gb102) ∧ (gb103 ≠ s_) ∧ (s_ ≠ gb103) ∧ (Below w.heap.size w w')) ?_ ?_
   rotate_left
   ·intro hJ2_5_6
    refine join_ (σ := Nat) 3 #[true, true, true, true, true, true, false, true, false, false] (fun s_ => [(19, .agg #[.int .i64 t117, .int .i64 t118, .int .i64 t119, .int .i64 t120]), (22, .agg #[.int .i64 t121, .int .i64 t122, .int .i64 t123, .int .i64 t124]), (8, .pointer (some ⟨s_, 0, none⟩))]) (fun s_ w' => (w'.cell? ⟨gb101, 0, none⟩ = some (.int .i64 t105) ∧ w'.cell? ⟨gb101, 1, none⟩ = some (.int .i64 t106) ∧ w'.cell? ⟨gb101, 2, none⟩ = some (.int .i64 t107) ∧ w'.cell? ⟨gb101, 3, none⟩ = some (.int .i64 t108) ∧ w'.cell? ⟨gb102, 0, none⟩ = some (.int .i64 t109) ∧ w'.cell? ⟨gb102, 1, none⟩ = some (.int .i64 t110) ∧ w'.cell? ⟨gb102, 2, none⟩ = some (.int .i64 t111) ∧ w'.cell? ⟨gb102, 3, none⟩ = some (.int .i64 t112)) ∧ (w'.heap[gb101]? = some (.cells #[.int .i64 t105, .int .i64 t106, .int .i64 t107, .int .i64 t108] 23 (0, 0))) ∧ (w'.heap[gb102]? = some (.cells #[.int .i64 t109, .int .i64 t110, .int .i64 t111, .int .i64 t112] 23 (0, 0))) ∧ (w'.heap[gb103]? = some (.cells #[.int .i64 t113, .int .i64 t114, .int .i64 t115, .int .i64 t116] 23 (0, 0))) ∧ (w'.heap[s_]? = some (.cells #[.int .i64 0, .int .i64 0, .int .i64 0, .int .i64 0] 23 (0, 0))) ∧ (w.heap.size ≤ s_) ∧ (w.heap.size ≤ s_) ∧ (gb101 ≠ s_) ∧ (s_ ≠ gb101) ∧ (gb102 ≠ s_) ∧ (s_ ≠ gb102) ∧ (gb103 ≠ s_) ∧ (s_ ≠ gb103) ∧ (Below w.heap.size w w')) ?_ ?_
    rotate_left
    ·intro hJ2_5_7
     refine join_ (σ := Nat × Nat) 3 #[true, true, true, true, true, false, true, true, false, false] (fun s_ => [(19, .agg #[.int .i64 t117, .int .i64 t118, .int .i64 t119, .int .i64 t120]), (7, .pointer (some ⟨s_.1, 0, none⟩)), (8, .pointer (some ⟨s_.2, 0, none⟩))]) (fun s_ w' => (w'.cell? ⟨gb101, 0, none⟩ = some (.int .i64 t105) ∧ w'.cell? ⟨gb101, 1, none⟩ = some (.int .i64 t106) ∧ w'.cell? ⟨gb101, 2, none⟩ = some (.int .i64 t107) ∧ w'.cell? ⟨gb101, 3, none⟩ = some (.int .i64 t108) ∧ w'.cell? ⟨gb102, 0, none⟩ = some (.int .i64 t109) ∧ w'.cell? ⟨gb102, 1, none⟩ = some (.int .i64 t110) ∧ w'.cell? ⟨gb102, 2, none⟩ = some (.int .i64 t111) ∧ w'.cell? ⟨gb102, 3, none⟩ = some (.int .i64 t112)) ∧ (w'.heap[gb101]? = some (.cells #[.int .i64 t105, .int .i64 t106, .int .i64 t107, .int .i64 t108] 23 (0, 0))) ∧ (w'.heap[gb102]? = some (.cells #[.int .i64 t109, .int .i64 t110, .int .i64 t111, .int .i64 t112] 23 (0, 0))) ∧ (w'.heap[gb103]? = some (.cells #[.int .i64 t113, .int .i64 t114, .int .i64 t115, .int .i64 t116] 23 (0, 0))) ∧ (w'.heap[s_.1]? = some (.cells #[.int .i64 0, .int .i64 0, .int .i64 0, .int .i64 0] 23 (0, 0))) ∧ (w'.heap[s_.2]? = some (.cells #[.int .i64 0, .int .i64 0, .int .i64 0, .int .i64 0] 23 (0, 0))) ∧ (w.heap.size ≤ s_.1) ∧ (w.heap.size ≤ s_.1) ∧ (gb101 ≠ s_.1) ∧ (s_.1 ≠ gb101) ∧ (gb102 ≠ s_.1) ∧ (s_.1 ≠ gb102) ∧ (gb103 ≠ s_.1) ∧ (s_.1 ≠ gb103) ∧ (s_.2 ≠ s_.1) ∧ (s_.1 ≠ s_.2) ∧ (w.heap.size ≤ s_.2) ∧ (w.heap.size ≤ s_.2) ∧ (gb101 ≠ s_.2) ∧ (s_.2 ≠ gb101) ∧ (gb102 ≠ s_.2) ∧ (s_.2 ≠ gb102) ∧ (gb103 ≠ s_.2) ∧ (s_.2 ≠ gb103) ∧ (Below w.heap.size w w')) ?_ ?_
     rotate_left
     ·intro hJ2_6_7
      refine join_ (σ := Unit) 4 #[true, true, true, true, true, true, false, false, false, false] (fun s_ => [(19, .agg #[.int .i64 t117, .int .i64 t118, .int .i64 t119, .int .i64 t120]), (22, .agg #[.int .i64 t121, .int .i64 t122, .int .i64 t123, .int .i64 t124])]) (fun s_ w' => (w'.cell? ⟨gb101, 0, none⟩ = some (.int .i64 t105) ∧ w'.cell? ⟨gb101, 1, none⟩ = some (.int .i64 t106) ∧ w'.cell? ⟨gb101, 2, none⟩ = some (.int .i64 t107) ∧ w'.cell? ⟨gb101, 3, none⟩ = some (.int .i64 t108) ∧ w'.cell? ⟨gb102, 0, none⟩ = some (.int .i64 t109) ∧ w'.cell? ⟨gb102, 1, none⟩ = some (.int .i64 t110) ∧ w'.cell? ⟨gb102, 2, none⟩ = some (.int .i64 t111) ∧ w'.cell? ⟨gb102, 3, none⟩ = some (.int .i64 t112)) ∧ (w'.heap[gb101]? = some (.cells #[.int .i64 t105, .int .i64 t106, .int .i64 t107, .int .i64 t108] 23 (0, 0))) ∧ (w'.heap[gb102]? = some (.cells #[.int .i64 t109, .int .i64 t110, .int .i64 t111, .int .i64 t112] 23 (0, 0))) ∧ (w'.heap[gb103]? = some (.cells #[.int .i64 t113, .int .i64 t114, .int .i64 t115, .int .i64 t116] 23 (0, 0))) ∧ (Below w.heap.size w w')) ?_ ?_
      rotate_left
      ·intro hJ2_5
       refine join_ (σ := Nat) 4 #[true, true, true, true, true, false, true, false, false, false] (fun s_ => [(19, .agg #[.int .i64 t117, .int .i64 t118, .int .i64 t119, .int .i64 t120]), (7, .pointer (some ⟨s_, 0, none⟩))]) (fun s_ w' => (w'.cell? ⟨gb101, 0, none⟩ = some (.int .i64 t105) ∧ w'.cell? ⟨gb101, 1, none⟩ = some (.int .i64 t106) ∧ w'.cell? ⟨gb101, 2, none⟩ = some (.int .i64 t107) ∧ w'.cell? ⟨gb101, 3, none⟩ = some (.int .i64 t108) ∧ w'.cell? ⟨gb102, 0, none⟩ = some (.int .i64 t109) ∧ w'.cell? ⟨gb102, 1, none⟩ = some (.int .i64 t110) ∧ w'.cell? ⟨gb102, 2, none⟩ = some (.int .i64 t111) ∧ w'.cell? ⟨gb102, 3, none⟩ = some (.int .i64 t112)) ∧ (w'.heap[gb101]? = some (.cells #[.int .i64 t105, .int .i64 t106, .int .i64 t107, .int .i64 t108] 23 (0, 0))) ∧ (w'.heap[gb102]? = some (.cells #[.int .i64 t109, .int .i64 t110, .int .i64 t111, .int .i64 t112] 23 (0, 0))) ∧ (w'.heap[gb103]? = some (.cells #[.int .i64 t113, .int .i64 t114, .int .i64 t115, .int .i64 t116] 23 (0, 0))) ∧ (w'.heap[s_]? = some (.cells #[.int .i64 0, .int .i64 0, .int .i64 0, .int .i64 0] 23 (0, 0))) ∧ (w.heap.size ≤ s_) ∧ (w.heap.size ≤ s_) ∧ (gb101 ≠ s_) ∧ (s_ ≠ gb101) ∧ (gb102 ≠ s_) ∧ (s_ ≠ gb102) ∧ (gb103 ≠ s_) ∧ (s_ ≠ gb103) ∧ (Below w.heap.size w w')) ?_ ?_
       rotate_left
       ·intro hJ2_6
        refine join_ (σ := Nat) 4 #[true, true, true, true, true, false, false, true, false, false] (fun s_ => [(19, .agg #[.int .i64 t117, .int .i64 t118, .int .i64 t119, .int .i64 t120]), (8, .pointer (some ⟨s_, 0, none⟩))]) (fun s_ w' => (w'.cell? ⟨gb101, 0, none⟩ = some (.int .i64 t105) ∧ w'.cell? ⟨gb101, 1, none⟩ = some (.int .i64 t106) ∧ w'.cell? ⟨gb101, 2, none⟩ = some (.int .i64 t107) ∧ w'.cell? ⟨gb101, 3, none⟩ = some (.int .i64 t108) ∧ w'.cell? ⟨gb102, 0, none⟩ = some (.int .i64 t109) ∧ w'.cell? ⟨gb102, 1, none⟩ = some (.int .i64 t110) ∧ w'.cell? ⟨gb102, 2, none⟩ = some (.int .i64 t111) ∧ w'.cell? ⟨gb102, 3, none⟩ = some (.int .i64 t112)) ∧ (w'.heap[gb101]? = some (.cells #[.int .i64 t105, .int .i64 t106, .int .i64 t107, .int .i64 t108] 23 (0, 0))) ∧ (w'.heap[gb102]? = some (.cells #[.int .i64 t109, .int .i64 t110, .int .i64 t111, .int .i64 t112] 23 (0, 0))) ∧ (w'.heap[gb103]? = some (.cells #[.int .i64 t113, .int .i64 t114, .int .i64 t115, .int .i64 t116] 23 (0, 0))) ∧ (w'.heap[s_]? = some (.cells #[.int .i64 0, .int .i64 0, .int .i64 0, .int .i64 0] 23 (0, 0))) ∧ (w.heap.size ≤ s_) ∧ (w.heap.size ≤ s_) ∧ (gb101 ≠ s_) ∧ (s_ ≠ gb101) ∧ (gb102 ≠ s_) ∧ (s_ ≠ gb102) ∧ (gb103 ≠ s_) ∧ (s_ ≠ gb103) ∧ (Below w.heap.size w w')) ?_ ?_
        rotate_left
        ·intro hJ2_7
         refine join_ (σ := Nat × Nat) 4 #[true, true, false, true, true, false, true, true, false, false] (fun s_ => [(7, .pointer (some ⟨s_.1, 0, none⟩)), (8, .pointer (some ⟨s_.2, 0, none⟩))]) (fun s_ w' => (w'.cell? ⟨gb101, 0, none⟩ = some (.int .i64 t105) ∧ w'.cell? ⟨gb101, 1, none⟩ = some (.int .i64 t106) ∧ w'.cell? ⟨gb101, 2, none⟩ = some (.int .i64 t107) ∧ w'.cell? ⟨gb101, 3, none⟩ = some (.int .i64 t108) ∧ w'.cell? ⟨gb102, 0, none⟩ = some (.int .i64 t109) ∧ w'.cell? ⟨gb102, 1, none⟩ = some (.int .i64 t110) ∧ w'.cell? ⟨gb102, 2, none⟩ = some (.int .i64 t111) ∧ w'.cell? ⟨gb102, 3, none⟩ = some (.int .i64 t112)) ∧ (w'.heap[gb101]? = some (.cells #[.int .i64 t105, .int .i64 t106, .int .i64 t107, .int .i64 t108] 23 (0, 0))) ∧ (w'.heap[gb102]? = some (.cells #[.int .i64 t109, .int .i64 t110, .int .i64 t111, .int .i64 t112] 23 (0, 0))) ∧ (w'.heap[gb103]? = some (.cells #[.int .i64 t113, .int .i64 t114, .int .i64 t115, .int .i64 t116] 23 (0, 0))) ∧ (w'.heap[s_.1]? = some (.cells #[.int .i64 0, .int .i64 0, .int .i64 0, .int .i64 0] 23 (0, 0))) ∧ (w'.heap[s_.2]? = some (.cells #[.int .i64 0, .int .i64 0, .int .i64 0, .int .i64 0] 23 (0, 0))) ∧ (w.heap.size ≤ s_.1) ∧ (w.heap.size ≤ s_.1) ∧ (gb101 ≠ s_.1) ∧ (s_.1 ≠ gb101) ∧ (gb102 ≠ s_.1) ∧ (s_.1 ≠ gb102) ∧ (gb103 ≠ s_.1) ∧ (s_.1 ≠ gb103) ∧ (s_.2 ≠ s_.1) ∧ (s_.1 ≠ s_.2) ∧ (w.heap.size ≤ s_.2) ∧ (w.heap.size ≤ s_.2) ∧ (gb101 ≠ s_.2) ∧ (s_.2 ≠ gb101) ∧ (gb102 ≠ s_.2) ∧ (s_.2 ≠ gb102) ∧ (gb103 ≠ s_.2) ∧ (s_.2 ≠ gb103) ∧ (Below w.heap.size w w')) ?_ ?_
         rotate_left
         ·intro hJ6_7
          refine join_ (σ := Unit) 5 #[true, true, true, true, true, false, false, false, false, false] (fun s_ => [(19, .agg #[.int .i64 t117, .int .i64 t118, .int .i64 t119, .int .i64 t120])]) (fun s_ w' => (w'.cell? ⟨gb101, 0, none⟩ = some (.int .i64 t105) ∧ w'.cell? ⟨gb101, 1, none⟩ = some (.int .i64 t106) ∧ w'.cell? ⟨gb101, 2, none⟩ = some (.int .i64 t107) ∧ w'.cell? ⟨gb101, 3, none⟩ = some (.int .i64 t108) ∧ w'.cell? ⟨gb102, 0, none⟩ = some (.int .i64 t109) ∧ w'.cell? ⟨gb102, 1, none⟩ = some (.int .i64 t110) ∧ w'.cell? ⟨gb102, 2, none⟩ = some (.int .i64 t111) ∧ w'.cell? ⟨gb102, 3, none⟩ = some (.int .i64 t112)) ∧ (w'.heap[gb101]? = some (.cells #[.int .i64 t105, .int .i64 t106, .int .i64 t107, .int .i64 t108] 23 (0, 0))) ∧ (w'.heap[gb102]? = some (.cells #[.int .i64 t109, .int .i64 t110, .int .i64 t111, .int .i64 t112] 23 (0, 0))) ∧ (w'.heap[gb103]? = some (.cells #[.int .i64 t113, .int .i64 t114, .int .i64 t115, .int .i64 t116] 23 (0, 0))) ∧ (Below w.heap.size w w')) ?_ ?_
          rotate_left
          ·intro hJ2
           refine join_ (σ := Nat) 5 #[true, true, false, true, true, false, true, false, false, false] (fun s_ => [(7, .pointer (some ⟨s_, 0, none⟩))]) (fun s_ w' => (w'.cell? ⟨gb101, 0, none⟩ = some (.int .i64 t105) ∧ w'.cell? ⟨gb101, 1, none⟩ = some (.int .i64 t106) ∧ w'.cell? ⟨gb101, 2, none⟩ = some (.int .i64 t107) ∧ w'.cell? ⟨gb101, 3, none⟩ = some (.int .i64 t108) ∧ w'.cell? ⟨gb102, 0, none⟩ = some (.int .i64 t109) ∧ w'.cell? ⟨gb102, 1, none⟩ = some (.int .i64 t110) ∧ w'.cell? ⟨gb102, 2, none⟩ = some (.int .i64 t111) ∧ w'.cell? ⟨gb102, 3, none⟩ = some (.int .i64 t112)) ∧ (w'.heap[gb101]? = some (.cells #[.int .i64 t105, .int .i64 t106, .int .i64 t107, .int .i64 t108] 23 (0, 0))) ∧ (w'.heap[gb102]? = some (.cells #[.int .i64 t109, .int .i64 t110, .int .i64 t111, .int .i64 t112] 23 (0, 0))) ∧ (w'.heap[gb103]? = some (.cells #[.int .i64 t113, .int .i64 t114, .int .i64 t115, .int .i64 t116] 23 (0, 0))) ∧ (w'.heap[s_]? = some (.cells #[.int .i64 0, .int .i64 0, .int .i64 0, .int .i64 0] 23 (0, 0))) ∧ (w.heap.size ≤ s_) ∧ (w.heap.size ≤ s_) ∧ (gb101 ≠ s_) ∧ (s_ ≠ gb101) ∧ (gb102 ≠ s_) ∧ (s_ ≠ gb102) ∧ (gb103 ≠ s_) ∧ (s_ ≠ gb103) ∧ (Below w.heap.size w w')) ?_ ?_
           rotate_left
           ·intro hJ6
            refine join_ (σ := Nat) 5 #[true, true, false, true, true, false, false, true, false, false] (fun s_ => [(8, .pointer (some ⟨s_, 0, none⟩))]) (fun s_ w' => (w'.cell? ⟨gb101, 0, none⟩ = some (.int .i64 t105) ∧ w'.cell? ⟨gb101, 1, none⟩ = some (.int .i64 t106) ∧ w'.cell? ⟨gb101, 2, none⟩ = some (.int .i64 t107) ∧ w'.cell? ⟨gb101, 3, none⟩ = some (.int .i64 t108) ∧ w'.cell? ⟨gb102, 0, none⟩ = some (.int .i64 t109) ∧ w'.cell? ⟨gb102, 1, none⟩ = some (.int .i64 t110) ∧ w'.cell? ⟨gb102, 2, none⟩ = some (.int .i64 t111) ∧ w'.cell? ⟨gb102, 3, none⟩ = some (.int .i64 t112)) ∧ (w'.heap[gb101]? = some (.cells #[.int .i64 t105, .int .i64 t106, .int .i64 t107, .int .i64 t108] 23 (0, 0))) ∧ (w'.heap[gb102]? = some (.cells #[.int .i64 t109, .int .i64 t110, .int .i64 t111, .int .i64 t112] 23 (0, 0))) ∧ (w'.heap[gb103]? = some (.cells #[.int .i64 t113, .int .i64 t114, .int .i64 t115, .int .i64 t116] 23 (0, 0))) ∧ (w'.heap[s_]? = some (.cells #[.int .i64 0, .int .i64 0, .int .i64 0, .int .i64 0] 23 (0, 0))) ∧ (w.heap.size ≤ s_) ∧ (w.heap.size ≤ s_) ∧ (gb101 ≠ s_) ∧ (s_ ≠ gb101) ∧ (gb102 ≠ s_) ∧ (s_ ≠ gb102) ∧ (gb103 ≠ s_) ∧ (s_ ≠ gb103) ∧ (Below w.heap.size w w')) ?_ ?_
            rotate_left
            ·intro hJ7
             refine three_ (i := 2) (j := 6) (k := 7) (Ni := some 19) (Nj := some 7) (Nk := some 8) #[true, true, true, true, true, false, false, false, false, false] #[true, true, false, true, true, false, true, false, false, false] #[true, true, false, true, true, false, false, true, false, false] rfl rfl rfl rfl rfl rfl (three_of HT_.out (by kernel_rfl)) (by decide) (by decide) (by decide) (fun K hK => ?_) (fun K hK => ?_) (fun K hK => ?_)
             ·skip
              refine goes_ Tryd.func18 (by kernel_rfl) rfl #[.agg #[.int .i64 t105, .int .i64 t106, .int .i64 t107, .int .i64 t108], .agg #[.int .i64 t109, .int .i64 t110, .int .i64 t111, .int .i64 t112]] (by rfl) rfl rfl (by (try simp only [List.map_toArray, List.map_cons, List.map_nil]); first | done | rfl | (simp only [List.length_drop, List.length_take]; rfl)) ?_
              with_reducible refine (label_Join.calls t105 t106 t107 t108 t109 t110 t111 t112 t117 t118 t119 t120 _ A9.out).mono ?_
              rintro e w34 ⟨rfl, hb⟩
              refine ⟨_, rfl, ?_⟩
              have n0_ := bb_ Z101 hb
              have n1_ := bb_ Z102 hb
              have n2_ := bb_ Z103 hb
              have n3_ := Aside0.mk (below_step (bl_ HB.out) hb)
              clear Z101 Z102 Z103 HB
              have Z101 := n0_; have Z102 := n1_; have Z103 := n2_; have HB := n3_
              clear n0_ n1_ n2_ n3_
              (try clear hb)
              (try clear hb2)
              (try clear hk)
              (try clear hi)
              refine hK.out _ _ ⟨(blk_cell Z101.out 0).trans rfl, (blk_cell Z101.out 1).trans rfl, (blk_cell Z101.out 2).trans rfl, (blk_cell Z101.out 3).trans rfl, (blk_cell Z102.out 0).trans rfl, (blk_cell Z102.out 1).trans rfl, (blk_cell Z102.out 2).trans rfl, (blk_cell Z102.out 3).trans rfl⟩ (fun hHeld => ?_)
              clear hK K
              refine norm_ (a' := ?_) ?_ ?_
              rotate_left
              ·show Act.put _ (some 19) _ = _
               simp only [Act.put, xset_a, xset_z, xset_s, i64_w, i32_w]
               rfl
              exact norm_ (by simp only [putAll, Act.put, xset_a, xset_z, xset_s] <;> rfl) (hJ2 () _ ⟨hHeld, (bk_ Z101.out), (bk_ Z102.out), (bk_ Z103.out), (bl_ HB.out)⟩)
             ·skip
              refine box_step ?hg (N := 7) ?hd (cs := #[.int .i64 0, .int .i64 0, .int .i64 0, .int .i64 0]) (t := 23) ?hr ?_; (case hd => rfl); (case hg => rfl); (case hr => first | (go_simp; done) | (go_simp; rfl))
              intro gb125 hg w34 hbox hb
              have n0_ := bb_ Z101 hb
              have n1_ := bb_ Z102 hb
              have n2_ := bb_ Z103 hb
              have n3_ := Aside0.mk (below_step (bl_ HB.out) hb)
              have n4_ := Aside0.mk (hbox)
              have n5_ := Aside0.mk ((by rw [hg]; exact (below_size (bl_ HB.out)) : w.heap.size ≤ gb125))
              have n6_ := Aside0.mk ((by rw [hg]; exact (below_size (bl_ HB.out)) : w.heap.size ≤ gb125))
              have n7_ := Aside0.mk ((by rw [hg]; exact Nat.ne_of_lt (blk_lt (g := gb101) (o := .cells #[.int .i64 t105, .int .i64 t106, .int .i64 t107, .int .i64 t108] 23 (0, 0)) (bk_ Z101.out)) : gb101 ≠ gb125))
              have n8_ := Aside0.mk ((by rw [hg]; exact Nat.ne_of_gt (blk_lt (g := gb101) (o := .cells #[.int .i64 t105, .int .i64 t106, .int .i64 t107, .int .i64 t108] 23 (0, 0)) (bk_ Z101.out)) : gb125 ≠ gb101))
              have n9_ := Aside0.mk ((by rw [hg]; exact Nat.ne_of_lt (blk_lt (g := gb102) (o := .cells #[.int .i64 t109, .int .i64 t110, .int .i64 t111, .int .i64 t112] 23 (0, 0)) (bk_ Z102.out)) : gb102 ≠ gb125))
              have n10_ := Aside0.mk ((by rw [hg]; exact Nat.ne_of_gt (blk_lt (g := gb102) (o := .cells #[.int .i64 t109, .int .i64 t110, .int .i64 t111, .int .i64 t112] 23 (0, 0)) (bk_ Z102.out)) : gb125 ≠ gb102))
              have n11_ := Aside0.mk ((by rw [hg]; exact Nat.ne_of_lt (blk_lt (g := gb103) (o := .cells #[.int .i64 t113, .int .i64 t114, .int .i64 t115, .int .i64 t116] 23 (0, 0)) (bk_ Z103.out)) : gb103 ≠ gb125))
              have n12_ := Aside0.mk ((by rw [hg]; exact Nat.ne_of_gt (blk_lt (g := gb103) (o := .cells #[.int .i64 t113, .int .i64 t114, .int .i64 t115, .int .i64 t116] 23 (0, 0)) (bk_ Z103.out)) : gb125 ≠ gb103))
              clear Z101 Z102 Z103 HB
              have Z101 := n0_; have Z102 := n1_; have Z103 := n2_; have HB := n3_; have Z125 := n4_; have GW125 := n5_; have GE125 := n6_; have NB101_125 := n7_; have NB125_101 := n8_; have NB102_125 := n9_; have NB125_102 := n10_; have NB103_125 := n11_; have NB125_103 := n12_
              clear n0_ n1_ n2_ n3_ n4_ n5_ n6_ n7_ n8_ n9_ n10_ n11_ n12_
              clear hb hbox hg
              refine hK.out _ _ ⟨(blk_cell Z101.out 0).trans rfl, (blk_cell Z101.out 1).trans rfl, (blk_cell Z101.out 2).trans rfl, (blk_cell Z101.out 3).trans rfl, (blk_cell Z102.out 0).trans rfl, (blk_cell Z102.out 1).trans rfl, (blk_cell Z102.out 2).trans rfl, (blk_cell Z102.out 3).trans rfl⟩ (fun hHeld => ?_)
              clear hK K
              refine norm_ (a' := ?_) ?_ ?_
              rotate_left
              ·show Act.put _ (some 7) _ = _
               simp only [Act.put, xset_a, xset_z, xset_s, i64_w, i32_w]
               rfl
              exact norm_ (by simp only [putAll, Act.put, xset_a, xset_z, xset_s] <;> rfl) (hJ6 (gb125) _ ⟨hHeld, (bk_ Z101.out), (bk_ Z102.out), (bk_ Z103.out), (bk_ Z125.out), GW125.out, GE125.out, NB101_125.out, NB125_101.out, NB102_125.out, NB125_102.out, NB103_125.out, NB125_103.out, (bl_ HB.out)⟩)
             ·skip
              refine box_step ?hg (N := 8) ?hd (cs := #[.int .i64 0, .int .i64 0, .int .i64 0, .int .i64 0]) (t := 23) ?hr ?_; (case hd => rfl); (case hg => rfl); (case hr => first | (go_simp; done) | (go_simp; rfl))
              intro gb126 hg w34 hbox hb
              have n0_ := bb_ Z101 hb
              have n1_ := bb_ Z102 hb
              have n2_ := bb_ Z103 hb
              have n3_ := Aside0.mk (below_step (bl_ HB.out) hb)
              have n4_ := Aside0.mk (hbox)
              have n5_ := Aside0.mk ((by rw [hg]; exact (below_size (bl_ HB.out)) : w.heap.size ≤ gb126))
              have n6_ := Aside0.mk ((by rw [hg]; exact (below_size (bl_ HB.out)) : w.heap.size ≤ gb126))
              have n7_ := Aside0.mk ((by rw [hg]; exact Nat.ne_of_lt (blk_lt (g := gb101) (o := .cells #[.int .i64 t105, .int .i64 t106, .int .i64 t107, .int .i64 t108] 23 (0, 0)) (bk_ Z101.out)) : gb101 ≠ gb126))
              have n8_ := Aside0.mk ((by rw [hg]; exact Nat.ne_of_gt (blk_lt (g := gb101) (o := .cells #[.int .i64 t105, .int .i64 t106, .int .i64 t107, .int .i64 t108] 23 (0, 0)) (bk_ Z101.out)) : gb126 ≠ gb101))
              have n9_ := Aside0.mk ((by rw [hg]; exact Nat.ne_of_lt (blk_lt (g := gb102) (o := .cells #[.int .i64 t109, .int .i64 t110, .int .i64 t111, .int .i64 t112] 23 (0, 0)) (bk_ Z102.out)) : gb102 ≠ gb126))
              have n10_ := Aside0.mk ((by rw [hg]; exact Nat.ne_of_gt (blk_lt (g := gb102) (o := .cells #[.int .i64 t109, .int .i64 t110, .int .i64 t111, .int .i64 t112] 23 (0, 0)) (bk_ Z102.out)) : gb126 ≠ gb102))
              have n11_ := Aside0.mk ((by rw [hg]; exact Nat.ne_of_lt (blk_lt (g := gb103) (o := .cells #[.int .i64 t113, .int .i64 t114, .int .i64 t115, .int .i64 t116] 23 (0, 0)) (bk_ Z103.out)) : gb103 ≠ gb126))
              have n12_ := Aside0.mk ((by rw [hg]; exact Nat.ne_of_gt (blk_lt (g := gb103) (o := .cells #[.int .i64 t113, .int .i64 t114, .int .i64 t115, .int .i64 t116] 23 (0, 0)) (bk_ Z103.out)) : gb126 ≠ gb103))
              clear Z101 Z102 Z103 HB
              have Z101 := n0_; have Z102 := n1_; have Z103 := n2_; have HB := n3_; have Z126 := n4_; have GW126 := n5_; have GE126 := n6_; have NB101_126 := n7_; have NB126_101 := n8_; have NB102_126 := n9_; have NB126_102 := n10_; have NB103_126 := n11_; have NB126_103 := n12_
              clear n0_ n1_ n2_ n3_ n4_ n5_ n6_ n7_ n8_ n9_ n10_ n11_ n12_
              clear hb hbox hg
              refine hK.out _ _ ⟨(blk_cell Z101.out 0).trans rfl, (blk_cell Z101.out 1).trans rfl, (blk_cell Z101.out 2).trans rfl, (blk_cell Z101.out 3).trans rfl, (blk_cell Z102.out 0).trans rfl, (blk_cell Z102.out 1).trans rfl, (blk_cell Z102.out 2).trans rfl, (blk_cell Z102.out 3).trans rfl⟩ (fun hHeld => ?_)
              clear hK K
              refine norm_ (a' := ?_) ?_ ?_
              rotate_left
              ·show Act.put _ (some 8) _ = _
               simp only [Act.put, xset_a, xset_z, xset_s, i64_w, i32_w]
               rfl
              exact norm_ (by simp only [putAll, Act.put, xset_a, xset_z, xset_s] <;> rfl) (hJ7 (gb126) _ ⟨hHeld, (bk_ Z101.out), (bk_ Z102.out), (bk_ Z103.out), (bk_ Z126.out), GW126.out, GE126.out, NB101_126.out, NB126_101.out, NB102_126.out, NB126_102.out, NB103_126.out, NB126_103.out, (bl_ HB.out)⟩)
            ·skip
             rintro gb126 w35 ⟨hS_, h0_, h1_, h2_, h3_, h4_, h5_, h6_, h7_, h8_, h9_, h10_, h11_, h12_⟩
             have n0_ := Aside0.mk h0_
             have n1_ := Aside0.mk h1_
             have n2_ := Aside0.mk h2_
             have n3_ := Aside0.mk h3_
             have n4_ := Aside0.mk h4_
             have n5_ := Aside0.mk h5_
             have n6_ := Aside0.mk h6_
             have n7_ := Aside0.mk h7_
             have n8_ := Aside0.mk h8_
             have n9_ := Aside0.mk h9_
             have n10_ := Aside0.mk h10_
             have n11_ := Aside0.mk h11_
             have n12_ := Aside0.mk h12_
             clear Z101 Z102 Z103 HB
             clear h0_ h1_ h2_ h3_ h4_ h5_ h6_ h7_ h8_ h9_ h10_ h11_ h12_
             have Z101 := n0_; have Z102 := n1_; have Z103 := n2_; have Z126 := n3_; have GW126 := n4_; have GE126 := n5_; have NB101_126 := n6_; have NB126_101 := n7_; have NB102_126 := n8_; have NB126_102 := n9_; have NB103_126 := n10_; have NB126_103 := n11_; have HB := n12_
             clear n0_ n1_ n2_ n3_ n4_ n5_ n6_ n7_ n8_ n9_ n10_ n11_ n12_
             have hHeld : w35.cell? ⟨gb101, 0, none⟩ = some (.int .i64 t105) ∧ w35.cell? ⟨gb101, 1, none⟩ = some (.int .i64 t106) ∧ w35.cell? ⟨gb101, 2, none⟩ = some (.int .i64 t107) ∧ w35.cell? ⟨gb101, 3, none⟩ = some (.int .i64 t108) ∧ w35.cell? ⟨gb102, 0, none⟩ = some (.int .i64 t109) ∧ w35.cell? ⟨gb102, 1, none⟩ = some (.int .i64 t110) ∧ w35.cell? ⟨gb102, 2, none⟩ = some (.int .i64 t111) ∧ w35.cell? ⟨gb102, 3, none⟩ = some (.int .i64 t112) := hS_
             refine norm_ (a' := ?_) ?_ ?_
             rotate_left
             ·simp only [putAll, Act.put, xset_a, xset_z, xset_s]
              rfl
             refine two_ (i := 2) (j := 6) (Ni := some 19) (Nj := some 7) #[true, true, true, true, true, false, false, true, false, false] #[true, true, false, true, true, false, true, true, false, false] rfl rfl rfl rfl (two_of HT_.out (by kernel_rfl)) (by decide) (by decide) (fun K hK => ?_) (fun K hK => ?_)
             ·skip
              refine goes_ Tryd.func18 (by kernel_rfl) rfl #[.agg #[.int .i64 t105, .int .i64 t106, .int .i64 t107, .int .i64 t108], .agg #[.int .i64 t109, .int .i64 t110, .int .i64 t111, .int .i64 t112]] (by rfl) rfl rfl (by (try simp only [List.map_toArray, List.map_cons, List.map_nil]); first | done | rfl | (simp only [List.length_drop, List.length_take]; rfl)) ?_
              with_reducible refine (label_Join.calls t105 t106 t107 t108 t109 t110 t111 t112 t117 t118 t119 t120 _ A9.out).mono ?_
              rintro e w36 ⟨rfl, hb⟩
              refine ⟨_, rfl, ?_⟩
              have n0_ := bb_ Z101 hb
              have n1_ := bb_ Z102 hb
              have n2_ := bb_ Z103 hb
              have n3_ := bb_ Z126 hb
              have n4_ := Aside0.mk (below_step (bl_ HB.out) hb)
              clear Z101 Z102 Z103 Z126 HB
              have Z101 := n0_; have Z102 := n1_; have Z103 := n2_; have Z126 := n3_; have HB := n4_
              clear n0_ n1_ n2_ n3_ n4_
              (try clear hb)
              (try clear hb2)
              (try clear hk)
              (try clear hi)
              refine hK.out _ _ ⟨(blk_cell Z101.out 0).trans rfl, (blk_cell Z101.out 1).trans rfl, (blk_cell Z101.out 2).trans rfl, (blk_cell Z101.out 3).trans rfl, (blk_cell Z102.out 0).trans rfl, (blk_cell Z102.out 1).trans rfl, (blk_cell Z102.out 2).trans rfl, (blk_cell Z102.out 3).trans rfl⟩ (fun hHeld => ?_)
              clear hK K
              refine norm_ (a' := ?_) ?_ ?_
              rotate_left
              ·show Act.put _ (some 19) _ = _
               simp only [Act.put, xset_a, xset_z, xset_s, i64_w, i32_w]
               rfl
              exact norm_ (by simp only [putAll, Act.put, xset_a, xset_z, xset_s] <;> rfl) (hJ2_7 (gb126) _ ⟨hHeld, (bk_ Z101.out), (bk_ Z102.out), (bk_ Z103.out), (bk_ Z126.out), GW126.out, GE126.out, NB101_126.out, NB126_101.out, NB102_126.out, NB126_102.out, NB103_126.out, NB126_103.out, (bl_ HB.out)⟩)
             ·skip
              refine box_step ?hg (N := 7) ?hd (cs := #[.int .i64 0, .int .i64 0, .int .i64 0, .int .i64 0]) (t := 23) ?hr ?_; (case hd => rfl); (case hg => rfl); (case hr => first | (go_simp; done) | (go_simp; rfl))
              intro gb125 hg w36 hbox hb
              have n0_ := bb_ Z101 hb
              have n1_ := bb_ Z102 hb
              have n2_ := bb_ Z103 hb
              have n3_ := bb_ Z126 hb
              have n4_ := Aside0.mk (below_step (bl_ HB.out) hb)
              have n5_ := Aside0.mk (hbox)
              have n6_ := Aside0.mk ((by rw [hg]; exact (below_size (bl_ HB.out)) : w.heap.size ≤ gb125))
              have n7_ := Aside0.mk ((by rw [hg]; exact (below_size (bl_ HB.out)) : w.heap.size ≤ gb125))
              have n8_ := Aside0.mk ((by rw [hg]; exact Nat.ne_of_lt (blk_lt (g := gb101) (o := .cells #[.int .i64 t105, .int .i64 t106, .int .i64 t107, .int .i64 t108] 23 (0, 0)) (bk_ Z101.out)) : gb101 ≠ gb125))
              have n9_ := Aside0.mk ((by rw [hg]; exact Nat.ne_of_gt (blk_lt (g := gb101) (o := .cells #[.int .i64 t105, .int .i64 t106, .int .i64 t107, .int .i64 t108] 23 (0, 0)) (bk_ Z101.out)) : gb125 ≠ gb101))
              have n10_ := Aside0.mk ((by rw [hg]; exact Nat.ne_of_lt (blk_lt (g := gb102) (o := .cells #[.int .i64 t109, .int .i64 t110, .int .i64 t111, .int .i64 t112] 23 (0, 0)) (bk_ Z102.out)) : gb102 ≠ gb125))
              have n11_ := Aside0.mk ((by rw [hg]; exact Nat.ne_of_gt (blk_lt (g := gb102) (o := .cells #[.int .i64 t109, .int .i64 t110, .int .i64 t111, .int .i64 t112] 23 (0, 0)) (bk_ Z102.out)) : gb125 ≠ gb102))
              have n12_ := Aside0.mk ((by rw [hg]; exact Nat.ne_of_lt (blk_lt (g := gb103) (o := .cells #[.int .i64 t113, .int .i64 t114, .int .i64 t115, .int .i64 t116] 23 (0, 0)) (bk_ Z103.out)) : gb103 ≠ gb125))
              have n13_ := Aside0.mk ((by rw [hg]; exact Nat.ne_of_gt (blk_lt (g := gb103) (o := .cells #[.int .i64 t113, .int .i64 t114, .int .i64 t115, .int .i64 t116] 23 (0, 0)) (bk_ Z103.out)) : gb125 ≠ gb103))
              have n14_ := Aside0.mk ((by rw [hg]; exact Nat.ne_of_lt (blk_lt (g := gb126) (o := .cells #[.int .i64 0, .int .i64 0, .int .i64 0, .int .i64 0] 23 (0, 0)) (bk_ Z126.out)) : gb126 ≠ gb125))
              have n15_ := Aside0.mk ((by rw [hg]; exact Nat.ne_of_gt (blk_lt (g := gb126) (o := .cells #[.int .i64 0, .int .i64 0, .int .i64 0, .int .i64 0] 23 (0, 0)) (bk_ Z126.out)) : gb125 ≠ gb126))
              clear Z101 Z102 Z103 Z126 HB
              have Z101 := n0_; have Z102 := n1_; have Z103 := n2_; have Z126 := n3_; have HB := n4_; have Z125 := n5_; have GW125 := n6_; have GE125 := n7_; have NB101_125 := n8_; have NB125_101 := n9_; have NB102_125 := n10_; have NB125_102 := n11_; have NB103_125 := n12_; have NB125_103 := n13_; have NB126_125 := n14_; have NB125_126 := n15_
              clear n0_ n1_ n2_ n3_ n4_ n5_ n6_ n7_ n8_ n9_ n10_ n11_ n12_ n13_ n14_ n15_
              clear hb hbox hg
              refine hK.out _ _ ⟨(blk_cell Z101.out 0).trans rfl, (blk_cell Z101.out 1).trans rfl, (blk_cell Z101.out 2).trans rfl, (blk_cell Z101.out 3).trans rfl, (blk_cell Z102.out 0).trans rfl, (blk_cell Z102.out 1).trans rfl, (blk_cell Z102.out 2).trans rfl, (blk_cell Z102.out 3).trans rfl⟩ (fun hHeld => ?_)
              clear hK K
              refine norm_ (a' := ?_) ?_ ?_
              rotate_left
              ·show Act.put _ (some 7) _ = _
               simp only [Act.put, xset_a, xset_z, xset_s, i64_w, i32_w]
               rfl
              exact norm_ (by simp only [putAll, Act.put, xset_a, xset_z, xset_s] <;> rfl) (hJ6_7 (gb125, gb126) _ ⟨hHeld, (bk_ Z101.out), (bk_ Z102.out), (bk_ Z103.out), (bk_ Z125.out), (bk_ Z126.out), GW125.out, GE125.out, NB101_125.out, NB125_101.out, NB102_125.out, NB125_102.out, NB103_125.out, NB125_103.out, NB126_125.out, NB125_126.out, GW126.out, GE126.out, NB101_126.out, NB126_101.out, NB102_126.out, NB126_102.out, NB103_126.out, NB126_103.out, (bl_ HB.out)⟩)
           ·skip
            rintro gb125 w35 ⟨hS_, h0_, h1_, h2_, h3_, h4_, h5_, h6_, h7_, h8_, h9_, h10_, h11_, h12_⟩
            have n0_ := Aside0.mk h0_
            have n1_ := Aside0.mk h1_
            have n2_ := Aside0.mk h2_
            have n3_ := Aside0.mk h3_
            have n4_ := Aside0.mk h4_
            have n5_ := Aside0.mk h5_
            have n6_ := Aside0.mk h6_
            have n7_ := Aside0.mk h7_
            have n8_ := Aside0.mk h8_
            have n9_ := Aside0.mk h9_
            have n10_ := Aside0.mk h10_
            have n11_ := Aside0.mk h11_
            have n12_ := Aside0.mk h12_
            clear Z101 Z102 Z103 HB
            clear h0_ h1_ h2_ h3_ h4_ h5_ h6_ h7_ h8_ h9_ h10_ h11_ h12_
            have Z101 := n0_; have Z102 := n1_; have Z103 := n2_; have Z125 := n3_; have GW125 := n4_; have GE125 := n5_; have NB101_125 := n6_; have NB125_101 := n7_; have NB102_125 := n8_; have NB125_102 := n9_; have NB103_125 := n10_; have NB125_103 := n11_; have HB := n12_
            clear n0_ n1_ n2_ n3_ n4_ n5_ n6_ n7_ n8_ n9_ n10_ n11_ n12_
            have hHeld : w35.cell? ⟨gb101, 0, none⟩ = some (.int .i64 t105) ∧ w35.cell? ⟨gb101, 1, none⟩ = some (.int .i64 t106) ∧ w35.cell? ⟨gb101, 2, none⟩ = some (.int .i64 t107) ∧ w35.cell? ⟨gb101, 3, none⟩ = some (.int .i64 t108) ∧ w35.cell? ⟨gb102, 0, none⟩ = some (.int .i64 t109) ∧ w35.cell? ⟨gb102, 1, none⟩ = some (.int .i64 t110) ∧ w35.cell? ⟨gb102, 2, none⟩ = some (.int .i64 t111) ∧ w35.cell? ⟨gb102, 3, none⟩ = some (.int .i64 t112) := hS_
            refine norm_ (a' := ?_) ?_ ?_
            rotate_left
            ·simp only [putAll, Act.put, xset_a, xset_z, xset_s]
             rfl
            refine two_ (i := 2) (j := 7) (Ni := some 19) (Nj := some 8) #[true, true, true, true, true, false, true, false, false, false] #[true, true, false, true, true, false, true, true, false, false] rfl rfl rfl rfl (two_of HT_.out (by kernel_rfl)) (by decide) (by decide) (fun K hK => ?_) (fun K hK => ?_)
            ·skip
             refine goes_ Tryd.func18 (by kernel_rfl) rfl #[.agg #[.int .i64 t105, .int .i64 t106, .int .i64 t107, .int .i64 t108], .agg #[.int .i64 t109, .int .i64 t110, .int .i64 t111, .int .i64 t112]] (by rfl) rfl rfl (by (try simp only [List.map_toArray, List.map_cons, List.map_nil]); first | done | rfl | (simp only [List.length_drop, List.length_take]; rfl)) ?_
             with_reducible refine (label_Join.calls t105 t106 t107 t108 t109 t110 t111 t112 t117 t118 t119 t120 _ A9.out).mono ?_
             rintro e w36 ⟨rfl, hb⟩
             refine ⟨_, rfl, ?_⟩
             have n0_ := bb_ Z101 hb
             have n1_ := bb_ Z102 hb
             have n2_ := bb_ Z103 hb
             have n3_ := bb_ Z125 hb
             have n4_ := Aside0.mk (below_step (bl_ HB.out) hb)
             clear Z101 Z102 Z103 Z125 HB
             have Z101 := n0_; have Z102 := n1_; have Z103 := n2_; have Z125 := n3_; have HB := n4_
             clear n0_ n1_ n2_ n3_ n4_
             (try clear hb)
             (try clear hb2)
             (try clear hk)
             (try clear hi)
             refine hK.out _ _ ⟨(blk_cell Z101.out 0).trans rfl, (blk_cell Z101.out 1).trans rfl, (blk_cell Z101.out 2).trans rfl, (blk_cell Z101.out 3).trans rfl, (blk_cell Z102.out 0).trans rfl, (blk_cell Z102.out 1).trans rfl, (blk_cell Z102.out 2).trans rfl, (blk_cell Z102.out 3).trans rfl⟩ (fun hHeld => ?_)
             clear hK K
             refine norm_ (a' := ?_) ?_ ?_
             rotate_left
             ·show Act.put _ (some 19) _ = _
              simp only [Act.put, xset_a, xset_z, xset_s, i64_w, i32_w]
              rfl
             exact norm_ (by simp only [putAll, Act.put, xset_a, xset_z, xset_s] <;> rfl) (hJ2_6 (gb125) _ ⟨hHeld, (bk_ Z101.out), (bk_ Z102.out), (bk_ Z103.out), (bk_ Z125.out), GW125.out, GE125.out, NB101_125.out, NB125_101.out, NB102_125.out, NB125_102.out, NB103_125.out, NB125_103.out, (bl_ HB.out)⟩)
            ·skip
             refine box_step ?hg (N := 8) ?hd (cs := #[.int .i64 0, .int .i64 0, .int .i64 0, .int .i64 0]) (t := 23) ?hr ?_; (case hd => rfl); (case hg => rfl); (case hr => first | (go_simp; done) | (go_simp; rfl))
             intro gb126 hg w36 hbox hb
             have n0_ := bb_ Z101 hb
             have n1_ := bb_ Z102 hb
             have n2_ := bb_ Z103 hb
             have n3_ := bb_ Z125 hb
             have n4_ := Aside0.mk (below_step (bl_ HB.out) hb)
             have n5_ := Aside0.mk (hbox)
             have n6_ := Aside0.mk ((by rw [hg]; exact (below_size (bl_ HB.out)) : w.heap.size ≤ gb126))
             have n7_ := Aside0.mk ((by rw [hg]; exact (below_size (bl_ HB.out)) : w.heap.size ≤ gb126))
             have n8_ := Aside0.mk ((by rw [hg]; exact Nat.ne_of_lt (blk_lt (g := gb101) (o := .cells #[.int .i64 t105, .int .i64 t106, .int .i64 t107, .int .i64 t108] 23 (0, 0)) (bk_ Z101.out)) : gb101 ≠ gb126))
             have n9_ := Aside0.mk ((by rw [hg]; exact Nat.ne_of_gt (blk_lt (g := gb101) (o := .cells #[.int .i64 t105, .int .i64 t106, .int .i64 t107, .int .i64 t108] 23 (0, 0)) (bk_ Z101.out)) : gb126 ≠ gb101))
             have n10_ := Aside0.mk ((by rw [hg]; exact Nat.ne_of_lt (blk_lt (g := gb102) (o := .cells #[.int .i64 t109, .int .i64 t110, .int .i64 t111, .int .i64 t112] 23 (0, 0)) (bk_ Z102.out)) : gb102 ≠ gb126))
             have n11_ := Aside0.mk ((by rw [hg]; exact Nat.ne_of_gt (blk_lt (g := gb102) (o := .cells #[.int .i64 t109, .int .i64 t110, .int .i64 t111, .int .i64 t112] 23 (0, 0)) (bk_ Z102.out)) : gb126 ≠ gb102))
             have n12_ := Aside0.mk ((by rw [hg]; exact Nat.ne_of_lt (blk_lt (g := gb103) (o := .cells #[.int .i64 t113, .int .i64 t114, .int .i64 t115, .int .i64 t116] 23 (0, 0)) (bk_ Z103.out)) : gb103 ≠ gb126))
             have n13_ := Aside0.mk ((by rw [hg]; exact Nat.ne_of_gt (blk_lt (g := gb103) (o := .cells #[.int .i64 t113, .int .i64 t114, .int .i64 t115, .int .i64 t116] 23 (0, 0)) (bk_ Z103.out)) : gb126 ≠ gb103))
             have n14_ := Aside0.mk ((by rw [hg]; exact Nat.ne_of_lt (blk_lt (g := gb125) (o := .cells #[.int .i64 0, .int .i64 0, .int .i64 0, .int .i64 0] 23 (0, 0)) (bk_ Z125.out)) : gb125 ≠ gb126))
             have n15_ := Aside0.mk ((by rw [hg]; exact Nat.ne_of_gt (blk_lt (g := gb125) (o := .cells #[.int .i64 0, .int .i64 0, .int .i64 0, .int .i64 0] 23 (0, 0)) (bk_ Z125.out)) : gb126 ≠ gb125))
             clear Z101 Z102 Z103 Z125 HB
             have Z101 := n0_; have Z102 := n1_; have Z103 := n2_; have Z125 := n3_; have HB := n4_; have Z126 := n5_; have GW126 := n6_; have GE126 := n7_; have NB101_126 := n8_; have NB126_101 := n9_; have NB102_126 := n10_; have NB126_102 := n11_; have NB103_126 := n12_; have NB126_103 := n13_; have NB125_126 := n14_; have NB126_125 := n15_
             clear n0_ n1_ n2_ n3_ n4_ n5_ n6_ n7_ n8_ n9_ n10_ n11_ n12_ n13_ n14_ n15_
             clear hb hbox hg
             refine hK.out _ _ ⟨(blk_cell Z101.out 0).trans rfl, (blk_cell Z101.out 1).trans rfl, (blk_cell Z101.out 2).trans rfl, (blk_cell Z101.out 3).trans rfl, (blk_cell Z102.out 0).trans rfl, (blk_cell Z102.out 1).trans rfl, (blk_cell Z102.out 2).trans rfl, (blk_cell Z102.out 3).trans rfl⟩ (fun hHeld => ?_)
             clear hK K
             refine norm_ (a' := ?_) ?_ ?_
             rotate_left
             ·show Act.put _ (some 8) _ = _
              simp only [Act.put, xset_a, xset_z, xset_s, i64_w, i32_w]
              rfl
             exact norm_ (by simp only [putAll, Act.put, xset_a, xset_z, xset_s] <;> rfl) (hJ6_7 (gb125, gb126) _ ⟨hHeld, (bk_ Z101.out), (bk_ Z102.out), (bk_ Z103.out), (bk_ Z125.out), (bk_ Z126.out), GW125.out, GE125.out, NB101_125.out, NB125_101.out, NB102_125.out, NB125_102.out, NB103_125.out, NB125_103.out, NB126_125.out, NB125_126.out, GW126.out, GE126.out, NB101_126.out, NB126_101.out, NB102_126.out, NB126_102.out, NB103_126.out, NB126_103.out, (bl_ HB.out)⟩)
          ·skip
           rintro _ w35 ⟨hS_, h0_, h1_, h2_, h3_⟩
           have n0_ := Aside0.mk h0_
           have n1_ := Aside0.mk h1_
           have n2_ := Aside0.mk h2_
           have n3_ := Aside0.mk h3_
           clear Z101 Z102 Z103 HB
           clear h0_ h1_ h2_ h3_
           have Z101 := n0_; have Z102 := n1_; have Z103 := n2_; have HB := n3_
           clear n0_ n1_ n2_ n3_
           have hHeld : w35.cell? ⟨gb101, 0, none⟩ = some (.int .i64 t105) ∧ w35.cell? ⟨gb101, 1, none⟩ = some (.int .i64 t106) ∧ w35.cell? ⟨gb101, 2, none⟩ = some (.int .i64 t107) ∧ w35.cell? ⟨gb101, 3, none⟩ = some (.int .i64 t108) ∧ w35.cell? ⟨gb102, 0, none⟩ = some (.int .i64 t109) ∧ w35.cell? ⟨gb102, 1, none⟩ = some (.int .i64 t110) ∧ w35.cell? ⟨gb102, 2, none⟩ = some (.int .i64 t111) ∧ w35.cell? ⟨gb102, 3, none⟩ = some (.int .i64 t112) := hS_
           refine norm_ (a' := ?_) ?_ ?_
           rotate_left
           ·simp only [putAll, Act.put, xset_a, xset_z, xset_s]
            rfl
           refine three_ (i := 5) (j := 6) (k := 7) (Ni := some 22) (Nj := some 7) (Nk := some 8) #[true, true, true, true, true, true, false, false, false, false] #[true, true, true, true, true, false, true, false, false, false] #[true, true, true, true, true, false, false, true, false, false] rfl rfl rfl rfl rfl rfl (three_of HT_.out (by kernel_rfl)) (by decide) (by decide) (by decide) (fun K hK => ?_) (fun K hK => ?_) (fun K hK => ?_)
           ·skip
            refine goes_ Tryd.func19 (by kernel_rfl) rfl #[.agg #[.int .i64 t105, .int .i64 t106, .int .i64 t107, .int .i64 t108], .agg #[.int .i64 t109, .int .i64 t110, .int .i64 t111, .int .i64 t112]] (by rfl) rfl rfl (by (try simp only [List.map_toArray, List.map_cons, List.map_nil]); first | done | rfl | (simp only [List.length_drop, List.length_take]; rfl)) ?_
            with_reducible refine (label_Meet.calls t105 t106 t107 t108 t109 t110 t111 t112 t121 t122 t123 t124 _ A10.out).mono ?_
            rintro e w36 ⟨rfl, hb⟩
            refine ⟨_, rfl, ?_⟩
            have n0_ := bb_ Z101 hb
            have n1_ := bb_ Z102 hb
            have n2_ := bb_ Z103 hb
            have n3_ := Aside0.mk (below_step (bl_ HB.out) hb)
            clear Z101 Z102 Z103 HB
            have Z101 := n0_; have Z102 := n1_; have Z103 := n2_; have HB := n3_
            clear n0_ n1_ n2_ n3_
            (try clear hb)
            (try clear hb2)
            (try clear hk)
            (try clear hi)
            refine hK.out _ _ ⟨(blk_cell Z101.out 0).trans rfl, (blk_cell Z101.out 1).trans rfl, (blk_cell Z101.out 2).trans rfl, (blk_cell Z101.out 3).trans rfl, (blk_cell Z102.out 0).trans rfl, (blk_cell Z102.out 1).trans rfl, (blk_cell Z102.out 2).trans rfl, (blk_cell Z102.out 3).trans rfl⟩ (fun hHeld => ?_)
            clear hK K
            refine norm_ (a' := ?_) ?_ ?_
            rotate_left
            ·show Act.put _ (some 22) _ = _
             simp only [Act.put, xset_a, xset_z, xset_s, i64_w, i32_w]
             rfl
            exact norm_ (by simp only [putAll, Act.put, xset_a, xset_z, xset_s] <;> rfl) (hJ2_5 () _ ⟨hHeld, (bk_ Z101.out), (bk_ Z102.out), (bk_ Z103.out), (bl_ HB.out)⟩)
           ·skip
            refine box_step ?hg (N := 7) ?hd (cs := #[.int .i64 0, .int .i64 0, .int .i64 0, .int .i64 0]) (t := 23) ?hr ?_; (case hd => rfl); (case hg => rfl); (case hr => first | (go_simp; done) | (go_simp; rfl))
            intro gb125 hg w36 hbox hb
            have n0_ := bb_ Z101 hb
            have n1_ := bb_ Z102 hb
            have n2_ := bb_ Z103 hb
            have n3_ := Aside0.mk (below_step (bl_ HB.out) hb)
            have n4_ := Aside0.mk (hbox)
            have n5_ := Aside0.mk ((by rw [hg]; exact (below_size (bl_ HB.out)) : w.heap.size ≤ gb125))
            have n6_ := Aside0.mk ((by rw [hg]; exact (below_size (bl_ HB.out)) : w.heap.size ≤ gb125))
            have n7_ := Aside0.mk ((by rw [hg]; exact Nat.ne_of_lt (blk_lt (g := gb101) (o := .cells #[.int .i64 t105, .int .i64 t106, .int .i64 t107, .int .i64 t108] 23 (0, 0)) (bk_ Z101.out)) : gb101 ≠ gb125))
            have n8_ := Aside0.mk ((by rw [hg]; exact Nat.ne_of_gt (blk_lt (g := gb101) (o := .cells #[.int .i64 t105, .int .i64 t106, .int .i64 t107, .int .i64 t108] 23 (0, 0)) (bk_ Z101.out)) : gb125 ≠ gb101))
            have n9_ := Aside0.mk ((by rw [hg]; exact Nat.ne_of_lt (blk_lt (g := gb102) (o := .cells #[.int .i64 t109, .int .i64 t110, .int .i64 t111, .int .i64 t112] 23 (0, 0)) (bk_ Z102.out)) : gb102 ≠ gb125))
            have n10_ := Aside0.mk ((by rw [hg]; exact Nat.ne_of_gt (blk_lt (g := gb102) (o := .cells #[.int .i64 t109, .int .i64 t110, .int .i64 t111, .int .i64 t112] 23 (0, 0)) (bk_ Z102.out)) : gb125 ≠ gb102))
            have n11_ := Aside0.mk ((by rw [hg]; exact Nat.ne_of_lt (blk_lt (g := gb103) (o := .cells #[.int .i64 t113, .int .i64 t114, .int .i64 t115, .int .i64 t116] 23 (0, 0)) (bk_ Z103.out)) : gb103 ≠ gb125))
            have n12_ := Aside0.mk ((by rw [hg]; exact Nat.ne_of_gt (blk_lt (g := gb103) (o := .cells #[.int .i64 t113, .int .i64 t114, .int .i64 t115, .int .i64 t116] 23 (0, 0)) (bk_ Z103.out)) : gb125 ≠ gb103))
            clear Z101 Z102 Z103 HB
            have Z101 := n0_; have Z102 := n1_; have Z103 := n2_; have HB := n3_; have Z125 := n4_; have GW125 := n5_; have GE125 := n6_; have NB101_125 := n7_; have NB125_101 := n8_; have NB102_125 := n9_; have NB125_102 := n10_; have NB103_125 := n11_; have NB125_103 := n12_
            clear n0_ n1_ n2_ n3_ n4_ n5_ n6_ n7_ n8_ n9_ n10_ n11_ n12_
            clear hb hbox hg
            refine hK.out _ _ ⟨(blk_cell Z101.out 0).trans rfl, (blk_cell Z101.out 1).trans rfl, (blk_cell Z101.out 2).trans rfl, (blk_cell Z101.out 3).trans rfl, (blk_cell Z102.out 0).trans rfl, (blk_cell Z102.out 1).trans rfl, (blk_cell Z102.out 2).trans rfl, (blk_cell Z102.out 3).trans rfl⟩ (fun hHeld => ?_)
            clear hK K
            refine norm_ (a' := ?_) ?_ ?_
            rotate_left
            ·show Act.put _ (some 7) _ = _
             simp only [Act.put, xset_a, xset_z, xset_s, i64_w, i32_w]
             rfl
            exact norm_ (by simp only [putAll, Act.put, xset_a, xset_z, xset_s] <;> rfl) (hJ2_6 (gb125) _ ⟨hHeld, (bk_ Z101.out), (bk_ Z102.out), (bk_ Z103.out), (bk_ Z125.out), GW125.out, GE125.out, NB101_125.out, NB125_101.out, NB102_125.out, NB125_102.out, NB103_125.out, NB125_103.out, (bl_ HB.out)⟩)
           ·skip
            refine box_step ?hg (N := 8) ?hd (cs := #[.int .i64 0, .int .i64 0, .int .i64 0, .int .i64 0]) (t := 23) ?hr ?_; (case hd => rfl); (case hg => rfl); (case hr => first | (go_simp; done) | (go_simp; rfl))
            intro gb126 hg w36 hbox hb
            have n0_ := bb_ Z101 hb
            have n1_ := bb_ Z102 hb
            have n2_ := bb_ Z103 hb
            have n3_ := Aside0.mk (below_step (bl_ HB.out) hb)
            have n4_ := Aside0.mk (hbox)
            have n5_ := Aside0.mk ((by rw [hg]; exact (below_size (bl_ HB.out)) : w.heap.size ≤ gb126))
            have n6_ := Aside0.mk ((by rw [hg]; exact (below_size (bl_ HB.out)) : w.heap.size ≤ gb126))
            have n7_ := Aside0.mk ((by rw [hg]; exact Nat.ne_of_lt (blk_lt (g := gb101) (o := .cells #[.int .i64 t105, .int .i64 t106, .int .i64 t107, .int .i64 t108] 23 (0, 0)) (bk_ Z101.out)) : gb101 ≠ gb126))
            have n8_ := Aside0.mk ((by rw [hg]; exact Nat.ne_of_gt (blk_lt (g := gb101) (o := .cells #[.int .i64 t105, .int .i64 t106, .int .i64 t107, .int .i64 t108] 23 (0, 0)) (bk_ Z101.out)) : gb126 ≠ gb101))
            have n9_ := Aside0.mk ((by rw [hg]; exact Nat.ne_of_lt (blk_lt (g := gb102) (o := .cells #[.int .i64 t109, .int .i64 t110, .int .i64 t111, .int .i64 t112] 23 (0, 0)) (bk_ Z102.out)) : gb102 ≠ gb126))
            have n10_ := Aside0.mk ((by rw [hg]; exact Nat.ne_of_gt (blk_lt (g := gb102) (o := .cells #[.int .i64 t109, .int .i64 t110, .int .i64 t111, .int .i64 t112] 23 (0, 0)) (bk_ Z102.out)) : gb126 ≠ gb102))
            have n11_ := Aside0.mk ((by rw [hg]; exact Nat.ne_of_lt (blk_lt (g := gb103) (o := .cells #[.int .i64 t113, .int .i64 t114, .int .i64 t115, .int .i64 t116] 23 (0, 0)) (bk_ Z103.out)) : gb103 ≠ gb126))
            have n12_ := Aside0.mk ((by rw [hg]; exact Nat.ne_of_gt (blk_lt (g := gb103) (o := .cells #[.int .i64 t113, .int .i64 t114, .int .i64 t115, .int .i64 t116] 23 (0, 0)) (bk_ Z103.out)) : gb126 ≠ gb103))
            clear Z101 Z102 Z103 HB
            have Z101 := n0_; have Z102 := n1_; have Z103 := n2_; have HB := n3_; have Z126 := n4_; have GW126 := n5_; have GE126 := n6_; have NB101_126 := n7_; have NB126_101 := n8_; have NB102_126 := n9_; have NB126_102 := n10_; have NB103_126 := n11_; have NB126_103 := n12_
            clear n0_ n1_ n2_ n3_ n4_ n5_ n6_ n7_ n8_ n9_ n10_ n11_ n12_
            clear hb hbox hg
            refine hK.out _ _ ⟨(blk_cell Z101.out 0).trans rfl, (blk_cell Z101.out 1).trans rfl, (blk_cell Z101.out 2).trans rfl, (blk_cell Z101.out 3).trans rfl, (blk_cell Z102.out 0).trans rfl, (blk_cell Z102.out 1).trans rfl, (blk_cell Z102.out 2).trans rfl, (blk_cell Z102.out 3).trans rfl⟩ (fun hHeld => ?_)
            clear hK K
            refine norm_ (a' := ?_) ?_ ?_
            rotate_left
            ·show Act.put _ (some 8) _ = _
             simp only [Act.put, xset_a, xset_z, xset_s, i64_w, i32_w]
             rfl
            exact norm_ (by simp only [putAll, Act.put, xset_a, xset_z, xset_s] <;> rfl) (hJ2_7 (gb126) _ ⟨hHeld, (bk_ Z101.out), (bk_ Z102.out), (bk_ Z103.out), (bk_ Z126.out), GW126.out, GE126.out, NB101_126.out, NB126_101.out, NB102_126.out, NB126_102.out, NB103_126.out, NB126_103.out, (bl_ HB.out)⟩)
         ·skip
          rintro ⟨gb125, gb126⟩ w36 ⟨hS_, h0_, h1_, h2_, h3_, h4_, h5_, h6_, h7_, h8_, h9_, h10_, h11_, h12_, h13_, h14_, h15_, h16_, h17_, h18_, h19_, h20_, h21_, h22_, h23_⟩
          have n0_ := Aside0.mk h0_
          have n1_ := Aside0.mk h1_
          have n2_ := Aside0.mk h2_
          have n3_ := Aside0.mk h3_
          have n4_ := Aside0.mk h4_
          have n5_ := Aside0.mk h5_
          have n6_ := Aside0.mk h6_
          have n7_ := Aside0.mk h7_
          have n8_ := Aside0.mk h8_
          have n9_ := Aside0.mk h9_
          have n10_ := Aside0.mk h10_
          have n11_ := Aside0.mk h11_
          have n12_ := Aside0.mk h12_
          have n13_ := Aside0.mk h13_
          have n14_ := Aside0.mk h14_
          have n15_ := Aside0.mk h15_
          have n16_ := Aside0.mk h16_
          have n17_ := Aside0.mk h17_
          have n18_ := Aside0.mk h18_
          have n19_ := Aside0.mk h19_
          have n20_ := Aside0.mk h20_
          have n21_ := Aside0.mk h21_
          have n22_ := Aside0.mk h22_
          have n23_ := Aside0.mk h23_
          clear Z101 Z102 Z103 HB
          clear h0_ h1_ h2_ h3_ h4_ h5_ h6_ h7_ h8_ h9_ h10_ h11_ h12_ h13_ h14_ h15_ h16_ h17_ h18_ h19_ h20_ h21_ h22_ h23_
          have Z101 := n0_; have Z102 := n1_; have Z103 := n2_; have Z125 := n3_; have Z126 := n4_; have GW125 := n5_; have GE125 := n6_; have NB101_125 := n7_; have NB125_101 := n8_; have NB102_125 := n9_; have NB125_102 := n10_; have NB103_125 := n11_; have NB125_103 := n12_; have NB126_125 := n13_; have NB125_126 := n14_; have GW126 := n15_; have GE126 := n16_; have NB101_126 := n17_; have NB126_101 := n18_; have NB102_126 := n19_; have NB126_102 := n20_; have NB103_126 := n21_; have NB126_103 := n22_; have HB := n23_
          clear n0_ n1_ n2_ n3_ n4_ n5_ n6_ n7_ n8_ n9_ n10_ n11_ n12_ n13_ n14_ n15_ n16_ n17_ n18_ n19_ n20_ n21_ n22_ n23_
          have hHeld : w36.cell? ⟨gb101, 0, none⟩ = some (.int .i64 t105) ∧ w36.cell? ⟨gb101, 1, none⟩ = some (.int .i64 t106) ∧ w36.cell? ⟨gb101, 2, none⟩ = some (.int .i64 t107) ∧ w36.cell? ⟨gb101, 3, none⟩ = some (.int .i64 t108) ∧ w36.cell? ⟨gb102, 0, none⟩ = some (.int .i64 t109) ∧ w36.cell? ⟨gb102, 1, none⟩ = some (.int .i64 t110) ∧ w36.cell? ⟨gb102, 2, none⟩ = some (.int .i64 t111) ∧ w36.cell? ⟨gb102, 3, none⟩ = some (.int .i64 t112) := hS_
          refine norm_ (a' := ?_) ?_ ?_
          rotate_left
          ·simp only [putAll, Act.put, xset_a, xset_z, xset_s]
           rfl
          refine one_ (i := 2) (N := some 19) #[true, true, true, true, true, false, true, true, false, false] rfl rfl (one_of HT_.out (by kernel_rfl)) (by decide) (fun K hK => ?_)
          refine goes_ Tryd.func18 (by kernel_rfl) rfl #[.agg #[.int .i64 t105, .int .i64 t106, .int .i64 t107, .int .i64 t108], .agg #[.int .i64 t109, .int .i64 t110, .int .i64 t111, .int .i64 t112]] (by rfl) rfl rfl (by (try simp only [List.map_toArray, List.map_cons, List.map_nil]); first | done | rfl | (simp only [List.length_drop, List.length_take]; rfl)) ?_
          with_reducible refine (label_Join.calls t105 t106 t107 t108 t109 t110 t111 t112 t117 t118 t119 t120 _ A9.out).mono ?_
          rintro e w37 ⟨rfl, hb⟩
          refine ⟨_, rfl, ?_⟩
          have n0_ := bb_ Z101 hb
          have n1_ := bb_ Z102 hb
          have n2_ := bb_ Z103 hb
          have n3_ := bb_ Z125 hb
          have n4_ := bb_ Z126 hb
          have n5_ := Aside0.mk (below_step (bl_ HB.out) hb)
          clear Z101 Z102 Z103 Z125 Z126 HB
          have Z101 := n0_; have Z102 := n1_; have Z103 := n2_; have Z125 := n3_; have Z126 := n4_; have HB := n5_
          clear n0_ n1_ n2_ n3_ n4_ n5_
          (try clear hb)
          (try clear hb2)
          (try clear hk)
          (try clear hi)
          refine hK.out _ _ ⟨(blk_cell Z101.out 0).trans rfl, (blk_cell Z101.out 1).trans rfl, (blk_cell Z101.out 2).trans rfl, (blk_cell Z101.out 3).trans rfl, (blk_cell Z102.out 0).trans rfl, (blk_cell Z102.out 1).trans rfl, (blk_cell Z102.out 2).trans rfl, (blk_cell Z102.out 3).trans rfl⟩ (fun hHeld => ?_)
          clear hK K
          refine norm_ (a' := ?_) ?_ ?_
          rotate_left
          ·show Act.put _ (some 19) _ = _
           simp only [Act.put, xset_a, xset_z, xset_s, i64_w, i32_w]
           rfl
          exact norm_ (by simp only [putAll, Act.put, xset_a, xset_z, xset_s] <;> rfl) (hJ2_6_7 (gb125, gb126) _ ⟨hHeld, (bk_ Z101.out), (bk_ Z102.out), (bk_ Z103.out), (bk_ Z125.out), (bk_ Z126.out), GW125.out, GE125.out, NB101_125.out, NB125_101.out, NB102_125.out, NB125_102.out, NB103_125.out, NB125_103.out, NB126_125.out, NB125_126.out, GW126.out, GE126.out, NB101_126.out, NB126_101.out, NB102_126.out, NB126_102.out, NB103_126.out, NB126_103.out, (bl_ HB.out)⟩)
        ·skip
         rintro gb126 w36 ⟨hS_, h0_, h1_, h2_, h3_, h4_, h5_, h6_, h7_, h8_, h9_, h10_, h11_, h12_⟩
         have n0_ := Aside0.mk h0_
         have n1_ := Aside0.mk h1_
         have n2_ := Aside0.mk h2_
         have n3_ := Aside0.mk h3_
         have n4_ := Aside0.mk h4_
         have n5_ := Aside0.mk h5_
         have n6_ := Aside0.mk h6_
         have n7_ := Aside0.mk h7_
         have n8_ := Aside0.mk h8_
         have n9_ := Aside0.mk h9_
         have n10_ := Aside0.mk h10_
         have n11_ := Aside0.mk h11_
         have n12_ := Aside0.mk h12_
         clear Z101 Z102 Z103 HB
         clear h0_ h1_ h2_ h3_ h4_ h5_ h6_ h7_ h8_ h9_ h10_ h11_ h12_
         have Z101 := n0_; have Z102 := n1_; have Z103 := n2_; have Z126 := n3_; have GW126 := n4_; have GE126 := n5_; have NB101_126 := n6_; have NB126_101 := n7_; have NB102_126 := n8_; have NB126_102 := n9_; have NB103_126 := n10_; have NB126_103 := n11_; have HB := n12_
         clear n0_ n1_ n2_ n3_ n4_ n5_ n6_ n7_ n8_ n9_ n10_ n11_ n12_
         have hHeld : w36.cell? ⟨gb101, 0, none⟩ = some (.int .i64 t105) ∧ w36.cell? ⟨gb101, 1, none⟩ = some (.int .i64 t106) ∧ w36.cell? ⟨gb101, 2, none⟩ = some (.int .i64 t107) ∧ w36.cell? ⟨gb101, 3, none⟩ = some (.int .i64 t108) ∧ w36.cell? ⟨gb102, 0, none⟩ = some (.int .i64 t109) ∧ w36.cell? ⟨gb102, 1, none⟩ = some (.int .i64 t110) ∧ w36.cell? ⟨gb102, 2, none⟩ = some (.int .i64 t111) ∧ w36.cell? ⟨gb102, 3, none⟩ = some (.int .i64 t112) := hS_
         refine norm_ (a' := ?_) ?_ ?_
         rotate_left
         ·simp only [putAll, Act.put, xset_a, xset_z, xset_s]
          rfl
         refine two_ (i := 5) (j := 6) (Ni := some 22) (Nj := some 7) #[true, true, true, true, true, true, false, true, false, false] #[true, true, true, true, true, false, true, true, false, false] rfl rfl rfl rfl (two_of HT_.out (by kernel_rfl)) (by decide) (by decide) (fun K hK => ?_) (fun K hK => ?_)
         ·skip
          refine goes_ Tryd.func19 (by kernel_rfl) rfl #[.agg #[.int .i64 t105, .int .i64 t106, .int .i64 t107, .int .i64 t108], .agg #[.int .i64 t109, .int .i64 t110, .int .i64 t111, .int .i64 t112]] (by rfl) rfl rfl (by (try simp only [List.map_toArray, List.map_cons, List.map_nil]); first | done | rfl | (simp only [List.length_drop, List.length_take]; rfl)) ?_
          with_reducible refine (label_Meet.calls t105 t106 t107 t108 t109 t110 t111 t112 t121 t122 t123 t124 _ A10.out).mono ?_
          rintro e w37 ⟨rfl, hb⟩
          refine ⟨_, rfl, ?_⟩
          have n0_ := bb_ Z101 hb
          have n1_ := bb_ Z102 hb
          have n2_ := bb_ Z103 hb
          have n3_ := bb_ Z126 hb
          have n4_ := Aside0.mk (below_step (bl_ HB.out) hb)
          clear Z101 Z102 Z103 Z126 HB
          have Z101 := n0_; have Z102 := n1_; have Z103 := n2_; have Z126 := n3_; have HB := n4_
          clear n0_ n1_ n2_ n3_ n4_
          (try clear hb)
          (try clear hb2)
          (try clear hk)
          (try clear hi)
          refine hK.out _ _ ⟨(blk_cell Z101.out 0).trans rfl, (blk_cell Z101.out 1).trans rfl, (blk_cell Z101.out 2).trans rfl, (blk_cell Z101.out 3).trans rfl, (blk_cell Z102.out 0).trans rfl, (blk_cell Z102.out 1).trans rfl, (blk_cell Z102.out 2).trans rfl, (blk_cell Z102.out 3).trans rfl⟩ (fun hHeld => ?_)
          clear hK K
          refine norm_ (a' := ?_) ?_ ?_
          rotate_left
          ·show Act.put _ (some 22) _ = _
           simp only [Act.put, xset_a, xset_z, xset_s, i64_w, i32_w]
           rfl
          exact norm_ (by simp only [putAll, Act.put, xset_a, xset_z, xset_s] <;> rfl) (hJ2_5_7 (gb126) _ ⟨hHeld, (bk_ Z101.out), (bk_ Z102.out), (bk_ Z103.out), (bk_ Z126.out), GW126.out, GE126.out, NB101_126.out, NB126_101.out, NB102_126.out, NB126_102.out, NB103_126.out, NB126_103.out, (bl_ HB.out)⟩)
         ·skip
          refine box_step ?hg (N := 7) ?hd (cs := #[.int .i64 0, .int .i64 0, .int .i64 0, .int .i64 0]) (t := 23) ?hr ?_; (case hd => rfl); (case hg => rfl); (case hr => first | (go_simp; done) | (go_simp; rfl))
          intro gb125 hg w37 hbox hb
          have n0_ := bb_ Z101 hb
          have n1_ := bb_ Z102 hb
          have n2_ := bb_ Z103 hb
          have n3_ := bb_ Z126 hb
          have n4_ := Aside0.mk (below_step (bl_ HB.out) hb)
          have n5_ := Aside0.mk (hbox)
          have n6_ := Aside0.mk ((by rw [hg]; exact (below_size (bl_ HB.out)) : w.heap.size ≤ gb125))
          have n7_ := Aside0.mk ((by rw [hg]; exact (below_size (bl_ HB.out)) : w.heap.size ≤ gb125))
          have n8_ := Aside0.mk ((by rw [hg]; exact Nat.ne_of_lt (blk_lt (g := gb101) (o := .cells #[.int .i64 t105, .int .i64 t106, .int .i64 t107, .int .i64 t108] 23 (0, 0)) (bk_ Z101.out)) : gb101 ≠ gb125))
          have n9_ := Aside0.mk ((by rw [hg]; exact Nat.ne_of_gt (blk_lt (g := gb101) (o := .cells #[.int .i64 t105, .int .i64 t106, .int .i64 t107, .int .i64 t108] 23 (0, 0)) (bk_ Z101.out)) : gb125 ≠ gb101))
          have n10_ := Aside0.mk ((by rw [hg]; exact Nat.ne_of_lt (blk_lt (g := gb102) (o := .cells #[.int .i64 t109, .int .i64 t110, .int .i64 t111, .int .i64 t112] 23 (0, 0)) (bk_ Z102.out)) : gb102 ≠ gb125))
          have n11_ := Aside0.mk ((by rw [hg]; exact Nat.ne_of_gt (blk_lt (g := gb102) (o := .cells #[.int .i64 t109, .int .i64 t110, .int .i64 t111, .int .i64 t112] 23 (0, 0)) (bk_ Z102.out)) : gb125 ≠ gb102))
          have n12_ := Aside0.mk ((by rw [hg]; exact Nat.ne_of_lt (blk_lt (g := gb103) (o := .cells #[.int .i64 t113, .int .i64 t114, .int .i64 t115, .int .i64 t116] 23 (0, 0)) (bk_ Z103.out)) : gb103 ≠ gb125))
          have n13_ := Aside0.mk ((by rw [hg]; exact Nat.ne_of_gt (blk_lt (g := gb103) (o := .cells #[.int .i64 t113, .int .i64 t114, .int .i64 t115, .int .i64 t116] 23 (0, 0)) (bk_ Z103.out)) : gb125 ≠ gb103))
          have n14_ := Aside0.mk ((by rw [hg]; exact Nat.ne_of_lt (blk_lt (g := gb126) (o := .cells #[.int .i64 0, .int .i64 0, .int .i64 0, .int .i64 0] 23 (0, 0)) (bk_ Z126.out)) : gb126 ≠ gb125))
          have n15_ := Aside0.mk ((by rw [hg]; exact Nat.ne_of_gt (blk_lt (g := gb126) (o := .cells #[.int .i64 0, .int .i64 0, .int .i64 0, .int .i64 0] 23 (0, 0)) (bk_ Z126.out)) : gb125 ≠ gb126))
          clear Z101 Z102 Z103 Z126 HB
          have Z101 := n0_; have Z102 := n1_; have Z103 := n2_; have Z126 := n3_; have HB := n4_; have Z125 := n5_; have GW125 := n6_; have GE125 := n7_; have NB101_125 := n8_; have NB125_101 := n9_; have NB102_125 := n10_; have NB125_102 := n11_; have NB103_125 := n12_; have NB125_103 := n13_; have NB126_125 := n14_; have NB125_126 := n15_
          clear n0_ n1_ n2_ n3_ n4_ n5_ n6_ n7_ n8_ n9_ n10_ n11_ n12_ n13_ n14_ n15_
          clear hb hbox hg
          refine hK.out _ _ ⟨(blk_cell Z101.out 0).trans rfl, (blk_cell Z101.out 1).trans rfl, (blk_cell Z101.out 2).trans rfl, (blk_cell Z101.out 3).trans rfl, (blk_cell Z102.out 0).trans rfl, (blk_cell Z102.out 1).trans rfl, (blk_cell Z102.out 2).trans rfl, (blk_cell Z102.out 3).trans rfl⟩ (fun hHeld => ?_)
          clear hK K
          refine norm_ (a' := ?_) ?_ ?_
          rotate_left
          ·show Act.put _ (some 7) _ = _
           simp only [Act.put, xset_a, xset_z, xset_s, i64_w, i32_w]
           rfl
          exact norm_ (by simp only [putAll, Act.put, xset_a, xset_z, xset_s] <;> rfl) (hJ2_6_7 (gb125, gb126) _ ⟨hHeld, (bk_ Z101.out), (bk_ Z102.out), (bk_ Z103.out), (bk_ Z125.out), (bk_ Z126.out), GW125.out, GE125.out, NB101_125.out, NB125_101.out, NB102_125.out, NB125_102.out, NB103_125.out, NB125_103.out, NB126_125.out, NB125_126.out, GW126.out, GE126.out, NB101_126.out, NB126_101.out, NB102_126.out, NB126_102.out, NB103_126.out, NB126_103.out, (bl_ HB.out)⟩)
       ·skip
        rintro gb125 w36 ⟨hS_, h0_, h1_, h2_, h3_, h4_, h5_, h6_, h7_, h8_, h9_, h10_, h11_, h12_⟩
        have n0_ := Aside0.mk h0_
        have n1_ := Aside0.mk h1_
        have n2_ := Aside0.mk h2_
        have n3_ := Aside0.mk h3_
        have n4_ := Aside0.mk h4_
        have n5_ := Aside0.mk h5_
        have n6_ := Aside0.mk h6_
        have n7_ := Aside0.mk h7_
        have n8_ := Aside0.mk h8_
        have n9_ := Aside0.mk h9_
        have n10_ := Aside0.mk h10_
        have n11_ := Aside0.mk h11_
        have n12_ := Aside0.mk h12_
        clear Z101 Z102 Z103 HB
        clear h0_ h1_ h2_ h3_ h4_ h5_ h6_ h7_ h8_ h9_ h10_ h11_ h12_
        have Z101 := n0_; have Z102 := n1_; have Z103 := n2_; have Z125 := n3_; have GW125 := n4_; have GE125 := n5_; have NB101_125 := n6_; have NB125_101 := n7_; have NB102_125 := n8_; have NB125_102 := n9_; have NB103_125 := n10_; have NB125_103 := n11_; have HB := n12_
        clear n0_ n1_ n2_ n3_ n4_ n5_ n6_ n7_ n8_ n9_ n10_ n11_ n12_
        have hHeld : w36.cell? ⟨gb101, 0, none⟩ = some (.int .i64 t105) ∧ w36.cell? ⟨gb101, 1, none⟩ = some (.int .i64 t106) ∧ w36.cell? ⟨gb101, 2, none⟩ = some (.int .i64 t107) ∧ w36.cell? ⟨gb101, 3, none⟩ = some (.int .i64 t108) ∧ w36.cell? ⟨gb102, 0, none⟩ = some (.int .i64 t109) ∧ w36.cell? ⟨gb102, 1, none⟩ = some (.int .i64 t110) ∧ w36.cell? ⟨gb102, 2, none⟩ = some (.int .i64 t111) ∧ w36.cell? ⟨gb102, 3, none⟩ = some (.int .i64 t112) := hS_
        refine norm_ (a' := ?_) ?_ ?_
        rotate_left
        ·simp only [putAll, Act.put, xset_a, xset_z, xset_s]
         rfl
        refine two_ (i := 5) (j := 7) (Ni := some 22) (Nj := some 8) #[true, true, true, true, true, true, true, false, false, false] #[true, true, true, true, true, false, true, true, false, false] rfl rfl rfl rfl (two_of HT_.out (by kernel_rfl)) (by decide) (by decide) (fun K hK => ?_) (fun K hK => ?_)
        ·skip
         refine goes_ Tryd.func19 (by kernel_rfl) rfl #[.agg #[.int .i64 t105, .int .i64 t106, .int .i64 t107, .int .i64 t108], .agg #[.int .i64 t109, .int .i64 t110, .int .i64 t111, .int .i64 t112]] (by rfl) rfl rfl (by (try simp only [List.map_toArray, List.map_cons, List.map_nil]); first | done | rfl | (simp only [List.length_drop, List.length_take]; rfl)) ?_
         with_reducible refine (label_Meet.calls t105 t106 t107 t108 t109 t110 t111 t112 t121 t122 t123 t124 _ A10.out).mono ?_
         rintro e w37 ⟨rfl, hb⟩
         refine ⟨_, rfl, ?_⟩
         have n0_ := bb_ Z101 hb
         have n1_ := bb_ Z102 hb
         have n2_ := bb_ Z103 hb
         have n3_ := bb_ Z125 hb
         have n4_ := Aside0.mk (below_step (bl_ HB.out) hb)
         clear Z101 Z102 Z103 Z125 HB
         have Z101 := n0_; have Z102 := n1_; have Z103 := n2_; have Z125 := n3_; have HB := n4_
         clear n0_ n1_ n2_ n3_ n4_
         (try clear hb)
         (try clear hb2)
         (try clear hk)
         (try clear hi)
         refine hK.out _ _ ⟨(blk_cell Z101.out 0).trans rfl, (blk_cell Z101.out 1).trans rfl, (blk_cell Z101.out 2).trans rfl, (blk_cell Z101.out 3).trans rfl, (blk_cell Z102.out 0).trans rfl, (blk_cell Z102.out 1).trans rfl, (blk_cell Z102.out 2).trans rfl, (blk_cell Z102.out 3).trans rfl⟩ (fun hHeld => ?_)
         clear hK K
         refine norm_ (a' := ?_) ?_ ?_
         rotate_left
         ·show Act.put _ (some 22) _ = _
          simp only [Act.put, xset_a, xset_z, xset_s, i64_w, i32_w]
          rfl
         exact norm_ (by simp only [putAll, Act.put, xset_a, xset_z, xset_s] <;> rfl) (hJ2_5_6 (gb125) _ ⟨hHeld, (bk_ Z101.out), (bk_ Z102.out), (bk_ Z103.out), (bk_ Z125.out), GW125.out, GE125.out, NB101_125.out, NB125_101.out, NB102_125.out, NB125_102.out, NB103_125.out, NB125_103.out, (bl_ HB.out)⟩)
        ·skip
         refine box_step ?hg (N := 8) ?hd (cs := #[.int .i64 0, .int .i64 0, .int .i64 0, .int .i64 0]) (t := 23) ?hr ?_; (case hd => rfl); (case hg => rfl); (case hr => first | (go_simp; done) | (go_simp; rfl))
         intro gb126 hg w37 hbox hb
         have n0_ := bb_ Z101 hb
         have n1_ := bb_ Z102 hb
         have n2_ := bb_ Z103 hb
         have n3_ := bb_ Z125 hb
         have n4_ := Aside0.mk (below_step (bl_ HB.out) hb)
         have n5_ := Aside0.mk (hbox)
         have n6_ := Aside0.mk ((by rw [hg]; exact (below_size (bl_ HB.out)) : w.heap.size ≤ gb126))
         have n7_ := Aside0.mk ((by rw [hg]; exact (below_size (bl_ HB.out)) : w.heap.size ≤ gb126))
         have n8_ := Aside0.mk ((by rw [hg]; exact Nat.ne_of_lt (blk_lt (g := gb101) (o := .cells #[.int .i64 t105, .int .i64 t106, .int .i64 t107, .int .i64 t108] 23 (0, 0)) (bk_ Z101.out)) : gb101 ≠ gb126))
         have n9_ := Aside0.mk ((by rw [hg]; exact Nat.ne_of_gt (blk_lt (g := gb101) (o := .cells #[.int .i64 t105, .int .i64 t106, .int .i64 t107, .int .i64 t108] 23 (0, 0)) (bk_ Z101.out)) : gb126 ≠ gb101))
         have n10_ := Aside0.mk ((by rw [hg]; exact Nat.ne_of_lt (blk_lt (g := gb102) (o := .cells #[.int .i64 t109, .int .i64 t110, .int .i64 t111, .int .i64 t112] 23 (0, 0)) (bk_ Z102.out)) : gb102 ≠ gb126))
         have n11_ := Aside0.mk ((by rw [hg]; exact Nat.ne_of_gt (blk_lt (g := gb102) (o := .cells #[.int .i64 t109, .int .i64 t110, .int .i64 t111, .int .i64 t112] 23 (0, 0)) (bk_ Z102.out)) : gb126 ≠ gb102))
         have n12_ := Aside0.mk ((by rw [hg]; exact Nat.ne_of_lt (blk_lt (g := gb103) (o := .cells #[.int .i64 t113, .int .i64 t114, .int .i64 t115, .int .i64 t116] 23 (0, 0)) (bk_ Z103.out)) : gb103 ≠ gb126))
         have n13_ := Aside0.mk ((by rw [hg]; exact Nat.ne_of_gt (blk_lt (g := gb103) (o := .cells #[.int .i64 t113, .int .i64 t114, .int .i64 t115, .int .i64 t116] 23 (0, 0)) (bk_ Z103.out)) : gb126 ≠ gb103))
         have n14_ := Aside0.mk ((by rw [hg]; exact Nat.ne_of_lt (blk_lt (g := gb125) (o := .cells #[.int .i64 0, .int .i64 0, .int .i64 0, .int .i64 0] 23 (0, 0)) (bk_ Z125.out)) : gb125 ≠ gb126))
         have n15_ := Aside0.mk ((by rw [hg]; exact Nat.ne_of_gt (blk_lt (g := gb125) (o := .cells #[.int .i64 0, .int .i64 0, .int .i64 0, .int .i64 0] 23 (0, 0)) (bk_ Z125.out)) : gb126 ≠ gb125))
         clear Z101 Z102 Z103 Z125 HB
         have Z101 := n0_; have Z102 := n1_; have Z103 := n2_; have Z125 := n3_; have HB := n4_; have Z126 := n5_; have GW126 := n6_; have GE126 := n7_; have NB101_126 := n8_; have NB126_101 := n9_; have NB102_126 := n10_; have NB126_102 := n11_; have NB103_126 := n12_; have NB126_103 := n13_; have NB125_126 := n14_; have NB126_125 := n15_
         clear n0_ n1_ n2_ n3_ n4_ n5_ n6_ n7_ n8_ n9_ n10_ n11_ n12_ n13_ n14_ n15_
         clear hb hbox hg
         refine hK.out _ _ ⟨(blk_cell Z101.out 0).trans rfl, (blk_cell Z101.out 1).trans rfl, (blk_cell Z101.out 2).trans rfl, (blk_cell Z101.out 3).trans rfl, (blk_cell Z102.out 0).trans rfl, (blk_cell Z102.out 1).trans rfl, (blk_cell Z102.out 2).trans rfl, (blk_cell Z102.out 3).trans rfl⟩ (fun hHeld => ?_)
         clear hK K
         refine norm_ (a' := ?_) ?_ ?_
         rotate_left
         ·show Act.put _ (some 8) _ = _
          simp only [Act.put, xset_a, xset_z, xset_s, i64_w, i32_w]
          rfl
         exact norm_ (by simp only [putAll, Act.put, xset_a, xset_z, xset_s] <;> rfl) (hJ2_6_7 (gb125, gb126) _ ⟨hHeld, (bk_ Z101.out), (bk_ Z102.out), (bk_ Z103.out), (bk_ Z125.out), (bk_ Z126.out), GW125.out, GE125.out, NB101_125.out, NB125_101.out, NB102_125.out, NB125_102.out, NB103_125.out, NB125_103.out, NB126_125.out, NB125_126.out, GW126.out, GE126.out, NB101_126.out, NB126_101.out, NB102_126.out, NB126_102.out, NB103_126.out, NB126_103.out, (bl_ HB.out)⟩)
      ·skip
       rintro _ w36 ⟨hS_, h0_, h1_, h2_, h3_⟩
       have n0_ := Aside0.mk h0_
       have n1_ := Aside0.mk h1_
       have n2_ := Aside0.mk h2_
       have n3_ := Aside0.mk h3_
       clear Z101 Z102 Z103 HB
       clear h0_ h1_ h2_ h3_
       have Z101 := n0_; have Z102 := n1_; have Z103 := n2_; have HB := n3_
       clear n0_ n1_ n2_ n3_
       have hHeld : w36.cell? ⟨gb101, 0, none⟩ = some (.int .i64 t105) ∧ w36.cell? ⟨gb101, 1, none⟩ = some (.int .i64 t106) ∧ w36.cell? ⟨gb101, 2, none⟩ = some (.int .i64 t107) ∧ w36.cell? ⟨gb101, 3, none⟩ = some (.int .i64 t108) ∧ w36.cell? ⟨gb102, 0, none⟩ = some (.int .i64 t109) ∧ w36.cell? ⟨gb102, 1, none⟩ = some (.int .i64 t110) ∧ w36.cell? ⟨gb102, 2, none⟩ = some (.int .i64 t111) ∧ w36.cell? ⟨gb102, 3, none⟩ = some (.int .i64 t112) := hS_
       refine norm_ (a' := ?_) ?_ ?_
       rotate_left
       ·simp only [putAll, Act.put, xset_a, xset_z, xset_s]
        rfl
       refine two_ (i := 6) (j := 7) (Ni := some 7) (Nj := some 8) #[true, true, true, true, true, true, true, false, false, false] #[true, true, true, true, true, true, false, true, false, false] rfl rfl rfl rfl (two_of HT_.out (by kernel_rfl)) (by decide) (by decide) (fun K hK => ?_) (fun K hK => ?_)
       ·skip
        refine box_step ?hg (N := 7) ?hd (cs := #[.int .i64 0, .int .i64 0, .int .i64 0, .int .i64 0]) (t := 23) ?hr ?_; (case hd => rfl); (case hg => rfl); (case hr => first | (go_simp; done) | (go_simp; rfl))
        intro gb125 hg w37 hbox hb
        have n0_ := bb_ Z101 hb
        have n1_ := bb_ Z102 hb
        have n2_ := bb_ Z103 hb
        have n3_ := Aside0.mk (below_step (bl_ HB.out) hb)
        have n4_ := Aside0.mk (hbox)
        have n5_ := Aside0.mk ((by rw [hg]; exact (below_size (bl_ HB.out)) : w.heap.size ≤ gb125))
        have n6_ := Aside0.mk ((by rw [hg]; exact (below_size (bl_ HB.out)) : w.heap.size ≤ gb125))
        have n7_ := Aside0.mk ((by rw [hg]; exact Nat.ne_of_lt (blk_lt (g := gb101) (o := .cells #[.int .i64 t105, .int .i64 t106, .int .i64 t107, .int .i64 t108] 23 (0, 0)) (bk_ Z101.out)) : gb101 ≠ gb125))
        have n8_ := Aside0.mk ((by rw [hg]; exact Nat.ne_of_gt (blk_lt (g := gb101) (o := .cells #[.int .i64 t105, .int .i64 t106, .int .i64 t107, .int .i64 t108] 23 (0, 0)) (bk_ Z101.out)) : gb125 ≠ gb101))
        have n9_ := Aside0.mk ((by rw [hg]; exact Nat.ne_of_lt (blk_lt (g := gb102) (o := .cells #[.int .i64 t109, .int .i64 t110, .int .i64 t111, .int .i64 t112] 23 (0, 0)) (bk_ Z102.out)) : gb102 ≠ gb125))
        have n10_ := Aside0.mk ((by rw [hg]; exact Nat.ne_of_gt (blk_lt (g := gb102) (o := .cells #[.int .i64 t109, .int .i64 t110, .int .i64 t111, .int .i64 t112] 23 (0, 0)) (bk_ Z102.out)) : gb125 ≠ gb102))
        have n11_ := Aside0.mk ((by rw [hg]; exact Nat.ne_of_lt (blk_lt (g := gb103) (o := .cells #[.int .i64 t113, .int .i64 t114, .int .i64 t115, .int .i64 t116] 23 (0, 0)) (bk_ Z103.out)) : gb103 ≠ gb125))
        have n12_ := Aside0.mk ((by rw [hg]; exact Nat.ne_of_gt (blk_lt (g := gb103) (o := .cells #[.int .i64 t113, .int .i64 t114, .int .i64 t115, .int .i64 t116] 23 (0, 0)) (bk_ Z103.out)) : gb125 ≠ gb103))
        clear Z101 Z102 Z103 HB
        have Z101 := n0_; have Z102 := n1_; have Z103 := n2_; have HB := n3_; have Z125 := n4_; have GW125 := n5_; have GE125 := n6_; have NB101_125 := n7_; have NB125_101 := n8_; have NB102_125 := n9_; have NB125_102 := n10_; have NB103_125 := n11_; have NB125_103 := n12_
        clear n0_ n1_ n2_ n3_ n4_ n5_ n6_ n7_ n8_ n9_ n10_ n11_ n12_
        clear hb hbox hg
        refine hK.out _ _ ⟨(blk_cell Z101.out 0).trans rfl, (blk_cell Z101.out 1).trans rfl, (blk_cell Z101.out 2).trans rfl, (blk_cell Z101.out 3).trans rfl, (blk_cell Z102.out 0).trans rfl, (blk_cell Z102.out 1).trans rfl, (blk_cell Z102.out 2).trans rfl, (blk_cell Z102.out 3).trans rfl⟩ (fun hHeld => ?_)
        clear hK K
        refine norm_ (a' := ?_) ?_ ?_
        rotate_left
        ·show Act.put _ (some 7) _ = _
         simp only [Act.put, xset_a, xset_z, xset_s, i64_w, i32_w]
         rfl
        exact norm_ (by simp only [putAll, Act.put, xset_a, xset_z, xset_s] <;> rfl) (hJ2_5_6 (gb125) _ ⟨hHeld, (bk_ Z101.out), (bk_ Z102.out), (bk_ Z103.out), (bk_ Z125.out), GW125.out, GE125.out, NB101_125.out, NB125_101.out, NB102_125.out, NB125_102.out, NB103_125.out, NB125_103.out, (bl_ HB.out)⟩)
       ·skip
        refine box_step ?hg (N := 8) ?hd (cs := #[.int .i64 0, .int .i64 0, .int .i64 0, .int .i64 0]) (t := 23) ?hr ?_; (case hd => rfl); (case hg => rfl); (case hr => first | (go_simp; done) | (go_simp; rfl))
        intro gb126 hg w37 hbox hb
        have n0_ := bb_ Z101 hb
        have n1_ := bb_ Z102 hb
        have n2_ := bb_ Z103 hb
        have n3_ := Aside0.mk (below_step (bl_ HB.out) hb)
        have n4_ := Aside0.mk (hbox)
        have n5_ := Aside0.mk ((by rw [hg]; exact (below_size (bl_ HB.out)) : w.heap.size ≤ gb126))
        have n6_ := Aside0.mk ((by rw [hg]; exact (below_size (bl_ HB.out)) : w.heap.size ≤ gb126))
        have n7_ := Aside0.mk ((by rw [hg]; exact Nat.ne_of_lt (blk_lt (g := gb101) (o := .cells #[.int .i64 t105, .int .i64 t106, .int .i64 t107, .int .i64 t108] 23 (0, 0)) (bk_ Z101.out)) : gb101 ≠ gb126))
        have n8_ := Aside0.mk ((by rw [hg]; exact Nat.ne_of_gt (blk_lt (g := gb101) (o := .cells #[.int .i64 t105, .int .i64 t106, .int .i64 t107, .int .i64 t108] 23 (0, 0)) (bk_ Z101.out)) : gb126 ≠ gb101))
        have n9_ := Aside0.mk ((by rw [hg]; exact Nat.ne_of_lt (blk_lt (g := gb102) (o := .cells #[.int .i64 t109, .int .i64 t110, .int .i64 t111, .int .i64 t112] 23 (0, 0)) (bk_ Z102.out)) : gb102 ≠ gb126))
        have n10_ := Aside0.mk ((by rw [hg]; exact Nat.ne_of_gt (blk_lt (g := gb102) (o := .cells #[.int .i64 t109, .int .i64 t110, .int .i64 t111, .int .i64 t112] 23 (0, 0)) (bk_ Z102.out)) : gb126 ≠ gb102))
        have n11_ := Aside0.mk ((by rw [hg]; exact Nat.ne_of_lt (blk_lt (g := gb103) (o := .cells #[.int .i64 t113, .int .i64 t114, .int .i64 t115, .int .i64 t116] 23 (0, 0)) (bk_ Z103.out)) : gb103 ≠ gb126))
        have n12_ := Aside0.mk ((by rw [hg]; exact Nat.ne_of_gt (blk_lt (g := gb103) (o := .cells #[.int .i64 t113, .int .i64 t114, .int .i64 t115, .int .i64 t116] 23 (0, 0)) (bk_ Z103.out)) : gb126 ≠ gb103))
        clear Z101 Z102 Z103 HB
        have Z101 := n0_; have Z102 := n1_; have Z103 := n2_; have HB := n3_; have Z126 := n4_; have GW126 := n5_; have GE126 := n6_; have NB101_126 := n7_; have NB126_101 := n8_; have NB102_126 := n9_; have NB126_102 := n10_; have NB103_126 := n11_; have NB126_103 := n12_
        clear n0_ n1_ n2_ n3_ n4_ n5_ n6_ n7_ n8_ n9_ n10_ n11_ n12_
        clear hb hbox hg
        refine hK.out _ _ ⟨(blk_cell Z101.out 0).trans rfl, (blk_cell Z101.out 1).trans rfl, (blk_cell Z101.out 2).trans rfl, (blk_cell Z101.out 3).trans rfl, (blk_cell Z102.out 0).trans rfl, (blk_cell Z102.out 1).trans rfl, (blk_cell Z102.out 2).trans rfl, (blk_cell Z102.out 3).trans rfl⟩ (fun hHeld => ?_)
        clear hK K
        refine norm_ (a' := ?_) ?_ ?_
        rotate_left
        ·show Act.put _ (some 8) _ = _
         simp only [Act.put, xset_a, xset_z, xset_s, i64_w, i32_w]
         rfl
        exact norm_ (by simp only [putAll, Act.put, xset_a, xset_z, xset_s] <;> rfl) (hJ2_5_7 (gb126) _ ⟨hHeld, (bk_ Z101.out), (bk_ Z102.out), (bk_ Z103.out), (bk_ Z126.out), GW126.out, GE126.out, NB101_126.out, NB126_101.out, NB102_126.out, NB126_102.out, NB103_126.out, NB126_103.out, (bl_ HB.out)⟩)
     ·skip
      rintro ⟨gb125, gb126⟩ w37 ⟨hS_, h0_, h1_, h2_, h3_, h4_, h5_, h6_, h7_, h8_, h9_, h10_, h11_, h12_, h13_, h14_, h15_, h16_, h17_, h18_, h19_, h20_, h21_, h22_, h23_⟩
      have n0_ := Aside0.mk h0_
      have n1_ := Aside0.mk h1_
      have n2_ := Aside0.mk h2_
      have n3_ := Aside0.mk h3_
      have n4_ := Aside0.mk h4_
      have n5_ := Aside0.mk h5_
      have n6_ := Aside0.mk h6_
      have n7_ := Aside0.mk h7_
      have n8_ := Aside0.mk h8_
      have n9_ := Aside0.mk h9_
      have n10_ := Aside0.mk h10_
      have n11_ := Aside0.mk h11_
      have n12_ := Aside0.mk h12_
      have n13_ := Aside0.mk h13_
      have n14_ := Aside0.mk h14_
      have n15_ := Aside0.mk h15_
      have n16_ := Aside0.mk h16_
      have n17_ := Aside0.mk h17_
      have n18_ := Aside0.mk h18_
      have n19_ := Aside0.mk h19_
      have n20_ := Aside0.mk h20_
      have n21_ := Aside0.mk h21_
      have n22_ := Aside0.mk h22_
      have n23_ := Aside0.mk h23_
      clear Z101 Z102 Z103 HB
      clear h0_ h1_ h2_ h3_ h4_ h5_ h6_ h7_ h8_ h9_ h10_ h11_ h12_ h13_ h14_ h15_ h16_ h17_ h18_ h19_ h20_ h21_ h22_ h23_
      have Z101 := n0_; have Z102 := n1_; have Z103 := n2_; have Z125 := n3_; have Z126 := n4_; have GW125 := n5_; have GE125 := n6_; have NB101_125 := n7_; have NB125_101 := n8_; have NB102_125 := n9_; have NB125_102 := n10_; have NB103_125 := n11_; have NB125_103 := n12_; have NB126_125 := n13_; have NB125_126 := n14_; have GW126 := n15_; have GE126 := n16_; have NB101_126 := n17_; have NB126_101 := n18_; have NB102_126 := n19_; have NB126_102 := n20_; have NB103_126 := n21_; have NB126_103 := n22_; have HB := n23_
      clear n0_ n1_ n2_ n3_ n4_ n5_ n6_ n7_ n8_ n9_ n10_ n11_ n12_ n13_ n14_ n15_ n16_ n17_ n18_ n19_ n20_ n21_ n22_ n23_
      have hHeld : w37.cell? ⟨gb101, 0, none⟩ = some (.int .i64 t105) ∧ w37.cell? ⟨gb101, 1, none⟩ = some (.int .i64 t106) ∧ w37.cell? ⟨gb101, 2, none⟩ = some (.int .i64 t107) ∧ w37.cell? ⟨gb101, 3, none⟩ = some (.int .i64 t108) ∧ w37.cell? ⟨gb102, 0, none⟩ = some (.int .i64 t109) ∧ w37.cell? ⟨gb102, 1, none⟩ = some (.int .i64 t110) ∧ w37.cell? ⟨gb102, 2, none⟩ = some (.int .i64 t111) ∧ w37.cell? ⟨gb102, 3, none⟩ = some (.int .i64 t112) := hS_
      refine norm_ (a' := ?_) ?_ ?_
      rotate_left
      ·simp only [putAll, Act.put, xset_a, xset_z, xset_s]
       rfl
      refine one_ (i := 5) (N := some 22) #[true, true, true, true, true, true, true, true, false, false] rfl rfl (one_of HT_.out (by kernel_rfl)) (by decide) (fun K hK => ?_)
      refine goes_ Tryd.func19 (by kernel_rfl) rfl #[.agg #[.int .i64 t105, .int .i64 t106, .int .i64 t107, .int .i64 t108], .agg #[.int .i64 t109, .int .i64 t110, .int .i64 t111, .int .i64 t112]] (by rfl) rfl rfl (by (try simp only [List.map_toArray, List.map_cons, List.map_nil]); first | done | rfl | (simp only [List.length_drop, List.length_take]; rfl)) ?_
      with_reducible refine (label_Meet.calls t105 t106 t107 t108 t109 t110 t111 t112 t121 t122 t123 t124 _ A10.out).mono ?_
      rintro e w38 ⟨rfl, hb⟩
      refine ⟨_, rfl, ?_⟩
      have n0_ := bb_ Z101 hb
      have n1_ := bb_ Z102 hb
      have n2_ := bb_ Z103 hb
      have n3_ := bb_ Z125 hb
      have n4_ := bb_ Z126 hb
      have n5_ := Aside0.mk (below_step (bl_ HB.out) hb)
      clear Z101 Z102 Z103 Z125 Z126 HB
      have Z101 := n0_; have Z102 := n1_; have Z103 := n2_; have Z125 := n3_; have Z126 := n4_; have HB := n5_
      clear n0_ n1_ n2_ n3_ n4_ n5_
      (try clear hb)
      (try clear hb2)
      (try clear hk)
      (try clear hi)
      refine hK.out _ _ ⟨(blk_cell Z101.out 0).trans rfl, (blk_cell Z101.out 1).trans rfl, (blk_cell Z101.out 2).trans rfl, (blk_cell Z101.out 3).trans rfl, (blk_cell Z102.out 0).trans rfl, (blk_cell Z102.out 1).trans rfl, (blk_cell Z102.out 2).trans rfl, (blk_cell Z102.out 3).trans rfl⟩ (fun hHeld => ?_)
      clear hK K
      refine norm_ (a' := ?_) ?_ ?_
      rotate_left
      ·show Act.put _ (some 22) _ = _
       simp only [Act.put, xset_a, xset_z, xset_s, i64_w, i32_w]
       rfl
      exact norm_ (by simp only [putAll, Act.put, xset_a, xset_z, xset_s] <;> rfl) (hJ2_5_6_7 (gb125, gb126) _ ⟨hHeld, (bk_ Z101.out), (bk_ Z102.out), (bk_ Z103.out), (bk_ Z125.out), (bk_ Z126.out), GW125.out, GE125.out, NB101_125.out, NB125_101.out, NB102_125.out, NB125_102.out, NB103_125.out, NB125_103.out, NB126_125.out, NB125_126.out, GW126.out, GE126.out, NB101_126.out, NB126_101.out, NB102_126.out, NB126_102.out, NB103_126.out, NB126_103.out, (bl_ HB.out)⟩)
    ·skip
     rintro gb126 w37 ⟨hS_, h0_, h1_, h2_, h3_, h4_, h5_, h6_, h7_, h8_, h9_, h10_, h11_, h12_⟩
     have n0_ := Aside0.mk h0_
     have n1_ := Aside0.mk h1_
     have n2_ := Aside0.mk h2_
     have n3_ := Aside0.mk h3_
     have n4_ := Aside0.mk h4_
     have n5_ := Aside0.mk h5_
     have n6_ := Aside0.mk h6_
     have n7_ := Aside0.mk h7_
     have n8_ := Aside0.mk h8_
     have n9_ := Aside0.mk h9_
     have n10_ := Aside0.mk h10_
     have n11_ := Aside0.mk h11_
     have n12_ := Aside0.mk h12_
     clear Z101 Z102 Z103 HB
     clear h0_ h1_ h2_ h3_ h4_ h5_ h6_ h7_ h8_ h9_ h10_ h11_ h12_
     have Z101 := n0_; have Z102 := n1_; have Z103 := n2_; have Z126 := n3_; have GW126 := n4_; have GE126 := n5_; have NB101_126 := n6_; have NB126_101 := n7_; have NB102_126 := n8_; have NB126_102 := n9_; have NB103_126 := n10_; have NB126_103 := n11_; have HB := n12_
     clear n0_ n1_ n2_ n3_ n4_ n5_ n6_ n7_ n8_ n9_ n10_ n11_ n12_
     have hHeld : w37.cell? ⟨gb101, 0, none⟩ = some (.int .i64 t105) ∧ w37.cell? ⟨gb101, 1, none⟩ = some (.int .i64 t106) ∧ w37.cell? ⟨gb101, 2, none⟩ = some (.int .i64 t107) ∧ w37.cell? ⟨gb101, 3, none⟩ = some (.int .i64 t108) ∧ w37.cell? ⟨gb102, 0, none⟩ = some (.int .i64 t109) ∧ w37.cell? ⟨gb102, 1, none⟩ = some (.int .i64 t110) ∧ w37.cell? ⟨gb102, 2, none⟩ = some (.int .i64 t111) ∧ w37.cell? ⟨gb102, 3, none⟩ = some (.int .i64 t112) := hS_
     refine norm_ (a' := ?_) ?_ ?_
     rotate_left
     ·simp only [putAll, Act.put, xset_a, xset_z, xset_s]
      rfl
     refine one_ (i := 6) (N := some 7) #[true, true, true, true, true, true, true, true, false, false] rfl rfl (one_of HT_.out (by kernel_rfl)) (by decide) (fun K hK => ?_)
     refine box_step ?hg (N := 7) ?hd (cs := #[.int .i64 0, .int .i64 0, .int .i64 0, .int .i64 0]) (t := 23) ?hr ?_; (case hd => rfl); (case hg => rfl); (case hr => first | (go_simp; done) | (go_simp; rfl))
     intro gb125 hg w38 hbox hb
     have n0_ := bb_ Z101 hb
     have n1_ := bb_ Z102 hb
     have n2_ := bb_ Z103 hb
     have n3_ := bb_ Z126 hb
     have n4_ := Aside0.mk (below_step (bl_ HB.out) hb)
     have n5_ := Aside0.mk (hbox)
     have n6_ := Aside0.mk ((by rw [hg]; exact (below_size (bl_ HB.out)) : w.heap.size ≤ gb125))
     have n7_ := Aside0.mk ((by rw [hg]; exact (below_size (bl_ HB.out)) : w.heap.size ≤ gb125))
     have n8_ := Aside0.mk ((by rw [hg]; exact Nat.ne_of_lt (blk_lt (g := gb101) (o := .cells #[.int .i64 t105, .int .i64 t106, .int .i64 t107, .int .i64 t108] 23 (0, 0)) (bk_ Z101.out)) : gb101 ≠ gb125))
     have n9_ := Aside0.mk ((by rw [hg]; exact Nat.ne_of_gt (blk_lt (g := gb101) (o := .cells #[.int .i64 t105, .int .i64 t106, .int .i64 t107, .int .i64 t108] 23 (0, 0)) (bk_ Z101.out)) : gb125 ≠ gb101))
     have n10_ := Aside0.mk ((by rw [hg]; exact Nat.ne_of_lt (blk_lt (g := gb102) (o := .cells #[.int .i64 t109, .int .i64 t110, .int .i64 t111, .int .i64 t112] 23 (0, 0)) (bk_ Z102.out)) : gb102 ≠ gb125))
     have n11_ := Aside0.mk ((by rw [hg]; exact Nat.ne_of_gt (blk_lt (g := gb102) (o := .cells #[.int .i64 t109, .int .i64 t110, .int .i64 t111, .int .i64 t112] 23 (0, 0)) (bk_ Z102.out)) : gb125 ≠ gb102))
     have n12_ := Aside0.mk ((by rw [hg]; exact Nat.ne_of_lt (blk_lt (g := gb103) (o := .cells #[.int .i64 t113, .int .i64 t114, .int .i64 t115, .int .i64 t116] 23 (0, 0)) (bk_ Z103.out)) : gb103 ≠ gb125))
     have n13_ := Aside0.mk ((by rw [hg]; exact Nat.ne_of_gt (blk_lt (g := gb103) (o := .cells #[.int .i64 t113, .int .i64 t114, .int .i64 t115, .int .i64 t116] 23 (0, 0)) (bk_ Z103.out)) : gb125 ≠ gb103))
     have n14_ := Aside0.mk ((by rw [hg]; exact Nat.ne_of_lt (blk_lt (g := gb126) (o := .cells #[.int .i64 0, .int .i64 0, .int .i64 0, .int .i64 0] 23 (0, 0)) (bk_ Z126.out)) : gb126 ≠ gb125))
     have n15_ := Aside0.mk ((by rw [hg]; exact Nat.ne_of_gt (blk_lt (g := gb126) (o := .cells #[.int .i64 0, .int .i64 0, .int .i64 0, .int .i64 0] 23 (0, 0)) (bk_ Z126.out)) : gb125 ≠ gb126))
     clear Z101 Z102 Z103 Z126 HB
     have Z101 := n0_; have Z102 := n1_; have Z103 := n2_; have Z126 := n3_; have HB := n4_; have Z125 := n5_; have GW125 := n6_; have GE125 := n7_; have NB101_125 := n8_; have NB125_101 := n9_; have NB102_125 := n10_; have NB125_102 := n11_; have NB103_125 := n12_; have NB125_103 := n13_; have NB126_125 := n14_; have NB125_126 := n15_
     clear n0_ n1_ n2_ n3_ n4_ n5_ n6_ n7_ n8_ n9_ n10_ n11_ n12_ n13_ n14_ n15_
     clear hb hbox hg
     refine hK.out _ _ ⟨(blk_cell Z101.out 0).trans rfl, (blk_cell Z101.out 1).trans rfl, (blk_cell Z101.out 2).trans rfl, (blk_cell Z101.out 3).trans rfl, (blk_cell Z102.out 0).trans rfl, (blk_cell Z102.out 1).trans rfl, (blk_cell Z102.out 2).trans rfl, (blk_cell Z102.out 3).trans rfl⟩ (fun hHeld => ?_)
     clear hK K
     refine norm_ (a' := ?_) ?_ ?_
     rotate_left
     ·show Act.put _ (some 7) _ = _
      simp only [Act.put, xset_a, xset_z, xset_s, i64_w, i32_w]
      rfl
     exact norm_ (by simp only [putAll, Act.put, xset_a, xset_z, xset_s] <;> rfl) (hJ2_5_6_7 (gb125, gb126) _ ⟨hHeld, (bk_ Z101.out), (bk_ Z102.out), (bk_ Z103.out), (bk_ Z125.out), (bk_ Z126.out), GW125.out, GE125.out, NB101_125.out, NB125_101.out, NB102_125.out, NB125_102.out, NB103_125.out, NB125_103.out, NB126_125.out, NB125_126.out, GW126.out, GE126.out, NB101_126.out, NB126_101.out, NB102_126.out, NB126_102.out, NB103_126.out, NB126_103.out, (bl_ HB.out)⟩)
   ·skip
    rintro gb125 w37 ⟨hS_, h0_, h1_, h2_, h3_, h4_, h5_, h6_, h7_, h8_, h9_, h10_, h11_, h12_⟩
    have n0_ := Aside0.mk h0_
    have n1_ := Aside0.mk h1_
    have n2_ := Aside0.mk h2_
    have n3_ := Aside0.mk h3_
    have n4_ := Aside0.mk h4_
    have n5_ := Aside0.mk h5_
    have n6_ := Aside0.mk h6_
    have n7_ := Aside0.mk h7_
    have n8_ := Aside0.mk h8_
    have n9_ := Aside0.mk h9_
    have n10_ := Aside0.mk h10_
    have n11_ := Aside0.mk h11_
    have n12_ := Aside0.mk h12_
    clear Z101 Z102 Z103 HB
    clear h0_ h1_ h2_ h3_ h4_ h5_ h6_ h7_ h8_ h9_ h10_ h11_ h12_
    have Z101 := n0_; have Z102 := n1_; have Z103 := n2_; have Z125 := n3_; have GW125 := n4_; have GE125 := n5_; have NB101_125 := n6_; have NB125_101 := n7_; have NB102_125 := n8_; have NB125_102 := n9_; have NB103_125 := n10_; have NB125_103 := n11_; have HB := n12_
    clear n0_ n1_ n2_ n3_ n4_ n5_ n6_ n7_ n8_ n9_ n10_ n11_ n12_
    have hHeld : w37.cell? ⟨gb101, 0, none⟩ = some (.int .i64 t105) ∧ w37.cell? ⟨gb101, 1, none⟩ = some (.int .i64 t106) ∧ w37.cell? ⟨gb101, 2, none⟩ = some (.int .i64 t107) ∧ w37.cell? ⟨gb101, 3, none⟩ = some (.int .i64 t108) ∧ w37.cell? ⟨gb102, 0, none⟩ = some (.int .i64 t109) ∧ w37.cell? ⟨gb102, 1, none⟩ = some (.int .i64 t110) ∧ w37.cell? ⟨gb102, 2, none⟩ = some (.int .i64 t111) ∧ w37.cell? ⟨gb102, 3, none⟩ = some (.int .i64 t112) := hS_
    refine norm_ (a' := ?_) ?_ ?_
    rotate_left
    ·simp only [putAll, Act.put, xset_a, xset_z, xset_s]
     rfl
    refine one_ (i := 7) (N := some 8) #[true, true, true, true, true, true, true, true, false, false] rfl rfl (one_of HT_.out (by kernel_rfl)) (by decide) (fun K hK => ?_)
    refine box_step ?hg (N := 8) ?hd (cs := #[.int .i64 0, .int .i64 0, .int .i64 0, .int .i64 0]) (t := 23) ?hr ?_; (case hd => rfl); (case hg => rfl); (case hr => first | (go_simp; done) | (go_simp; rfl))
    intro gb126 hg w38 hbox hb
    have n0_ := bb_ Z101 hb
    have n1_ := bb_ Z102 hb
    have n2_ := bb_ Z103 hb
    have n3_ := bb_ Z125 hb
    have n4_ := Aside0.mk (below_step (bl_ HB.out) hb)
    have n5_ := Aside0.mk (hbox)
    have n6_ := Aside0.mk ((by rw [hg]; exact (below_size (bl_ HB.out)) : w.heap.size ≤ gb126))
    have n7_ := Aside0.mk ((by rw [hg]; exact (below_size (bl_ HB.out)) : w.heap.size ≤ gb126))
    have n8_ := Aside0.mk ((by rw [hg]; exact Nat.ne_of_lt (blk_lt (g := gb101) (o := .cells #[.int .i64 t105, .int .i64 t106, .int .i64 t107, .int .i64 t108] 23 (0, 0)) (bk_ Z101.out)) : gb101 ≠ gb126))
    have n9_ := Aside0.mk ((by rw [hg]; exact Nat.ne_of_gt (blk_lt (g := gb101) (o := .cells #[.int .i64 t105, .int .i64 t106, .int .i64 t107, .int .i64 t108] 23 (0, 0)) (bk_ Z101.out)) : gb126 ≠ gb101))
    have n10_ := Aside0.mk ((by rw [hg]; exact Nat.ne_of_lt (blk_lt (g := gb102) (o := .cells #[.int .i64 t109, .int .i64 t110, .int .i64 t111, .int .i64 t112] 23 (0, 0)) (bk_ Z102.out)) : gb102 ≠ gb126))
    have n11_ := Aside0.mk ((by rw [hg]; exact Nat.ne_of_gt (blk_lt (g := gb102) (o := .cells #[.int .i64 t109, .int .i64 t110, .int .i64 t111, .int .i64 t112] 23 (0, 0)) (bk_ Z102.out)) : gb126 ≠ gb102))
    have n12_ := Aside0.mk ((by rw [hg]; exact Nat.ne_of_lt (blk_lt (g := gb103) (o := .cells #[.int .i64 t113, .int .i64 t114, .int .i64 t115, .int .i64 t116] 23 (0, 0)) (bk_ Z103.out)) : gb103 ≠ gb126))
    have n13_ := Aside0.mk ((by rw [hg]; exact Nat.ne_of_gt (blk_lt (g := gb103) (o := .cells #[.int .i64 t113, .int .i64 t114, .int .i64 t115, .int .i64 t116] 23 (0, 0)) (bk_ Z103.out)) : gb126 ≠ gb103))
    have n14_ := Aside0.mk ((by rw [hg]; exact Nat.ne_of_lt (blk_lt (g := gb125) (o := .cells #[.int .i64 0, .int .i64 0, .int .i64 0, .int .i64 0] 23 (0, 0)) (bk_ Z125.out)) : gb125 ≠ gb126))
    have n15_ := Aside0.mk ((by rw [hg]; exact Nat.ne_of_gt (blk_lt (g := gb125) (o := .cells #[.int .i64 0, .int .i64 0, .int .i64 0, .int .i64 0] 23 (0, 0)) (bk_ Z125.out)) : gb126 ≠ gb125))
    clear Z101 Z102 Z103 Z125 HB
    have Z101 := n0_; have Z102 := n1_; have Z103 := n2_; have Z125 := n3_; have HB := n4_; have Z126 := n5_; have GW126 := n6_; have GE126 := n7_; have NB101_126 := n8_; have NB126_101 := n9_; have NB102_126 := n10_; have NB126_102 := n11_; have NB103_126 := n12_; have NB126_103 := n13_; have NB125_126 := n14_; have NB126_125 := n15_
    clear n0_ n1_ n2_ n3_ n4_ n5_ n6_ n7_ n8_ n9_ n10_ n11_ n12_ n13_ n14_ n15_
    clear hb hbox hg
    refine hK.out _ _ ⟨(blk_cell Z101.out 0).trans rfl, (blk_cell Z101.out 1).trans rfl, (blk_cell Z101.out 2).trans rfl, (blk_cell Z101.out 3).trans rfl, (blk_cell Z102.out 0).trans rfl, (blk_cell Z102.out 1).trans rfl, (blk_cell Z102.out 2).trans rfl, (blk_cell Z102.out 3).trans rfl⟩ (fun hHeld => ?_)
    clear hK K
    refine norm_ (a' := ?_) ?_ ?_
    rotate_left
    ·show Act.put _ (some 8) _ = _
     simp only [Act.put, xset_a, xset_z, xset_s, i64_w, i32_w]
     rfl
    exact norm_ (by simp only [putAll, Act.put, xset_a, xset_z, xset_s] <;> rfl) (hJ2_5_6_7 (gb125, gb126) _ ⟨hHeld, (bk_ Z101.out), (bk_ Z102.out), (bk_ Z103.out), (bk_ Z125.out), (bk_ Z126.out), GW125.out, GE125.out, NB101_125.out, NB125_101.out, NB102_125.out, NB125_102.out, NB103_125.out, NB125_103.out, NB126_125.out, NB125_126.out, GW126.out, GE126.out, NB101_126.out, NB126_101.out, NB102_126.out, NB126_102.out, NB103_126.out, NB126_103.out, (bl_ HB.out)⟩)
  rintro ⟨gb125, gb126⟩ w38 ⟨hS_, h0_, h1_, h2_, h3_, h4_, h5_, h6_, h7_, h8_, h9_, h10_, h11_, h12_, h13_, h14_, h15_, h16_, h17_, h18_, h19_, h20_, h21_, h22_, h23_⟩
  have n0_ := Aside0.mk h0_
  have n1_ := Aside0.mk h1_
  have n2_ := Aside0.mk h2_
  have n3_ := Aside0.mk h3_
  have n4_ := Aside0.mk h4_
  have n5_ := Aside0.mk h5_
  have n6_ := Aside0.mk h6_
  have n7_ := Aside0.mk h7_
  have n8_ := Aside0.mk h8_
  have n9_ := Aside0.mk h9_
  have n10_ := Aside0.mk h10_
  have n11_ := Aside0.mk h11_
  have n12_ := Aside0.mk h12_
  have n13_ := Aside0.mk h13_
  have n14_ := Aside0.mk h14_
  have n15_ := Aside0.mk h15_
  have n16_ := Aside0.mk h16_
  have n17_ := Aside0.mk h17_
  have n18_ := Aside0.mk h18_
  have n19_ := Aside0.mk h19_
  have n20_ := Aside0.mk h20_
  have n21_ := Aside0.mk h21_
  have n22_ := Aside0.mk h22_
  have n23_ := Aside0.mk h23_
  clear Z101 Z102 Z103 HB
  clear h0_ h1_ h2_ h3_ h4_ h5_ h6_ h7_ h8_ h9_ h10_ h11_ h12_ h13_ h14_ h15_ h16_ h17_ h18_ h19_ h20_ h21_ h22_ h23_
  have Z101 := n0_; have Z102 := n1_; have Z103 := n2_; have Z125 := n3_; have Z126 := n4_; have GW125 := n5_; have GE125 := n6_; have NB101_125 := n7_; have NB125_101 := n8_; have NB102_125 := n9_; have NB125_102 := n10_; have NB103_125 := n11_; have NB125_103 := n12_; have NB126_125 := n13_; have NB125_126 := n14_; have GW126 := n15_; have GE126 := n16_; have NB101_126 := n17_; have NB126_101 := n18_; have NB102_126 := n19_; have NB126_102 := n20_; have NB103_126 := n21_; have NB126_103 := n22_; have HB := n23_
  clear n0_ n1_ n2_ n3_ n4_ n5_ n6_ n7_ n8_ n9_ n10_ n11_ n12_ n13_ n14_ n15_ n16_ n17_ n18_ n19_ n20_ n21_ n22_ n23_
  have hHeld : w38.cell? ⟨gb101, 0, none⟩ = some (.int .i64 t105) ∧ w38.cell? ⟨gb101, 1, none⟩ = some (.int .i64 t106) ∧ w38.cell? ⟨gb101, 2, none⟩ = some (.int .i64 t107) ∧ w38.cell? ⟨gb101, 3, none⟩ = some (.int .i64 t108) ∧ w38.cell? ⟨gb102, 0, none⟩ = some (.int .i64 t109) ∧ w38.cell? ⟨gb102, 1, none⟩ = some (.int .i64 t110) ∧ w38.cell? ⟨gb102, 2, none⟩ = some (.int .i64 t111) ∧ w38.cell? ⟨gb102, 3, none⟩ = some (.int .i64 t112) := hS_
  refine norm_ (a' := ?_) ?_ ?_
  rotate_left
  ·simp only [putAll, Act.put, xset_a, xset_z, xset_s]
   rfl
  refine one_ (i := 8) (N := none) #[true, true, true, true, true, true, true, true, true, false] rfl rfl (one_of HT_.out (by kernel_rfl)) (by decide) (fun K hK => ?_)
  have hs39 : w38.cell? ⟨gb125, 0, none⟩ = some (.int .i64 0) := (blk_cell Z125.out 0).trans rfl
  have hfs39 := blk_frozen Z125.out 0
  have hns39_0 := NB101_125.out
  have hns39_1 := NB102_125.out
  have hns39_2 := NB103_125.out
  have hns39_4 := NB126_125.out
  have hms39_0 := NB125_101.out
  have hms39_1 := NB125_102.out
  have hms39_2 := NB125_103.out
  have hms39_4 := NB125_126.out
  have hs40 : w38.cell? ⟨gb125, 1, none⟩ = some (.int .i64 0) := (blk_cell Z125.out 1).trans rfl
  have hfs40 := blk_frozen Z125.out 1
  have hns40_0 := NB101_125.out
  have hns40_1 := NB102_125.out
  have hns40_2 := NB103_125.out
  have hns40_4 := NB126_125.out
  have hms40_0 := NB125_101.out
  have hms40_1 := NB125_102.out
  have hms40_2 := NB125_103.out
  have hms40_4 := NB125_126.out
  have hs41 : w38.cell? ⟨gb125, 2, none⟩ = some (.int .i64 0) := (blk_cell Z125.out 2).trans rfl
  have hfs41 := blk_frozen Z125.out 2
  have hns41_0 := NB101_125.out
  have hns41_1 := NB102_125.out
  have hns41_2 := NB103_125.out
  have hns41_4 := NB126_125.out
  have hms41_0 := NB125_101.out
  have hms41_1 := NB125_102.out
  have hms41_2 := NB125_103.out
  have hms41_4 := NB125_126.out
  have hs42 : w38.cell? ⟨gb125, 3, none⟩ = some (.int .i64 0) := (blk_cell Z125.out 3).trans rfl
  have hfs42 := blk_frozen Z125.out 3
  have hns42_0 := NB101_125.out
  have hns42_1 := NB102_125.out
  have hns42_2 := NB103_125.out
  have hns42_4 := NB126_125.out
  have hms42_0 := NB125_101.out
  have hms42_1 := NB125_102.out
  have hms42_2 := NB125_103.out
  have hms42_4 := NB125_126.out
  with_reducible refine skip_ (w1 := ?_) ?_ rfl ?_ ?_
  rotate_left
  ·rfl
  ·go_simp
   rfl
  refine hK.out _ _ ⟨(by (iterate 4 (refine (cell_far (p := ⟨gb125, _, none⟩) NB101_125.out _).trans ?_)); exact hHeld.1), (by (iterate 4 (refine (cell_far (p := ⟨gb125, _, none⟩) NB101_125.out _).trans ?_)); exact hHeld.2.1), (by (iterate 4 (refine (cell_far (p := ⟨gb125, _, none⟩) NB101_125.out _).trans ?_)); exact hHeld.2.2.1), (by (iterate 4 (refine (cell_far (p := ⟨gb125, _, none⟩) NB101_125.out _).trans ?_)); exact hHeld.2.2.2.1), (by (iterate 4 (refine (cell_far (p := ⟨gb125, _, none⟩) NB102_125.out _).trans ?_)); exact hHeld.2.2.2.2.1), (by (iterate 4 (refine (cell_far (p := ⟨gb125, _, none⟩) NB102_125.out _).trans ?_)); exact hHeld.2.2.2.2.2.1), (by (iterate 4 (refine (cell_far (p := ⟨gb125, _, none⟩) NB102_125.out _).trans ?_)); exact hHeld.2.2.2.2.2.2.1), (by (iterate 4 (refine (cell_far (p := ⟨gb125, _, none⟩) NB102_125.out _).trans ?_)); exact hHeld.2.2.2.2.2.2.2)⟩ (fun hHeld => ?_)
  clear hK K
  refine one_ (i := 9) (N := none) #[true, true, true, true, true, true, true, true, true, true] rfl rfl (one_of HT_.out (by kernel_rfl)) (by decide) (fun K hK => ?_)
  have hs43 : w38.cell? ⟨gb126, 0, none⟩ = some (.int .i64 0) := (blk_cell Z126.out 0).trans rfl
  have hfs43 := blk_frozen Z126.out 0
  have hns43_0 := NB101_126.out
  have hns43_1 := NB102_126.out
  have hns43_2 := NB103_126.out
  have hns43_3 := NB125_126.out
  have hms43_0 := NB126_101.out
  have hms43_1 := NB126_102.out
  have hms43_2 := NB126_103.out
  have hms43_3 := NB126_125.out
  have hs44 : w38.cell? ⟨gb126, 1, none⟩ = some (.int .i64 0) := (blk_cell Z126.out 1).trans rfl
  have hfs44 := blk_frozen Z126.out 1
  have hns44_0 := NB101_126.out
  have hns44_1 := NB102_126.out
  have hns44_2 := NB103_126.out
  have hns44_3 := NB125_126.out
  have hms44_0 := NB126_101.out
  have hms44_1 := NB126_102.out
  have hms44_2 := NB126_103.out
  have hms44_3 := NB126_125.out
  have hs45 : w38.cell? ⟨gb126, 2, none⟩ = some (.int .i64 0) := (blk_cell Z126.out 2).trans rfl
  have hfs45 := blk_frozen Z126.out 2
  have hns45_0 := NB101_126.out
  have hns45_1 := NB102_126.out
  have hns45_2 := NB103_126.out
  have hns45_3 := NB125_126.out
  have hms45_0 := NB126_101.out
  have hms45_1 := NB126_102.out
  have hms45_2 := NB126_103.out
  have hms45_3 := NB126_125.out
  have hs46 : w38.cell? ⟨gb126, 3, none⟩ = some (.int .i64 0) := (blk_cell Z126.out 3).trans rfl
  have hfs46 := blk_frozen Z126.out 3
  have hns46_0 := NB101_126.out
  have hns46_1 := NB102_126.out
  have hns46_2 := NB103_126.out
  have hns46_3 := NB125_126.out
  have hms46_0 := NB126_101.out
  have hms46_1 := NB126_102.out
  have hms46_2 := NB126_103.out
  have hms46_3 := NB126_125.out
  with_reducible refine skip_ (w1 := ?_) ?_ rfl ?_ ?_
  rotate_left
  ·rfl
  ·go_simp
   rfl
  refine hK.out _ _ ⟨(by (iterate 4 (refine (cell_far (p := ⟨gb126, _, none⟩) NB101_126.out _).trans ?_)); exact hHeld.1), (by (iterate 4 (refine (cell_far (p := ⟨gb126, _, none⟩) NB101_126.out _).trans ?_)); exact hHeld.2.1), (by (iterate 4 (refine (cell_far (p := ⟨gb126, _, none⟩) NB101_126.out _).trans ?_)); exact hHeld.2.2.1), (by (iterate 4 (refine (cell_far (p := ⟨gb126, _, none⟩) NB101_126.out _).trans ?_)); exact hHeld.2.2.2.1), (by (iterate 4 (refine (cell_far (p := ⟨gb126, _, none⟩) NB102_126.out _).trans ?_)); exact hHeld.2.2.2.2.1), (by (iterate 4 (refine (cell_far (p := ⟨gb126, _, none⟩) NB102_126.out _).trans ?_)); exact hHeld.2.2.2.2.2.1), (by (iterate 4 (refine (cell_far (p := ⟨gb126, _, none⟩) NB102_126.out _).trans ?_)); exact hHeld.2.2.2.2.2.2.1), (by (iterate 4 (refine (cell_far (p := ⟨gb126, _, none⟩) NB102_126.out _).trans ?_)); exact hHeld.2.2.2.2.2.2.2)⟩ (fun hHeld => ?_)
  clear hK K
  refine done_ (done_of HT_.out (by kernel_rfl)) ?_
  go_upto_region 5 with (fail)
  go_cut [54] (fun v54 wc => ∃ (kq : Nat) (x54_10 : Bool), v54 = .bool x54_10 ∧ Aside0 (donjonlaw4_LabelLattice.j0 kq x54_10 t105 t106 t107 t108 t109 t110 t111 t112 t113 t114 t115 t116 t117 t118 t119 t120 t121 t122 t123 t124 = some r) ∧ Aside0 (kq ≤ k) ∧ Aside0 (wc.heap[gb101]? = some (.cells #[.int .i64 t105, .int .i64 t106, .int .i64 t107, .int .i64 t108] 23 (0, 0))) ∧ Aside0 (wc.heap[gb102]? = some (.cells #[.int .i64 t109, .int .i64 t110, .int .i64 t111, .int .i64 t112] 23 (0, 0))) ∧ Aside0 (wc.heap[gb103]? = some (.cells #[.int .i64 t113, .int .i64 t114, .int .i64 t115, .int .i64 t116] 23 (0, 0))) ∧ Aside0 (wc.heap[gb125]? = some (.cells #[.int .i64 t117, .int .i64 t118, .int .i64 t119, .int .i64 t120] 23 (0, 0))) ∧ Aside0 (wc.heap[gb126]? = some (.cells #[.int .i64 t121, .int .i64 t122, .int .i64 t123, .int .i64 t124] 23 (0, 0))) ∧ Aside0 (Below w.heap.size w wc))
  case first =>
   have H := HC11.out
   clear HC11
   replace H := Option.bind_eq_some_iff.mp H
   obtain ⟨t127, A470, H⟩ := H
   try dsimp only at H
   have A47 := Aside0.mk A470
   clear A470
   by_cases c48 : t127 = 0
   ·rw [if_pos c48] at H
    have c48b0 : (t127 == 0) = true := beq_iff_eq.mpr c48
    have c48b1 : (t127 != 0) = false := bne_eq_false_iff_eq.mpr c48
    clear c48
    (first | rw [c48b0] | (simp only [i64_w, i32_w]; rw [c48b0]) | skip)
    replace H := Option.bind_eq_some_iff.mp H
    obtain ⟨t128, A490, H⟩ := H
    try dsimp only at H
    have A49 := Aside0.mk A490
    clear A490
    by_cases c50 : t128 = 0
    ·rw [if_pos c50] at H
     have c50b0 : (t128 == 0) = true := beq_iff_eq.mpr c50
     have c50b1 : (t128 != 0) = false := bne_eq_false_iff_eq.mpr c50
     clear c50
     replace H := Option.bind_eq_some_iff.mp H
     obtain ⟨t129, A510, H⟩ := H
     try dsimp only at H
     have A51 := Aside0.mk A510
     clear A510
     by_cases c52 : t129 = true
     ·subst c52
      have H1 : ((label_Over.f t117 t118 t119 t120 t109 t110 t111 t112).bind fun t130 => (if t130 = true then ((label_Over.f t105 t106 t107 t108 t121 t122 t123 t124).bind fun t131 => (if t131 = true then ((label_Over.f t109 t110 t111 t112 t121 t122 t123 t124).bind fun t132 => (donjonlaw4_LabelLattice.j0 k (!t132) t105 t106 t107 t108 t109 t110 t111 t112 t113 t114 t115 t116 t117 t118 t119 t120 t121 t122 t123 t124)) else (donjonlaw4_LabelLattice.j0 k true t105 t106 t107 t108 t109 t110 t111 t112 t113 t114 t115 t116 t117 t118 t119 t120 t121 t122 t123 t124))) else (donjonlaw4_LabelLattice.j0 k true t105 t106 t107 t108 t109 t110 t111 t112 t113 t114 t115 t116 t117 t118 t119 t120 t121 t122 t123 t124))) = some r := by rw [if_pos rfl] at H; exact H
      clear H
      have H := H1
      clear H1
      replace H := Option.bind_eq_some_iff.mp H
      obtain ⟨t130, A530, H⟩ := H
      try dsimp only at H
      have A53 := Aside0.mk A530
      clear A530
      by_cases c54 : t130 = true
      ·subst c54
       have H1 : ((label_Over.f t105 t106 t107 t108 t121 t122 t123 t124).bind fun t131 => (if t131 = true then ((label_Over.f t109 t110 t111 t112 t121 t122 t123 t124).bind fun t132 => (donjonlaw4_LabelLattice.j0 k (!t132) t105 t106 t107 t108 t109 t110 t111 t112 t113 t114 t115 t116 t117 t118 t119 t120 t121 t122 t123 t124)) else (donjonlaw4_LabelLattice.j0 k true t105 t106 t107 t108 t109 t110 t111 t112 t113 t114 t115 t116 t117 t118 t119 t120 t121 t122 t123 t124))) = some r := by rw [if_pos rfl] at H; exact H
       clear H
       have H := H1
       clear H1
       replace H := Option.bind_eq_some_iff.mp H
       obtain ⟨t131, A550, H⟩ := H
       try dsimp only at H
       have A55 := Aside0.mk A550
       clear A550
       by_cases c56 : t131 = true
       ·subst c56
        have H1 : ((label_Over.f t109 t110 t111 t112 t121 t122 t123 t124).bind fun t132 => (donjonlaw4_LabelLattice.j0 k (!t132) t105 t106 t107 t108 t109 t110 t111 t112 t113 t114 t115 t116 t117 t118 t119 t120 t121 t122 t123 t124)) = some r := by rw [if_pos rfl] at H; exact H
        clear H
        have H := H1
        clear H1
        replace H := Option.bind_eq_some_iff.mp H
        obtain ⟨t132, A570, H⟩ := H
        try dsimp only at H
        have A57 := Aside0.mk A570
        clear A570
        have H' := Aside0.mk H
        clear H
        have hnb58 := NB125_101.out
        have hnc58 := NB101_125.out
        have hnb59 := NB125_102.out
        have hnc59 := NB102_125.out
        have hnb60 := NB125_103.out
        have hnc60 := NB103_125.out
        have hnb61 := NB125_126.out
        have hnc61 := NB126_125.out
        obtain ⟨hcz62_0, hcz62_1, hcz62_2, hcz62_3⟩ := bcs4 Z125.out
        obtain ⟨hfz62_0, hfz62_1, hfz62_2, hfz62_3⟩ := bfs4 Z125.out
        go_wp2_with (first | ((with_reducible refine gate_callee (f := 21) rfl ?_); refine goesL_ (some 24) rfl rfl Tryd.func21 (by kernel_rfl) rfl #[.agg #[.int .i64 t117, .int .i64 t118, .int .i64 t119, .int .i64 t120]] rfl (by (try simp only [List.map_toArray, List.map_cons, List.map_nil]); first | done | rfl | (simp only [List.length_drop, List.length_take]; rfl)) ?_; (with_reducible refine (label_Check.calls t117 t118 t119 t120 t127 _ A47.out).mono ?_); rintro e w63 ⟨rfl, hb⟩; refine ⟨_, rfl, ?_⟩; have n0_ := Aside0.mk (blk_below (g := gb101) (o := .cells #[.int .i64 t105, .int .i64 t106, .int .i64 t107, .int .i64 t108] 23 (0, 0)) (by (iterate 4 ((with_reducible repeat (first | refine blk_drewN ?_ _ | refine blk_drew ?_ | refine blk_alloc ?_ _)); refine blk_far ?_ NB101_126.out _)); (with_reducible repeat (first | refine blk_drewN ?_ _ | refine blk_drew ?_ | refine blk_alloc ?_ _)); refine blk_far ?_ NB101_125.out _; (iterate 3 ((with_reducible repeat (first | refine blk_drewN ?_ _ | refine blk_drew ?_ | refine blk_alloc ?_ _)); refine blk_far ?_ NB101_125.out _)); (with_reducible repeat (first | refine blk_drewN ?_ _ | refine blk_drew ?_ | refine blk_alloc ?_ _)); exact Z101.out) hb); have n1_ := Aside0.mk (blk_below (g := gb102) (o := .cells #[.int .i64 t109, .int .i64 t110, .int .i64 t111, .int .i64 t112] 23 (0, 0)) (by (iterate 4 ((with_reducible repeat (first | refine blk_drewN ?_ _ | refine blk_drew ?_ | refine blk_alloc ?_ _)); refine blk_far ?_ NB102_126.out _)); (with_reducible repeat (first | refine blk_drewN ?_ _ | refine blk_drew ?_ | refine blk_alloc ?_ _)); refine blk_far ?_ NB102_125.out _; (iterate 3 ((with_reducible repeat (first | refine blk_drewN ?_ _ | refine blk_drew ?_ | refine blk_alloc ?_ _)); refine blk_far ?_ NB102_125.out _)); (with_reducible repeat (first | refine blk_drewN ?_ _ | refine blk_drew ?_ | refine blk_alloc ?_ _)); exact Z102.out) hb); have n2_ := Aside0.mk (blk_below (g := gb103) (o := .cells #[.int .i64 t113, .int .i64 t114, .int .i64 t115, .int .i64 t116] 23 (0, 0)) (by (iterate 4 ((with_reducible repeat (first | refine blk_drewN ?_ _ | refine blk_drew ?_ | refine blk_alloc ?_ _)); refine blk_far ?_ NB103_126.out _)); (with_reducible repeat (first | refine blk_drewN ?_ _ | refine blk_drew ?_ | refine blk_alloc ?_ _)); refine blk_far ?_ NB103_125.out _; (iterate 3 ((with_reducible repeat (first | refine blk_drewN ?_ _ | refine blk_drew ?_ | refine blk_alloc ?_ _)); refine blk_far ?_ NB103_125.out _)); (with_reducible repeat (first | refine blk_drewN ?_ _ | refine blk_drew ?_ | refine blk_alloc ?_ _)); exact Z103.out) hb); have n3_ := Aside0.mk (blk_below (g := gb125) (o := .cells #[.int .i64 t117, .int .i64 t118, .int .i64 t119, .int .i64 t120] 23 (0, 0)) (by (iterate 4 ((with_reducible repeat (first | refine blk_drewN ?_ _ | refine blk_drew ?_ | refine blk_alloc ?_ _)); refine blk_far ?_ NB125_126.out _)); (with_reducible repeat (first | refine blk_drewN ?_ _ | refine blk_drew ?_ | refine blk_alloc ?_ _)); refine puts4 (cs := #[.int .i64 0, .int .i64 0, .int .i64 0, .int .i64 0]) ?_ rfl; (with_reducible repeat (first | refine blk_drewN ?_ _ | refine blk_drew ?_ | refine blk_alloc ?_ _)); exact Z125.out) hb); have n4_ := Aside0.mk (blk_below (g := gb126) (o := .cells #[.int .i64 t121, .int .i64 t122, .int .i64 t123, .int .i64 t124] 23 (0, 0)) (by (with_reducible repeat (first | refine blk_drewN ?_ _ | refine blk_drew ?_ | refine blk_alloc ?_ _)); refine puts4 (cs := #[.int .i64 0, .int .i64 0, .int .i64 0, .int .i64 0]) ?_ rfl; (iterate 4 ((with_reducible repeat (first | refine blk_drewN ?_ _ | refine blk_drew ?_ | refine blk_alloc ?_ _)); refine blk_far ?_ NB126_125.out _)); (with_reducible repeat (first | refine blk_drewN ?_ _ | refine blk_drew ?_ | refine blk_alloc ?_ _)); exact Z126.out) hb); have n5_ := Aside0.mk (below_step (bl_ HB.out) hb); clear Z101 Z102 Z103 Z125 Z126 HB; have Z101 := n0_; have Z102 := n1_; have Z103 := n2_; have Z125 := n3_; have Z126 := n4_; have HB := n5_; clear n0_ n1_ n2_ n3_ n4_ n5_; (try clear hb); (try clear hb2); (try clear hk); (try clear hi); have hnb64 := NB126_101.out; have hnc64 := NB101_126.out; have hnb65 := NB126_102.out; have hnc65 := NB102_126.out; have hnb66 := NB126_103.out; have hnc66 := NB103_126.out; obtain ⟨hcz67_0, hcz67_1, hcz67_2, hcz67_3⟩ := bcs4 Z126.out; obtain ⟨hfz67_0, hfz67_1, hfz67_2, hfz67_3⟩ := bfs4 Z126.out) | (go_at_call 21; (with_reducible refine (label_Check.calls t121 t122 t123 t124 t128 _ A49.out).mono ?_); rintro e w68 ⟨rfl, hb⟩; have n0_ := bb_ Z101 hb; have n1_ := bb_ Z102 hb; have n2_ := bb_ Z103 hb; have n3_ := bb_ Z125 hb; have n4_ := bb_ Z126 hb; have n5_ := Aside0.mk (below_step (bl_ HB.out) hb); clear Z101 Z102 Z103 Z125 Z126 HB; have Z101 := n0_; have Z102 := n1_; have Z103 := n2_; have Z125 := n3_; have Z126 := n4_; have HB := n5_; clear n0_ n1_ n2_ n3_ n4_ n5_; (try clear hb); (try clear hb2); (try clear hk); (try clear hi); obtain ⟨hcz69_0, hcz69_1, hcz69_2, hcz69_3⟩ := bcs4 Z125.out; obtain ⟨hfz69_0, hfz69_1, hfz69_2, hfz69_3⟩ := bfs4 Z125.out; have hnb70 := NB101_102.out; have hnc70 := NB102_101.out; have hnb71 := NB101_103.out; have hnc71 := NB103_101.out; obtain ⟨hcz72_0, hcz72_1, hcz72_2, hcz72_3⟩ := bcs4 Z101.out; obtain ⟨hfz72_0, hfz72_1, hfz72_2, hfz72_3⟩ := bfs4 Z101.out) | (go_at_call 16; (with_reducible refine (label_Over.calls t117 t118 t119 t120 t105 t106 t107 t108 true _ A51.out).mono ?_); rintro e w73 ⟨rfl, hb⟩; have n0_ := bb_ Z101 hb; have n1_ := bb_ Z102 hb; have n2_ := bb_ Z103 hb; have n3_ := bb_ Z125 hb; have n4_ := bb_ Z126 hb; have n5_ := Aside0.mk (below_step (bl_ HB.out) hb); clear Z101 Z102 Z103 Z125 Z126 HB; have Z101 := n0_; have Z102 := n1_; have Z103 := n2_; have Z125 := n3_; have Z126 := n4_; have HB := n5_; clear n0_ n1_ n2_ n3_ n4_ n5_; (try clear hb); (try clear hb2); (try clear hk); (try clear hi); obtain ⟨hcz74_0, hcz74_1, hcz74_2, hcz74_3⟩ := bcs4 Z125.out; obtain ⟨hfz74_0, hfz74_1, hfz74_2, hfz74_3⟩ := bfs4 Z125.out; have hnb75 := NB102_103.out; have hnc75 := NB103_102.out; obtain ⟨hcz76_0, hcz76_1, hcz76_2, hcz76_3⟩ := bcs4 Z102.out; obtain ⟨hfz76_0, hfz76_1, hfz76_2, hfz76_3⟩ := bfs4 Z102.out) | (go_at_call 16; (with_reducible refine (label_Over.calls t117 t118 t119 t120 t109 t110 t111 t112 true _ A53.out).mono ?_); rintro e w77 ⟨rfl, hb⟩; have n0_ := bb_ Z101 hb; have n1_ := bb_ Z102 hb; have n2_ := bb_ Z103 hb; have n3_ := bb_ Z125 hb; have n4_ := bb_ Z126 hb; have n5_ := Aside0.mk (below_step (bl_ HB.out) hb); clear Z101 Z102 Z103 Z125 Z126 HB; have Z101 := n0_; have Z102 := n1_; have Z103 := n2_; have Z125 := n3_; have Z126 := n4_; have HB := n5_; clear n0_ n1_ n2_ n3_ n4_ n5_; (try clear hb); (try clear hb2); (try clear hk); (try clear hi); obtain ⟨hcz78_0, hcz78_1, hcz78_2, hcz78_3⟩ := bcs4 Z101.out; obtain ⟨hfz78_0, hfz78_1, hfz78_2, hfz78_3⟩ := bfs4 Z101.out; obtain ⟨hcz79_0, hcz79_1, hcz79_2, hcz79_3⟩ := bcs4 Z126.out; obtain ⟨hfz79_0, hfz79_1, hfz79_2, hfz79_3⟩ := bfs4 Z126.out) | (go_at_call 16; (with_reducible refine (label_Over.calls t105 t106 t107 t108 t121 t122 t123 t124 true _ A55.out).mono ?_); rintro e w80 ⟨rfl, hb⟩; have n0_ := bb_ Z101 hb; have n1_ := bb_ Z102 hb; have n2_ := bb_ Z103 hb; have n3_ := bb_ Z125 hb; have n4_ := bb_ Z126 hb; have n5_ := Aside0.mk (below_step (bl_ HB.out) hb); clear Z101 Z102 Z103 Z125 Z126 HB; have Z101 := n0_; have Z102 := n1_; have Z103 := n2_; have Z125 := n3_; have Z126 := n4_; have HB := n5_; clear n0_ n1_ n2_ n3_ n4_ n5_; (try clear hb); (try clear hb2); (try clear hk); (try clear hi); obtain ⟨hcz81_0, hcz81_1, hcz81_2, hcz81_3⟩ := bcs4 Z102.out; obtain ⟨hfz81_0, hfz81_1, hfz81_2, hfz81_3⟩ := bfs4 Z102.out; obtain ⟨hcz82_0, hcz82_1, hcz82_2, hcz82_3⟩ := bcs4 Z126.out; obtain ⟨hfz82_0, hfz82_1, hfz82_2, hfz82_3⟩ := bfs4 Z126.out) | (go_at_call 16; (with_reducible refine (label_Over.calls t109 t110 t111 t112 t121 t122 t123 t124 t132 _ A57.out).mono ?_); rintro e w83 ⟨rfl, hb⟩; have n0_ := bb_ Z101 hb; have n1_ := bb_ Z102 hb; have n2_ := bb_ Z103 hb; have n3_ := bb_ Z125 hb; have n4_ := bb_ Z126 hb; have n5_ := Aside0.mk (below_step (bl_ HB.out) hb); clear Z101 Z102 Z103 Z125 Z126 HB; have Z101 := n0_; have Z102 := n1_; have Z103 := n2_; have Z125 := n3_; have Z126 := n4_; have HB := n5_; clear n0_ n1_ n2_ n3_ n4_ n5_; (try clear hb); (try clear hb2); (try clear hk); (try clear hi)))
        go_meet
        case rel => exact ⟨_, (!t132), (by first | rfl | (simp; done) | (simp [*]; done)), H', ⟨by first | omega | exact Nat.le_refl _⟩, ⟨bk_ Z101.out⟩, ⟨bk_ Z102.out⟩, ⟨bk_ Z103.out⟩, ⟨bk_ Z125.out⟩, ⟨bk_ Z126.out⟩, ⟨bl_ HB.out⟩⟩
       ·replace c56 := Bool.eq_false_iff.mpr c56
        subst c56
        have H1 : (donjonlaw4_LabelLattice.j0 k true t105 t106 t107 t108 t109 t110 t111 t112 t113 t114 t115 t116 t117 t118 t119 t120 t121 t122 t123 t124) = some r := by rw [if_neg (show ¬ (false = true) by decide)] at H; exact H
        clear H
        have H := H1
        clear H1
        exact absurd HRT.out (by intro hr_; subst hr_; cases k with | zero => exact absurd H (by simp [donjonlaw4_LabelLattice.j0]) | succ k_ => (revert H; rw [donjonlaw4_LabelLattice.j0, if_pos rfl]; decide))
      ·replace c54 := Bool.eq_false_iff.mpr c54
       subst c54
       have H1 : (donjonlaw4_LabelLattice.j0 k true t105 t106 t107 t108 t109 t110 t111 t112 t113 t114 t115 t116 t117 t118 t119 t120 t121 t122 t123 t124) = some r := by rw [if_neg (show ¬ (false = true) by decide)] at H; exact H
       clear H
       have H := H1
       clear H1
       exact absurd HRT.out (by intro hr_; subst hr_; cases k with | zero => exact absurd H (by simp [donjonlaw4_LabelLattice.j0]) | succ k_ => (revert H; rw [donjonlaw4_LabelLattice.j0, if_pos rfl]; decide))
     ·replace c52 := Bool.eq_false_iff.mpr c52
      subst c52
      have H1 : (donjonlaw4_LabelLattice.j0 k true t105 t106 t107 t108 t109 t110 t111 t112 t113 t114 t115 t116 t117 t118 t119 t120 t121 t122 t123 t124) = some r := by rw [if_neg (show ¬ (false = true) by decide)] at H; exact H
      clear H
      have H := H1
      clear H1
      exact absurd HRT.out (by intro hr_; subst hr_; cases k with | zero => exact absurd H (by simp [donjonlaw4_LabelLattice.j0]) | succ k_ => (revert H; rw [donjonlaw4_LabelLattice.j0, if_pos rfl]; decide))
    ·rw [if_neg c50] at H
     have c50b0 : (t128 == 0) = false := beq_eq_false_iff_ne.mpr c50
     have c50b1 : (t128 != 0) = true := bne_iff_ne.mpr c50
     exact absurd HRT.out (by intro hr_; subst hr_; cases k with | zero => exact absurd H (by simp [donjonlaw4_LabelLattice.j0]) | succ k_ => (revert H; rw [donjonlaw4_LabelLattice.j0, if_pos rfl]; decide))
   ·rw [if_neg c48] at H
    have c48b0 : (t127 == 0) = false := beq_eq_false_iff_ne.mpr c48
    have c48b1 : (t127 != 0) = true := bne_iff_ne.mpr c48
    (first | rw [c48b0] | (simp only [i64_w, i32_w]; rw [c48b0]) | skip)
    exact absurd HRT.out (by intro hr_; subst hr_; cases k with | zero => exact absurd H (by simp [donjonlaw4_LabelLattice.j0]) | succ k_ => (revert H; rw [donjonlaw4_LabelLattice.j0, if_pos rfl]; decide))
  case rest =>
   clear HC11
   try clear c1
   try clear c2
   try clear p2
   try clear c4
   try clear c5
   try clear c6
   try clear c7
   try clear c19
   try clear c21
   try clear c48
   try clear c48b0
   try clear c48b1
   try clear c50
   try clear c50b0
   try clear c50b1
   try clear c52
   try clear c54
   try clear c56
   try clear c58
   try clear c59
   try clear c60
   try clear c61
   try clear c64
   try clear c65
   try clear c66
   try clear c70
   try clear c71
   try clear c75
   try clear hcz62_0 hcz62_1 hcz62_2 hcz62_3
   try clear hcz67_0 hcz67_1 hcz67_2 hcz67_3
   try clear hcz69_0 hcz69_1 hcz69_2 hcz69_3
   try clear hcz72_0 hcz72_1 hcz72_2 hcz72_3
   try clear hcz74_0 hcz74_1 hcz74_2 hcz74_3
   try clear hcz76_0 hcz76_1 hcz76_2 hcz76_3
   try clear hcz78_0 hcz78_1 hcz78_2 hcz78_3
   try clear hcz79_0 hcz79_1 hcz79_2 hcz79_3
   try clear hcz81_0 hcz81_1 hcz81_2 hcz81_3
   try clear hcz82_0 hcz82_1 hcz82_2 hcz82_3
   try clear hfz62_0 hfz62_1 hfz62_2 hfz62_3
   try clear hfz67_0 hfz67_1 hfz67_2 hfz67_3
   try clear hfz69_0 hfz69_1 hfz69_2 hfz69_3
   try clear hfz72_0 hfz72_1 hfz72_2 hfz72_3
   try clear hfz74_0 hfz74_1 hfz74_2 hfz74_3
   try clear hfz76_0 hfz76_1 hfz76_2 hfz76_3
   try clear hfz78_0 hfz78_1 hfz78_2 hfz78_3
   try clear hfz79_0 hfz79_1 hfz79_2 hfz79_3
   try clear hfz81_0 hfz81_1 hfz81_2 hfz81_3
   try clear hfz82_0 hfz82_1 hfz82_2 hfz82_3
   obtain ⟨kq, x54_10, rfl, HA, HJ10, Z101, Z102, Z103, Z125, Z126, HB⟩ := hcut
   cases kq with
   | zero => exact absurd HA.out (by simp [donjonlaw4_LabelLattice.j0])
   | succ kj10 =>
    have H := HA.out
    clear HA
    simp only [donjonlaw4_LabelLattice.j0] at H
    by_cases c84 : x54_10 = true
    ·subst c84
     have H1 : (some false) = some r := by rw [if_pos rfl] at H; exact H
     clear H
     have H := H1
     clear H1
     obtain rfl := Option.some.inj H
     exact absurd HRT.out (by decide)
    ·replace c84 := Bool.eq_false_iff.mpr c84
     subst c84
     have H1 : ((label_Over.f t113 t114 t115 t116 t105 t106 t107 t108).bind fun t133 => (if t133 = true then ((label_Over.f t113 t114 t115 t116 t109 t110 t111 t112).bind fun t134 => (if t134 = true then ((label_Over.f t113 t114 t115 t116 t117 t118 t119 t120).bind fun t135 => (if t135 = true then ((label_Over.f t105 t106 t107 t108 t113 t114 t115 t116).bind fun t136 => (if t136 = true then ((label_Over.f t109 t110 t111 t112 t113 t114 t115 t116).bind fun t137 => (if t137 = true then ((label_Over.f t121 t122 t123 t124 t113 t114 t115 t116).bind fun t138 => (donjonlaw4_LabelLattice.j1 kj10 (!t138) t105 t106 t107 t108 t109 t110 t111 t112 t117 t118 t119 t120 t121 t122 t123 t124)) else (donjonlaw4_LabelLattice.j1 kj10 false t105 t106 t107 t108 t109 t110 t111 t112 t117 t118 t119 t120 t121 t122 t123 t124))) else (donjonlaw4_LabelLattice.j1 kj10 false t105 t106 t107 t108 t109 t110 t111 t112 t117 t118 t119 t120 t121 t122 t123 t124))) else (donjonlaw4_LabelLattice.j1 kj10 true t105 t106 t107 t108 t109 t110 t111 t112 t117 t118 t119 t120 t121 t122 t123 t124))) else ((label_Over.f t105 t106 t107 t108 t113 t114 t115 t116).bind fun t139 => (if t139 = true then ((label_Over.f t109 t110 t111 t112 t113 t114 t115 t116).bind fun t140 => (if t140 = true then ((label_Over.f t121 t122 t123 t124 t113 t114 t115 t116).bind fun t141 => (donjonlaw4_LabelLattice.j1 kj10 (!t141) t105 t106 t107 t108 t109 t110 t111 t112 t117 t118 t119 t120 t121 t122 t123 t124)) else (donjonlaw4_LabelLattice.j1 kj10 false t105 t106 t107 t108 t109 t110 t111 t112 t117 t118 t119 t120 t121 t122 t123 t124))) else (donjonlaw4_LabelLattice.j1 kj10 false t105 t106 t107 t108 t109 t110 t111 t112 t117 t118 t119 t120 t121 t122 t123 t124))))) else ((label_Over.f t105 t106 t107 t108 t113 t114 t115 t116).bind fun t142 => (if t142 = true then ((label_Over.f t109 t110 t111 t112 t113 t114 t115 t116).bind fun t143 => (if t143 = true then ((label_Over.f t121 t122 t123 t124 t113 t114 t115 t116).bind fun t144 => (donjonlaw4_LabelLattice.j1 kj10 (!t144) t105 t106 t107 t108 t109 t110 t111 t112 t117 t118 t119 t120 t121 t122 t123 t124)) else (donjonlaw4_LabelLattice.j1 kj10 false t105 t106 t107 t108 t109 t110 t111 t112 t117 t118 t119 t120 t121 t122 t123 t124))) else (donjonlaw4_LabelLattice.j1 kj10 false t105 t106 t107 t108 t109 t110 t111 t112 t117 t118 t119 t120 t121 t122 t123 t124))))) = some r := by rw [if_neg (show ¬ (false = true) by decide)] at H; exact H
     clear H
     have H := H1
     clear H1
     have HC85 := Aside0.mk H
     clear H
     go_upto_region 7 with (fail)
     go_cut [84] (fun v84 wc => ∃ (kq : Nat) (x84_84 : Bool), v84 = .bool x84_84 ∧ Aside0 (donjonlaw4_LabelLattice.j1 kq x84_84 t105 t106 t107 t108 t109 t110 t111 t112 t117 t118 t119 t120 t121 t122 t123 t124 = some r) ∧ Aside0 (kq ≤ kj10) ∧ Aside0 (wc.heap[gb101]? = some (.cells #[.int .i64 t105, .int .i64 t106, .int .i64 t107, .int .i64 t108] 23 (0, 0))) ∧ Aside0 (wc.heap[gb102]? = some (.cells #[.int .i64 t109, .int .i64 t110, .int .i64 t111, .int .i64 t112] 23 (0, 0))) ∧ Aside0 (wc.heap[gb103]? = some (.cells #[.int .i64 t113, .int .i64 t114, .int .i64 t115, .int .i64 t116] 23 (0, 0))) ∧ Aside0 (wc.heap[gb125]? = some (.cells #[.int .i64 t117, .int .i64 t118, .int .i64 t119, .int .i64 t120] 23 (0, 0))) ∧ Aside0 (wc.heap[gb126]? = some (.cells #[.int .i64 t121, .int .i64 t122, .int .i64 t123, .int .i64 t124] 23 (0, 0))) ∧ Aside0 (Below w.heap.size w wc))
     case first =>
      have H := HC85.out
      clear HC85
      replace H := Option.bind_eq_some_iff.mp H
      obtain ⟨t133, A860, H⟩ := H
      try dsimp only at H
      have A86 := Aside0.mk A860
      clear A860
      by_cases c87 : t133 = true
      ·subst c87
       have H1 : ((label_Over.f t113 t114 t115 t116 t109 t110 t111 t112).bind fun t134 => (if t134 = true then ((label_Over.f t113 t114 t115 t116 t117 t118 t119 t120).bind fun t135 => (if t135 = true then ((label_Over.f t105 t106 t107 t108 t113 t114 t115 t116).bind fun t136 => (if t136 = true then ((label_Over.f t109 t110 t111 t112 t113 t114 t115 t116).bind fun t137 => (if t137 = true then ((label_Over.f t121 t122 t123 t124 t113 t114 t115 t116).bind fun t138 => (donjonlaw4_LabelLattice.j1 kj10 (!t138) t105 t106 t107 t108 t109 t110 t111 t112 t117 t118 t119 t120 t121 t122 t123 t124)) else (donjonlaw4_LabelLattice.j1 kj10 false t105 t106 t107 t108 t109 t110 t111 t112 t117 t118 t119 t120 t121 t122 t123 t124))) else (donjonlaw4_LabelLattice.j1 kj10 false t105 t106 t107 t108 t109 t110 t111 t112 t117 t118 t119 t120 t121 t122 t123 t124))) else (donjonlaw4_LabelLattice.j1 kj10 true t105 t106 t107 t108 t109 t110 t111 t112 t117 t118 t119 t120 t121 t122 t123 t124))) else ((label_Over.f t105 t106 t107 t108 t113 t114 t115 t116).bind fun t139 => (if t139 = true then ((label_Over.f t109 t110 t111 t112 t113 t114 t115 t116).bind fun t140 => (if t140 = true then ((label_Over.f t121 t122 t123 t124 t113 t114 t115 t116).bind fun t141 => (donjonlaw4_LabelLattice.j1 kj10 (!t141) t105 t106 t107 t108 t109 t110 t111 t112 t117 t118 t119 t120 t121 t122 t123 t124)) else (donjonlaw4_LabelLattice.j1 kj10 false t105 t106 t107 t108 t109 t110 t111 t112 t117 t118 t119 t120 t121 t122 t123 t124))) else (donjonlaw4_LabelLattice.j1 kj10 false t105 t106 t107 t108 t109 t110 t111 t112 t117 t118 t119 t120 t121 t122 t123 t124))))) = some r := by rw [if_pos rfl] at H; exact H
       clear H
       have H := H1
       clear H1
       replace H := Option.bind_eq_some_iff.mp H
       obtain ⟨t134, A880, H⟩ := H
       try dsimp only at H
       have A88 := Aside0.mk A880
       clear A880
       by_cases c89 : t134 = true
       ·subst c89
        have H1 : ((label_Over.f t113 t114 t115 t116 t117 t118 t119 t120).bind fun t135 => (if t135 = true then ((label_Over.f t105 t106 t107 t108 t113 t114 t115 t116).bind fun t136 => (if t136 = true then ((label_Over.f t109 t110 t111 t112 t113 t114 t115 t116).bind fun t137 => (if t137 = true then ((label_Over.f t121 t122 t123 t124 t113 t114 t115 t116).bind fun t138 => (donjonlaw4_LabelLattice.j1 kj10 (!t138) t105 t106 t107 t108 t109 t110 t111 t112 t117 t118 t119 t120 t121 t122 t123 t124)) else (donjonlaw4_LabelLattice.j1 kj10 false t105 t106 t107 t108 t109 t110 t111 t112 t117 t118 t119 t120 t121 t122 t123 t124))) else (donjonlaw4_LabelLattice.j1 kj10 false t105 t106 t107 t108 t109 t110 t111 t112 t117 t118 t119 t120 t121 t122 t123 t124))) else (donjonlaw4_LabelLattice.j1 kj10 true t105 t106 t107 t108 t109 t110 t111 t112 t117 t118 t119 t120 t121 t122 t123 t124))) = some r := by rw [if_pos rfl] at H; exact H
        clear H
        have H := H1
        clear H1
        replace H := Option.bind_eq_some_iff.mp H
        obtain ⟨t135, A900, H⟩ := H
        try dsimp only at H
        have A90 := Aside0.mk A900
        clear A900
        by_cases c91 : t135 = true
        ·subst c91
         have H1 : ((label_Over.f t105 t106 t107 t108 t113 t114 t115 t116).bind fun t136 => (if t136 = true then ((label_Over.f t109 t110 t111 t112 t113 t114 t115 t116).bind fun t137 => (if t137 = true then ((label_Over.f t121 t122 t123 t124 t113 t114 t115 t116).bind fun t138 => (donjonlaw4_LabelLattice.j1 kj10 (!t138) t105 t106 t107 t108 t109 t110 t111 t112 t117 t118 t119 t120 t121 t122 t123 t124)) else (donjonlaw4_LabelLattice.j1 kj10 false t105 t106 t107 t108 t109 t110 t111 t112 t117 t118 t119 t120 t121 t122 t123 t124))) else (donjonlaw4_LabelLattice.j1 kj10 false t105 t106 t107 t108 t109 t110 t111 t112 t117 t118 t119 t120 t121 t122 t123 t124))) = some r := by rw [if_pos rfl] at H; exact H
         clear H
         have H := H1
         clear H1
         replace H := Option.bind_eq_some_iff.mp H
         obtain ⟨t136, A920, H⟩ := H
         try dsimp only at H
         have A92 := Aside0.mk A920
         clear A920
         by_cases c93 : t136 = true
         ·subst c93
          have H1 : ((label_Over.f t109 t110 t111 t112 t113 t114 t115 t116).bind fun t137 => (if t137 = true then ((label_Over.f t121 t122 t123 t124 t113 t114 t115 t116).bind fun t138 => (donjonlaw4_LabelLattice.j1 kj10 (!t138) t105 t106 t107 t108 t109 t110 t111 t112 t117 t118 t119 t120 t121 t122 t123 t124)) else (donjonlaw4_LabelLattice.j1 kj10 false t105 t106 t107 t108 t109 t110 t111 t112 t117 t118 t119 t120 t121 t122 t123 t124))) = some r := by rw [if_pos rfl] at H; exact H
          clear H
          have H := H1
          clear H1
          replace H := Option.bind_eq_some_iff.mp H
          obtain ⟨t137, A940, H⟩ := H
          try dsimp only at H
          have A94 := Aside0.mk A940
          clear A940
          by_cases c95 : t137 = true
          ·subst c95
           have H1 : ((label_Over.f t121 t122 t123 t124 t113 t114 t115 t116).bind fun t138 => (donjonlaw4_LabelLattice.j1 kj10 (!t138) t105 t106 t107 t108 t109 t110 t111 t112 t117 t118 t119 t120 t121 t122 t123 t124)) = some r := by rw [if_pos rfl] at H; exact H
           clear H
           have H := H1
           clear H1
           replace H := Option.bind_eq_some_iff.mp H
           obtain ⟨t138, A960, H⟩ := H
           try dsimp only at H
           have A96 := Aside0.mk A960
           clear A960
           have H' := Aside0.mk H
           clear H
           have hnb97 := NB103_101.out
           have hnc97 := NB101_103.out
           have hnb98 := NB103_102.out
           have hnc98 := NB102_103.out
           have hnb99 := NB103_125.out
           have hnc99 := NB125_103.out
           have hnb100 := NB103_126.out
           have hnc100 := NB126_103.out
           obtain ⟨hcz101_0, hcz101_1, hcz101_2, hcz101_3⟩ := bcs4 Z103.out
           obtain ⟨hfz101_0, hfz101_1, hfz101_2, hfz101_3⟩ := bfs4 Z103.out
           have hnb102 := NB101_102.out
           have hnc102 := NB102_101.out
           have hnb103 := NB101_125.out
           have hnc103 := NB125_101.out
           have hnb104 := NB101_126.out
           have hnc104 := NB126_101.out
           obtain ⟨hcz105_0, hcz105_1, hcz105_2, hcz105_3⟩ := bcs4 Z101.out
           obtain ⟨hfz105_0, hfz105_1, hfz105_2, hfz105_3⟩ := bfs4 Z101.out
           go_wp2_with (first | ((with_reducible refine gate_callee (f := 16) rfl ?_); refine goesL_ (some 57) rfl rfl Tryd.func16 (by kernel_rfl) rfl #[.agg #[.int .i64 t113, .int .i64 t114, .int .i64 t115, .int .i64 t116], .agg #[.int .i64 t105, .int .i64 t106, .int .i64 t107, .int .i64 t108]] rfl (by (try simp only [List.map_toArray, List.map_cons, List.map_nil]); first | done | rfl | (simp only [List.length_drop, List.length_take]; rfl)) ?_; (with_reducible refine (label_Over.calls t113 t114 t115 t116 t105 t106 t107 t108 true _ A86.out).mono ?_); rintro e w106 ⟨rfl, hb⟩; refine ⟨_, rfl, ?_⟩; have n0_ := bb_ Z101 hb; have n1_ := bb_ Z102 hb; have n2_ := bb_ Z103 hb; have n3_ := bb_ Z125 hb; have n4_ := bb_ Z126 hb; have n5_ := Aside0.mk (below_step (bl_ HB.out) hb); clear Z101 Z102 Z103 Z125 Z126 HB; have Z101 := n0_; have Z102 := n1_; have Z103 := n2_; have Z125 := n3_; have Z126 := n4_; have HB := n5_; clear n0_ n1_ n2_ n3_ n4_ n5_; (try clear hb); (try clear hb2); (try clear hk); (try clear hi); obtain ⟨hcz107_0, hcz107_1, hcz107_2, hcz107_3⟩ := bcs4 Z103.out; obtain ⟨hfz107_0, hfz107_1, hfz107_2, hfz107_3⟩ := bfs4 Z103.out; have hnb108 := NB102_125.out; have hnc108 := NB125_102.out; have hnb109 := NB102_126.out; have hnc109 := NB126_102.out; obtain ⟨hcz110_0, hcz110_1, hcz110_2, hcz110_3⟩ := bcs4 Z102.out; obtain ⟨hfz110_0, hfz110_1, hfz110_2, hfz110_3⟩ := bfs4 Z102.out) | (go_at_call 16; (with_reducible refine (label_Over.calls t113 t114 t115 t116 t109 t110 t111 t112 true _ A88.out).mono ?_); rintro e w111 ⟨rfl, hb⟩; have n0_ := bb_ Z101 hb; have n1_ := bb_ Z102 hb; have n2_ := bb_ Z103 hb; have n3_ := bb_ Z125 hb; have n4_ := bb_ Z126 hb; have n5_ := Aside0.mk (below_step (bl_ HB.out) hb); clear Z101 Z102 Z103 Z125 Z126 HB; have Z101 := n0_; have Z102 := n1_; have Z103 := n2_; have Z125 := n3_; have Z126 := n4_; have HB := n5_; clear n0_ n1_ n2_ n3_ n4_ n5_; (try clear hb); (try clear hb2); (try clear hk); (try clear hi); obtain ⟨hcz112_0, hcz112_1, hcz112_2, hcz112_3⟩ := bcs4 Z103.out; obtain ⟨hfz112_0, hfz112_1, hfz112_2, hfz112_3⟩ := bfs4 Z103.out; have hnb113 := NB125_126.out; have hnc113 := NB126_125.out; obtain ⟨hcz114_0, hcz114_1, hcz114_2, hcz114_3⟩ := bcs4 Z125.out; obtain ⟨hfz114_0, hfz114_1, hfz114_2, hfz114_3⟩ := bfs4 Z125.out) | (go_at_call 16; (with_reducible refine (label_Over.calls t113 t114 t115 t116 t117 t118 t119 t120 true _ A90.out).mono ?_); rintro e w115 ⟨rfl, hb⟩; have n0_ := bb_ Z101 hb; have n1_ := bb_ Z102 hb; have n2_ := bb_ Z103 hb; have n3_ := bb_ Z125 hb; have n4_ := bb_ Z126 hb; have n5_ := Aside0.mk (below_step (bl_ HB.out) hb); clear Z101 Z102 Z103 Z125 Z126 HB; have Z101 := n0_; have Z102 := n1_; have Z103 := n2_; have Z125 := n3_; have Z126 := n4_; have HB := n5_; clear n0_ n1_ n2_ n3_ n4_ n5_; (try clear hb); (try clear hb2); (try clear hk); (try clear hi); obtain ⟨hcz116_0, hcz116_1, hcz116_2, hcz116_3⟩ := bcs4 Z101.out; obtain ⟨hfz116_0, hfz116_1, hfz116_2, hfz116_3⟩ := bfs4 Z101.out; obtain ⟨hcz117_0, hcz117_1, hcz117_2, hcz117_3⟩ := bcs4 Z103.out; obtain ⟨hfz117_0, hfz117_1, hfz117_2, hfz117_3⟩ := bfs4 Z103.out) | (go_at_call 16; (with_reducible refine (label_Over.calls t105 t106 t107 t108 t113 t114 t115 t116 true _ A92.out).mono ?_); rintro e w118 ⟨rfl, hb⟩; have n0_ := bb_ Z101 hb; have n1_ := bb_ Z102 hb; have n2_ := bb_ Z103 hb; have n3_ := bb_ Z125 hb; have n4_ := bb_ Z126 hb; have n5_ := Aside0.mk (below_step (bl_ HB.out) hb); clear Z101 Z102 Z103 Z125 Z126 HB; have Z101 := n0_; have Z102 := n1_; have Z103 := n2_; have Z125 := n3_; have Z126 := n4_; have HB := n5_; clear n0_ n1_ n2_ n3_ n4_ n5_; (try clear hb); (try clear hb2); (try clear hk); (try clear hi); obtain ⟨hcz119_0, hcz119_1, hcz119_2, hcz119_3⟩ := bcs4 Z102.out; obtain ⟨hfz119_0, hfz119_1, hfz119_2, hfz119_3⟩ := bfs4 Z102.out; obtain ⟨hcz120_0, hcz120_1, hcz120_2, hcz120_3⟩ := bcs4 Z103.out; obtain ⟨hfz120_0, hfz120_1, hfz120_2, hfz120_3⟩ := bfs4 Z103.out) | (go_at_call 16; (with_reducible refine (label_Over.calls t109 t110 t111 t112 t113 t114 t115 t116 true _ A94.out).mono ?_); rintro e w121 ⟨rfl, hb⟩; have n0_ := bb_ Z101 hb; have n1_ := bb_ Z102 hb; have n2_ := bb_ Z103 hb; have n3_ := bb_ Z125 hb; have n4_ := bb_ Z126 hb; have n5_ := Aside0.mk (below_step (bl_ HB.out) hb); clear Z101 Z102 Z103 Z125 Z126 HB; have Z101 := n0_; have Z102 := n1_; have Z103 := n2_; have Z125 := n3_; have Z126 := n4_; have HB := n5_; clear n0_ n1_ n2_ n3_ n4_ n5_; (try clear hb); (try clear hb2); (try clear hk); (try clear hi); obtain ⟨hcz122_0, hcz122_1, hcz122_2, hcz122_3⟩ := bcs4 Z126.out; obtain ⟨hfz122_0, hfz122_1, hfz122_2, hfz122_3⟩ := bfs4 Z126.out; obtain ⟨hcz123_0, hcz123_1, hcz123_2, hcz123_3⟩ := bcs4 Z103.out; obtain ⟨hfz123_0, hfz123_1, hfz123_2, hfz123_3⟩ := bfs4 Z103.out) | (go_at_call 16; (with_reducible refine (label_Over.calls t121 t122 t123 t124 t113 t114 t115 t116 t138 _ A96.out).mono ?_); rintro e w124 ⟨rfl, hb⟩; have n0_ := bb_ Z101 hb; have n1_ := bb_ Z102 hb; have n2_ := bb_ Z103 hb; have n3_ := bb_ Z125 hb; have n4_ := bb_ Z126 hb; have n5_ := Aside0.mk (below_step (bl_ HB.out) hb); clear Z101 Z102 Z103 Z125 Z126 HB; have Z101 := n0_; have Z102 := n1_; have Z103 := n2_; have Z125 := n3_; have Z126 := n4_; have HB := n5_; clear n0_ n1_ n2_ n3_ n4_ n5_; (try clear hb); (try clear hb2); (try clear hk); (try clear hi)))
           go_meet
           case rel => exact ⟨_, (!t138), (by first | rfl | (simp; done) | (simp [*]; done)), H', ⟨by have := HJ10.out; first | omega | exact Nat.le_refl _⟩, ⟨bk_ Z101.out⟩, ⟨bk_ Z102.out⟩, ⟨bk_ Z103.out⟩, ⟨bk_ Z125.out⟩, ⟨bk_ Z126.out⟩, ⟨bl_ HB.out⟩⟩
          ·replace c95 := Bool.eq_false_iff.mpr c95
           subst c95
           have H1 : (donjonlaw4_LabelLattice.j1 kj10 false t105 t106 t107 t108 t109 t110 t111 t112 t117 t118 t119 t120 t121 t122 t123 t124) = some r := by rw [if_neg (show ¬ (false = true) by decide)] at H; exact H
           clear H
           have H := H1
           clear H1
           have H' := Aside0.mk H
           clear H
           have hnb125 := NB103_101.out
           have hnc125 := NB101_103.out
           have hnb126 := NB103_102.out
           have hnc126 := NB102_103.out
           have hnb127 := NB103_125.out
           have hnc127 := NB125_103.out
           have hnb128 := NB103_126.out
           have hnc128 := NB126_103.out
           obtain ⟨hcz129_0, hcz129_1, hcz129_2, hcz129_3⟩ := bcs4 Z103.out
           obtain ⟨hfz129_0, hfz129_1, hfz129_2, hfz129_3⟩ := bfs4 Z103.out
           have hnb130 := NB101_102.out
           have hnc130 := NB102_101.out
           have hnb131 := NB101_125.out
           have hnc131 := NB125_101.out
           have hnb132 := NB101_126.out
           have hnc132 := NB126_101.out
           obtain ⟨hcz133_0, hcz133_1, hcz133_2, hcz133_3⟩ := bcs4 Z101.out
           obtain ⟨hfz133_0, hfz133_1, hfz133_2, hfz133_3⟩ := bfs4 Z101.out
           go_wp2_with (first | ((with_reducible refine gate_callee (f := 16) rfl ?_); refine goesL_ (some 57) rfl rfl Tryd.func16 (by kernel_rfl) rfl #[.agg #[.int .i64 t113, .int .i64 t114, .int .i64 t115, .int .i64 t116], .agg #[.int .i64 t105, .int .i64 t106, .int .i64 t107, .int .i64 t108]] rfl (by (try simp only [List.map_toArray, List.map_cons, List.map_nil]); first | done | rfl | (simp only [List.length_drop, List.length_take]; rfl)) ?_; (with_reducible refine (label_Over.calls t113 t114 t115 t116 t105 t106 t107 t108 true _ A86.out).mono ?_); rintro e w134 ⟨rfl, hb⟩; refine ⟨_, rfl, ?_⟩; have n0_ := bb_ Z101 hb; have n1_ := bb_ Z102 hb; have n2_ := bb_ Z103 hb; have n3_ := bb_ Z125 hb; have n4_ := bb_ Z126 hb; have n5_ := Aside0.mk (below_step (bl_ HB.out) hb); clear Z101 Z102 Z103 Z125 Z126 HB; have Z101 := n0_; have Z102 := n1_; have Z103 := n2_; have Z125 := n3_; have Z126 := n4_; have HB := n5_; clear n0_ n1_ n2_ n3_ n4_ n5_; (try clear hb); (try clear hb2); (try clear hk); (try clear hi); obtain ⟨hcz135_0, hcz135_1, hcz135_2, hcz135_3⟩ := bcs4 Z103.out; obtain ⟨hfz135_0, hfz135_1, hfz135_2, hfz135_3⟩ := bfs4 Z103.out; have hnb136 := NB102_125.out; have hnc136 := NB125_102.out; have hnb137 := NB102_126.out; have hnc137 := NB126_102.out; obtain ⟨hcz138_0, hcz138_1, hcz138_2, hcz138_3⟩ := bcs4 Z102.out; obtain ⟨hfz138_0, hfz138_1, hfz138_2, hfz138_3⟩ := bfs4 Z102.out) | (go_at_call 16; (with_reducible refine (label_Over.calls t113 t114 t115 t116 t109 t110 t111 t112 true _ A88.out).mono ?_); rintro e w139 ⟨rfl, hb⟩; have n0_ := bb_ Z101 hb; have n1_ := bb_ Z102 hb; have n2_ := bb_ Z103 hb; have n3_ := bb_ Z125 hb; have n4_ := bb_ Z126 hb; have n5_ := Aside0.mk (below_step (bl_ HB.out) hb); clear Z101 Z102 Z103 Z125 Z126 HB; have Z101 := n0_; have Z102 := n1_; have Z103 := n2_; have Z125 := n3_; have Z126 := n4_; have HB := n5_; clear n0_ n1_ n2_ n3_ n4_ n5_; (try clear hb); (try clear hb2); (try clear hk); (try clear hi); obtain ⟨hcz140_0, hcz140_1, hcz140_2, hcz140_3⟩ := bcs4 Z103.out; obtain ⟨hfz140_0, hfz140_1, hfz140_2, hfz140_3⟩ := bfs4 Z103.out; have hnb141 := NB125_126.out; have hnc141 := NB126_125.out; obtain ⟨hcz142_0, hcz142_1, hcz142_2, hcz142_3⟩ := bcs4 Z125.out; obtain ⟨hfz142_0, hfz142_1, hfz142_2, hfz142_3⟩ := bfs4 Z125.out) | (go_at_call 16; (with_reducible refine (label_Over.calls t113 t114 t115 t116 t117 t118 t119 t120 true _ A90.out).mono ?_); rintro e w143 ⟨rfl, hb⟩; have n0_ := bb_ Z101 hb; have n1_ := bb_ Z102 hb; have n2_ := bb_ Z103 hb; have n3_ := bb_ Z125 hb; have n4_ := bb_ Z126 hb; have n5_ := Aside0.mk (below_step (bl_ HB.out) hb); clear Z101 Z102 Z103 Z125 Z126 HB; have Z101 := n0_; have Z102 := n1_; have Z103 := n2_; have Z125 := n3_; have Z126 := n4_; have HB := n5_; clear n0_ n1_ n2_ n3_ n4_ n5_; (try clear hb); (try clear hb2); (try clear hk); (try clear hi); obtain ⟨hcz144_0, hcz144_1, hcz144_2, hcz144_3⟩ := bcs4 Z101.out; obtain ⟨hfz144_0, hfz144_1, hfz144_2, hfz144_3⟩ := bfs4 Z101.out; obtain ⟨hcz145_0, hcz145_1, hcz145_2, hcz145_3⟩ := bcs4 Z103.out; obtain ⟨hfz145_0, hfz145_1, hfz145_2, hfz145_3⟩ := bfs4 Z103.out) | (go_at_call 16; (with_reducible refine (label_Over.calls t105 t106 t107 t108 t113 t114 t115 t116 true _ A92.out).mono ?_); rintro e w146 ⟨rfl, hb⟩; have n0_ := bb_ Z101 hb; have n1_ := bb_ Z102 hb; have n2_ := bb_ Z103 hb; have n3_ := bb_ Z125 hb; have n4_ := bb_ Z126 hb; have n5_ := Aside0.mk (below_step (bl_ HB.out) hb); clear Z101 Z102 Z103 Z125 Z126 HB; have Z101 := n0_; have Z102 := n1_; have Z103 := n2_; have Z125 := n3_; have Z126 := n4_; have HB := n5_; clear n0_ n1_ n2_ n3_ n4_ n5_; (try clear hb); (try clear hb2); (try clear hk); (try clear hi); obtain ⟨hcz147_0, hcz147_1, hcz147_2, hcz147_3⟩ := bcs4 Z102.out; obtain ⟨hfz147_0, hfz147_1, hfz147_2, hfz147_3⟩ := bfs4 Z102.out; obtain ⟨hcz148_0, hcz148_1, hcz148_2, hcz148_3⟩ := bcs4 Z103.out; obtain ⟨hfz148_0, hfz148_1, hfz148_2, hfz148_3⟩ := bfs4 Z103.out) | (go_at_call 16; (with_reducible refine (label_Over.calls t109 t110 t111 t112 t113 t114 t115 t116 false _ A94.out).mono ?_); rintro e w149 ⟨rfl, hb⟩; have n0_ := bb_ Z101 hb; have n1_ := bb_ Z102 hb; have n2_ := bb_ Z103 hb; have n3_ := bb_ Z125 hb; have n4_ := bb_ Z126 hb; have n5_ := Aside0.mk (below_step (bl_ HB.out) hb); clear Z101 Z102 Z103 Z125 Z126 HB; have Z101 := n0_; have Z102 := n1_; have Z103 := n2_; have Z125 := n3_; have Z126 := n4_; have HB := n5_; clear n0_ n1_ n2_ n3_ n4_ n5_; (try clear hb); (try clear hb2); (try clear hk); (try clear hi)))
           go_meet
           case rel => exact ⟨_, (false), (by first | rfl | (simp; done) | (simp [*]; done)), H', ⟨by have := HJ10.out; first | omega | exact Nat.le_refl _⟩, ⟨bk_ Z101.out⟩, ⟨bk_ Z102.out⟩, ⟨bk_ Z103.out⟩, ⟨bk_ Z125.out⟩, ⟨bk_ Z126.out⟩, ⟨bl_ HB.out⟩⟩
         ·replace c93 := Bool.eq_false_iff.mpr c93
          subst c93
          have H1 : (donjonlaw4_LabelLattice.j1 kj10 false t105 t106 t107 t108 t109 t110 t111 t112 t117 t118 t119 t120 t121 t122 t123 t124) = some r := by rw [if_neg (show ¬ (false = true) by decide)] at H; exact H
          clear H
          have H := H1
          clear H1
          have H' := Aside0.mk H
          clear H
          have hnb150 := NB103_101.out
          have hnc150 := NB101_103.out
          have hnb151 := NB103_102.out
          have hnc151 := NB102_103.out
          have hnb152 := NB103_125.out
          have hnc152 := NB125_103.out
          have hnb153 := NB103_126.out
          have hnc153 := NB126_103.out
          obtain ⟨hcz154_0, hcz154_1, hcz154_2, hcz154_3⟩ := bcs4 Z103.out
          obtain ⟨hfz154_0, hfz154_1, hfz154_2, hfz154_3⟩ := bfs4 Z103.out
          have hnb155 := NB101_102.out
          have hnc155 := NB102_101.out
          have hnb156 := NB101_125.out
          have hnc156 := NB125_101.out
          have hnb157 := NB101_126.out
          have hnc157 := NB126_101.out
          obtain ⟨hcz158_0, hcz158_1, hcz158_2, hcz158_3⟩ := bcs4 Z101.out
          obtain ⟨hfz158_0, hfz158_1, hfz158_2, hfz158_3⟩ := bfs4 Z101.out
          go_wp2_with (first | ((with_reducible refine gate_callee (f := 16) rfl ?_); refine goesL_ (some 57) rfl rfl Tryd.func16 (by kernel_rfl) rfl #[.agg #[.int .i64 t113, .int .i64 t114, .int .i64 t115, .int .i64 t116], .agg #[.int .i64 t105, .int .i64 t106, .int .i64 t107, .int .i64 t108]] rfl (by (try simp only [List.map_toArray, List.map_cons, List.map_nil]); first | done | rfl | (simp only [List.length_drop, List.length_take]; rfl)) ?_; (with_reducible refine (label_Over.calls t113 t114 t115 t116 t105 t106 t107 t108 true _ A86.out).mono ?_); rintro e w159 ⟨rfl, hb⟩; refine ⟨_, rfl, ?_⟩; have n0_ := bb_ Z101 hb; have n1_ := bb_ Z102 hb; have n2_ := bb_ Z103 hb; have n3_ := bb_ Z125 hb; have n4_ := bb_ Z126 hb; have n5_ := Aside0.mk (below_step (bl_ HB.out) hb); clear Z101 Z102 Z103 Z125 Z126 HB; have Z101 := n0_; have Z102 := n1_; have Z103 := n2_; have Z125 := n3_; have Z126 := n4_; have HB := n5_; clear n0_ n1_ n2_ n3_ n4_ n5_; (try clear hb); (try clear hb2); (try clear hk); (try clear hi); obtain ⟨hcz160_0, hcz160_1, hcz160_2, hcz160_3⟩ := bcs4 Z103.out; obtain ⟨hfz160_0, hfz160_1, hfz160_2, hfz160_3⟩ := bfs4 Z103.out; have hnb161 := NB102_125.out; have hnc161 := NB125_102.out; have hnb162 := NB102_126.out; have hnc162 := NB126_102.out; obtain ⟨hcz163_0, hcz163_1, hcz163_2, hcz163_3⟩ := bcs4 Z102.out; obtain ⟨hfz163_0, hfz163_1, hfz163_2, hfz163_3⟩ := bfs4 Z102.out) | (go_at_call 16; (with_reducible refine (label_Over.calls t113 t114 t115 t116 t109 t110 t111 t112 true _ A88.out).mono ?_); rintro e w164 ⟨rfl, hb⟩; have n0_ := bb_ Z101 hb; have n1_ := bb_ Z102 hb; have n2_ := bb_ Z103 hb; have n3_ := bb_ Z125 hb; have n4_ := bb_ Z126 hb; have n5_ := Aside0.mk (below_step (bl_ HB.out) hb); clear Z101 Z102 Z103 Z125 Z126 HB; have Z101 := n0_; have Z102 := n1_; have Z103 := n2_; have Z125 := n3_; have Z126 := n4_; have HB := n5_; clear n0_ n1_ n2_ n3_ n4_ n5_; (try clear hb); (try clear hb2); (try clear hk); (try clear hi); obtain ⟨hcz165_0, hcz165_1, hcz165_2, hcz165_3⟩ := bcs4 Z103.out; obtain ⟨hfz165_0, hfz165_1, hfz165_2, hfz165_3⟩ := bfs4 Z103.out; have hnb166 := NB125_126.out; have hnc166 := NB126_125.out; obtain ⟨hcz167_0, hcz167_1, hcz167_2, hcz167_3⟩ := bcs4 Z125.out; obtain ⟨hfz167_0, hfz167_1, hfz167_2, hfz167_3⟩ := bfs4 Z125.out) | (go_at_call 16; (with_reducible refine (label_Over.calls t113 t114 t115 t116 t117 t118 t119 t120 true _ A90.out).mono ?_); rintro e w168 ⟨rfl, hb⟩; have n0_ := bb_ Z101 hb; have n1_ := bb_ Z102 hb; have n2_ := bb_ Z103 hb; have n3_ := bb_ Z125 hb; have n4_ := bb_ Z126 hb; have n5_ := Aside0.mk (below_step (bl_ HB.out) hb); clear Z101 Z102 Z103 Z125 Z126 HB; have Z101 := n0_; have Z102 := n1_; have Z103 := n2_; have Z125 := n3_; have Z126 := n4_; have HB := n5_; clear n0_ n1_ n2_ n3_ n4_ n5_; (try clear hb); (try clear hb2); (try clear hk); (try clear hi); obtain ⟨hcz169_0, hcz169_1, hcz169_2, hcz169_3⟩ := bcs4 Z101.out; obtain ⟨hfz169_0, hfz169_1, hfz169_2, hfz169_3⟩ := bfs4 Z101.out; obtain ⟨hcz170_0, hcz170_1, hcz170_2, hcz170_3⟩ := bcs4 Z103.out; obtain ⟨hfz170_0, hfz170_1, hfz170_2, hfz170_3⟩ := bfs4 Z103.out) | (go_at_call 16; (with_reducible refine (label_Over.calls t105 t106 t107 t108 t113 t114 t115 t116 false _ A92.out).mono ?_); rintro e w171 ⟨rfl, hb⟩; have n0_ := bb_ Z101 hb; have n1_ := bb_ Z102 hb; have n2_ := bb_ Z103 hb; have n3_ := bb_ Z125 hb; have n4_ := bb_ Z126 hb; have n5_ := Aside0.mk (below_step (bl_ HB.out) hb); clear Z101 Z102 Z103 Z125 Z126 HB; have Z101 := n0_; have Z102 := n1_; have Z103 := n2_; have Z125 := n3_; have Z126 := n4_; have HB := n5_; clear n0_ n1_ n2_ n3_ n4_ n5_; (try clear hb); (try clear hb2); (try clear hk); (try clear hi)))
          go_meet
          case rel => exact ⟨_, (false), (by first | rfl | (simp; done) | (simp [*]; done)), H', ⟨by have := HJ10.out; first | omega | exact Nat.le_refl _⟩, ⟨bk_ Z101.out⟩, ⟨bk_ Z102.out⟩, ⟨bk_ Z103.out⟩, ⟨bk_ Z125.out⟩, ⟨bk_ Z126.out⟩, ⟨bl_ HB.out⟩⟩
        ·replace c91 := Bool.eq_false_iff.mpr c91
         subst c91
         have H1 : (donjonlaw4_LabelLattice.j1 kj10 true t105 t106 t107 t108 t109 t110 t111 t112 t117 t118 t119 t120 t121 t122 t123 t124) = some r := by rw [if_neg (show ¬ (false = true) by decide)] at H; exact H
         clear H
         have H := H1
         clear H1
         exact absurd HRT.out (by intro hr_; subst hr_; cases kj10 with | zero => exact absurd H (by simp [donjonlaw4_LabelLattice.j1]) | succ k_ => (revert H; rw [donjonlaw4_LabelLattice.j1, if_pos rfl]; decide))
       ·replace c89 := Bool.eq_false_iff.mpr c89
        subst c89
        have H1 : ((label_Over.f t105 t106 t107 t108 t113 t114 t115 t116).bind fun t139 => (if t139 = true then ((label_Over.f t109 t110 t111 t112 t113 t114 t115 t116).bind fun t140 => (if t140 = true then ((label_Over.f t121 t122 t123 t124 t113 t114 t115 t116).bind fun t141 => (donjonlaw4_LabelLattice.j1 kj10 (!t141) t105 t106 t107 t108 t109 t110 t111 t112 t117 t118 t119 t120 t121 t122 t123 t124)) else (donjonlaw4_LabelLattice.j1 kj10 false t105 t106 t107 t108 t109 t110 t111 t112 t117 t118 t119 t120 t121 t122 t123 t124))) else (donjonlaw4_LabelLattice.j1 kj10 false t105 t106 t107 t108 t109 t110 t111 t112 t117 t118 t119 t120 t121 t122 t123 t124))) = some r := by rw [if_neg (show ¬ (false = true) by decide)] at H; exact H
        clear H
        have H := H1
        clear H1
        replace H := Option.bind_eq_some_iff.mp H
        obtain ⟨t139, A1720, H⟩ := H
        try dsimp only at H
        have A172 := Aside0.mk A1720
        clear A1720
        by_cases c173 : t139 = true
        ·subst c173
         have H1 : ((label_Over.f t109 t110 t111 t112 t113 t114 t115 t116).bind fun t140 => (if t140 = true then ((label_Over.f t121 t122 t123 t124 t113 t114 t115 t116).bind fun t141 => (donjonlaw4_LabelLattice.j1 kj10 (!t141) t105 t106 t107 t108 t109 t110 t111 t112 t117 t118 t119 t120 t121 t122 t123 t124)) else (donjonlaw4_LabelLattice.j1 kj10 false t105 t106 t107 t108 t109 t110 t111 t112 t117 t118 t119 t120 t121 t122 t123 t124))) = some r := by rw [if_pos rfl] at H; exact H
         clear H
         have H := H1
         clear H1
         replace H := Option.bind_eq_some_iff.mp H
         obtain ⟨t140, A1740, H⟩ := H
         try dsimp only at H
         have A174 := Aside0.mk A1740
         clear A1740
         by_cases c175 : t140 = true
         ·subst c175
          have H1 : ((label_Over.f t121 t122 t123 t124 t113 t114 t115 t116).bind fun t141 => (donjonlaw4_LabelLattice.j1 kj10 (!t141) t105 t106 t107 t108 t109 t110 t111 t112 t117 t118 t119 t120 t121 t122 t123 t124)) = some r := by rw [if_pos rfl] at H; exact H
          clear H
          have H := H1
          clear H1
          replace H := Option.bind_eq_some_iff.mp H
          obtain ⟨t141, A1760, H⟩ := H
          try dsimp only at H
          have A176 := Aside0.mk A1760
          clear A1760
          have H' := Aside0.mk H
          clear H
          have hnb177 := NB103_101.out
          have hnc177 := NB101_103.out
          have hnb178 := NB103_102.out
          have hnc178 := NB102_103.out
          have hnb179 := NB103_125.out
          have hnc179 := NB125_103.out
          have hnb180 := NB103_126.out
          have hnc180 := NB126_103.out
          obtain ⟨hcz181_0, hcz181_1, hcz181_2, hcz181_3⟩ := bcs4 Z103.out
          obtain ⟨hfz181_0, hfz181_1, hfz181_2, hfz181_3⟩ := bfs4 Z103.out
          have hnb182 := NB101_102.out
          have hnc182 := NB102_101.out
          have hnb183 := NB101_125.out
          have hnc183 := NB125_101.out
          have hnb184 := NB101_126.out
          have hnc184 := NB126_101.out
          obtain ⟨hcz185_0, hcz185_1, hcz185_2, hcz185_3⟩ := bcs4 Z101.out
          obtain ⟨hfz185_0, hfz185_1, hfz185_2, hfz185_3⟩ := bfs4 Z101.out
          go_wp2_with (first | ((with_reducible refine gate_callee (f := 16) rfl ?_); refine goesL_ (some 57) rfl rfl Tryd.func16 (by kernel_rfl) rfl #[.agg #[.int .i64 t113, .int .i64 t114, .int .i64 t115, .int .i64 t116], .agg #[.int .i64 t105, .int .i64 t106, .int .i64 t107, .int .i64 t108]] rfl (by (try simp only [List.map_toArray, List.map_cons, List.map_nil]); first | done | rfl | (simp only [List.length_drop, List.length_take]; rfl)) ?_; (with_reducible refine (label_Over.calls t113 t114 t115 t116 t105 t106 t107 t108 true _ A86.out).mono ?_); rintro e w186 ⟨rfl, hb⟩; refine ⟨_, rfl, ?_⟩; have n0_ := bb_ Z101 hb; have n1_ := bb_ Z102 hb; have n2_ := bb_ Z103 hb; have n3_ := bb_ Z125 hb; have n4_ := bb_ Z126 hb; have n5_ := Aside0.mk (below_step (bl_ HB.out) hb); clear Z101 Z102 Z103 Z125 Z126 HB; have Z101 := n0_; have Z102 := n1_; have Z103 := n2_; have Z125 := n3_; have Z126 := n4_; have HB := n5_; clear n0_ n1_ n2_ n3_ n4_ n5_; (try clear hb); (try clear hb2); (try clear hk); (try clear hi); obtain ⟨hcz187_0, hcz187_1, hcz187_2, hcz187_3⟩ := bcs4 Z103.out; obtain ⟨hfz187_0, hfz187_1, hfz187_2, hfz187_3⟩ := bfs4 Z103.out; have hnb188 := NB102_125.out; have hnc188 := NB125_102.out; have hnb189 := NB102_126.out; have hnc189 := NB126_102.out; obtain ⟨hcz190_0, hcz190_1, hcz190_2, hcz190_3⟩ := bcs4 Z102.out; obtain ⟨hfz190_0, hfz190_1, hfz190_2, hfz190_3⟩ := bfs4 Z102.out) | (go_at_call 16; (with_reducible refine (label_Over.calls t113 t114 t115 t116 t109 t110 t111 t112 false _ A88.out).mono ?_); rintro e w191 ⟨rfl, hb⟩; have n0_ := bb_ Z101 hb; have n1_ := bb_ Z102 hb; have n2_ := bb_ Z103 hb; have n3_ := bb_ Z125 hb; have n4_ := bb_ Z126 hb; have n5_ := Aside0.mk (below_step (bl_ HB.out) hb); clear Z101 Z102 Z103 Z125 Z126 HB; have Z101 := n0_; have Z102 := n1_; have Z103 := n2_; have Z125 := n3_; have Z126 := n4_; have HB := n5_; clear n0_ n1_ n2_ n3_ n4_ n5_; (try clear hb); (try clear hb2); (try clear hk); (try clear hi); obtain ⟨hcz192_0, hcz192_1, hcz192_2, hcz192_3⟩ := bcs4 Z101.out; obtain ⟨hfz192_0, hfz192_1, hfz192_2, hfz192_3⟩ := bfs4 Z101.out; obtain ⟨hcz193_0, hcz193_1, hcz193_2, hcz193_3⟩ := bcs4 Z103.out; obtain ⟨hfz193_0, hfz193_1, hfz193_2, hfz193_3⟩ := bfs4 Z103.out) | (go_at_call 16; (with_reducible refine (label_Over.calls t105 t106 t107 t108 t113 t114 t115 t116 true _ A172.out).mono ?_); rintro e w194 ⟨rfl, hb⟩; have n0_ := bb_ Z101 hb; have n1_ := bb_ Z102 hb; have n2_ := bb_ Z103 hb; have n3_ := bb_ Z125 hb; have n4_ := bb_ Z126 hb; have n5_ := Aside0.mk (below_step (bl_ HB.out) hb); clear Z101 Z102 Z103 Z125 Z126 HB; have Z101 := n0_; have Z102 := n1_; have Z103 := n2_; have Z125 := n3_; have Z126 := n4_; have HB := n5_; clear n0_ n1_ n2_ n3_ n4_ n5_; (try clear hb); (try clear hb2); (try clear hk); (try clear hi); obtain ⟨hcz195_0, hcz195_1, hcz195_2, hcz195_3⟩ := bcs4 Z102.out; obtain ⟨hfz195_0, hfz195_1, hfz195_2, hfz195_3⟩ := bfs4 Z102.out; obtain ⟨hcz196_0, hcz196_1, hcz196_2, hcz196_3⟩ := bcs4 Z103.out; obtain ⟨hfz196_0, hfz196_1, hfz196_2, hfz196_3⟩ := bfs4 Z103.out) | (go_at_call 16; (with_reducible refine (label_Over.calls t109 t110 t111 t112 t113 t114 t115 t116 true _ A174.out).mono ?_); rintro e w197 ⟨rfl, hb⟩; have n0_ := bb_ Z101 hb; have n1_ := bb_ Z102 hb; have n2_ := bb_ Z103 hb; have n3_ := bb_ Z125 hb; have n4_ := bb_ Z126 hb; have n5_ := Aside0.mk (below_step (bl_ HB.out) hb); clear Z101 Z102 Z103 Z125 Z126 HB; have Z101 := n0_; have Z102 := n1_; have Z103 := n2_; have Z125 := n3_; have Z126 := n4_; have HB := n5_; clear n0_ n1_ n2_ n3_ n4_ n5_; (try clear hb); (try clear hb2); (try clear hk); (try clear hi); have hnb198 := NB126_125.out; have hnc198 := NB125_126.out; obtain ⟨hcz199_0, hcz199_1, hcz199_2, hcz199_3⟩ := bcs4 Z126.out; obtain ⟨hfz199_0, hfz199_1, hfz199_2, hfz199_3⟩ := bfs4 Z126.out; obtain ⟨hcz200_0, hcz200_1, hcz200_2, hcz200_3⟩ := bcs4 Z103.out; obtain ⟨hfz200_0, hfz200_1, hfz200_2, hfz200_3⟩ := bfs4 Z103.out) | (go_at_call 16; (with_reducible refine (label_Over.calls t121 t122 t123 t124 t113 t114 t115 t116 t141 _ A176.out).mono ?_); rintro e w201 ⟨rfl, hb⟩; have n0_ := bb_ Z101 hb; have n1_ := bb_ Z102 hb; have n2_ := bb_ Z103 hb; have n3_ := bb_ Z125 hb; have n4_ := bb_ Z126 hb; have n5_ := Aside0.mk (below_step (bl_ HB.out) hb); clear Z101 Z102 Z103 Z125 Z126 HB; have Z101 := n0_; have Z102 := n1_; have Z103 := n2_; have Z125 := n3_; have Z126 := n4_; have HB := n5_; clear n0_ n1_ n2_ n3_ n4_ n5_; (try clear hb); (try clear hb2); (try clear hk); (try clear hi)))
          go_meet
          case rel => exact ⟨_, (!t141), (by first | rfl | (simp; done) | (simp [*]; done)), H', ⟨by have := HJ10.out; first | omega | exact Nat.le_refl _⟩, ⟨bk_ Z101.out⟩, ⟨bk_ Z102.out⟩, ⟨bk_ Z103.out⟩, ⟨bk_ Z125.out⟩, ⟨bk_ Z126.out⟩, ⟨bl_ HB.out⟩⟩
         ·replace c175 := Bool.eq_false_iff.mpr c175
          subst c175
          have H1 : (donjonlaw4_LabelLattice.j1 kj10 false t105 t106 t107 t108 t109 t110 t111 t112 t117 t118 t119 t120 t121 t122 t123 t124) = some r := by rw [if_neg (show ¬ (false = true) by decide)] at H; exact H
          clear H
          have H := H1
          clear H1
          have H' := Aside0.mk H
          clear H
          have hnb202 := NB103_101.out
          have hnc202 := NB101_103.out
          have hnb203 := NB103_102.out
          have hnc203 := NB102_103.out
          have hnb204 := NB103_125.out
          have hnc204 := NB125_103.out
          have hnb205 := NB103_126.out
          have hnc205 := NB126_103.out
          obtain ⟨hcz206_0, hcz206_1, hcz206_2, hcz206_3⟩ := bcs4 Z103.out
          obtain ⟨hfz206_0, hfz206_1, hfz206_2, hfz206_3⟩ := bfs4 Z103.out
          have hnb207 := NB101_102.out
          have hnc207 := NB102_101.out
          have hnb208 := NB101_125.out
          have hnc208 := NB125_101.out
          have hnb209 := NB101_126.out
          have hnc209 := NB126_101.out
          obtain ⟨hcz210_0, hcz210_1, hcz210_2, hcz210_3⟩ := bcs4 Z101.out
          obtain ⟨hfz210_0, hfz210_1, hfz210_2, hfz210_3⟩ := bfs4 Z101.out
          go_wp2_with (first | ((with_reducible refine gate_callee (f := 16) rfl ?_); refine goesL_ (some 57) rfl rfl Tryd.func16 (by kernel_rfl) rfl #[.agg #[.int .i64 t113, .int .i64 t114, .int .i64 t115, .int .i64 t116], .agg #[.int .i64 t105, .int .i64 t106, .int .i64 t107, .int .i64 t108]] rfl (by (try simp only [List.map_toArray, List.map_cons, List.map_nil]); first | done | rfl | (simp only [List.length_drop, List.length_take]; rfl)) ?_; (with_reducible refine (label_Over.calls t113 t114 t115 t116 t105 t106 t107 t108 true _ A86.out).mono ?_); rintro e w211 ⟨rfl, hb⟩; refine ⟨_, rfl, ?_⟩; have n0_ := bb_ Z101 hb; have n1_ := bb_ Z102 hb; have n2_ := bb_ Z103 hb; have n3_ := bb_ Z125 hb; have n4_ := bb_ Z126 hb; have n5_ := Aside0.mk (below_step (bl_ HB.out) hb); clear Z101 Z102 Z103 Z125 Z126 HB; have Z101 := n0_; have Z102 := n1_; have Z103 := n2_; have Z125 := n3_; have Z126 := n4_; have HB := n5_; clear n0_ n1_ n2_ n3_ n4_ n5_; (try clear hb); (try clear hb2); (try clear hk); (try clear hi); obtain ⟨hcz212_0, hcz212_1, hcz212_2, hcz212_3⟩ := bcs4 Z103.out; obtain ⟨hfz212_0, hfz212_1, hfz212_2, hfz212_3⟩ := bfs4 Z103.out; have hnb213 := NB102_125.out; have hnc213 := NB125_102.out; have hnb214 := NB102_126.out; have hnc214 := NB126_102.out; obtain ⟨hcz215_0, hcz215_1, hcz215_2, hcz215_3⟩ := bcs4 Z102.out; obtain ⟨hfz215_0, hfz215_1, hfz215_2, hfz215_3⟩ := bfs4 Z102.out) | (go_at_call 16; (with_reducible refine (label_Over.calls t113 t114 t115 t116 t109 t110 t111 t112 false _ A88.out).mono ?_); rintro e w216 ⟨rfl, hb⟩; have n0_ := bb_ Z101 hb; have n1_ := bb_ Z102 hb; have n2_ := bb_ Z103 hb; have n3_ := bb_ Z125 hb; have n4_ := bb_ Z126 hb; have n5_ := Aside0.mk (below_step (bl_ HB.out) hb); clear Z101 Z102 Z103 Z125 Z126 HB; have Z101 := n0_; have Z102 := n1_; have Z103 := n2_; have Z125 := n3_; have Z126 := n4_; have HB := n5_; clear n0_ n1_ n2_ n3_ n4_ n5_; (try clear hb); (try clear hb2); (try clear hk); (try clear hi); obtain ⟨hcz217_0, hcz217_1, hcz217_2, hcz217_3⟩ := bcs4 Z101.out; obtain ⟨hfz217_0, hfz217_1, hfz217_2, hfz217_3⟩ := bfs4 Z101.out; obtain ⟨hcz218_0, hcz218_1, hcz218_2, hcz218_3⟩ := bcs4 Z103.out; obtain ⟨hfz218_0, hfz218_1, hfz218_2, hfz218_3⟩ := bfs4 Z103.out) | (go_at_call 16; (with_reducible refine (label_Over.calls t105 t106 t107 t108 t113 t114 t115 t116 true _ A172.out).mono ?_); rintro e w219 ⟨rfl, hb⟩; have n0_ := bb_ Z101 hb; have n1_ := bb_ Z102 hb; have n2_ := bb_ Z103 hb; have n3_ := bb_ Z125 hb; have n4_ := bb_ Z126 hb; have n5_ := Aside0.mk (below_step (bl_ HB.out) hb); clear Z101 Z102 Z103 Z125 Z126 HB; have Z101 := n0_; have Z102 := n1_; have Z103 := n2_; have Z125 := n3_; have Z126 := n4_; have HB := n5_; clear n0_ n1_ n2_ n3_ n4_ n5_; (try clear hb); (try clear hb2); (try clear hk); (try clear hi); obtain ⟨hcz220_0, hcz220_1, hcz220_2, hcz220_3⟩ := bcs4 Z102.out; obtain ⟨hfz220_0, hfz220_1, hfz220_2, hfz220_3⟩ := bfs4 Z102.out; obtain ⟨hcz221_0, hcz221_1, hcz221_2, hcz221_3⟩ := bcs4 Z103.out; obtain ⟨hfz221_0, hfz221_1, hfz221_2, hfz221_3⟩ := bfs4 Z103.out) | (go_at_call 16; (with_reducible refine (label_Over.calls t109 t110 t111 t112 t113 t114 t115 t116 false _ A174.out).mono ?_); rintro e w222 ⟨rfl, hb⟩; have n0_ := bb_ Z101 hb; have n1_ := bb_ Z102 hb; have n2_ := bb_ Z103 hb; have n3_ := bb_ Z125 hb; have n4_ := bb_ Z126 hb; have n5_ := Aside0.mk (below_step (bl_ HB.out) hb); clear Z101 Z102 Z103 Z125 Z126 HB; have Z101 := n0_; have Z102 := n1_; have Z103 := n2_; have Z125 := n3_; have Z126 := n4_; have HB := n5_; clear n0_ n1_ n2_ n3_ n4_ n5_; (try clear hb); (try clear hb2); (try clear hk); (try clear hi)))
          go_meet
          case rel => exact ⟨_, (false), (by first | rfl | (simp; done) | (simp [*]; done)), H', ⟨by have := HJ10.out; first | omega | exact Nat.le_refl _⟩, ⟨bk_ Z101.out⟩, ⟨bk_ Z102.out⟩, ⟨bk_ Z103.out⟩, ⟨bk_ Z125.out⟩, ⟨bk_ Z126.out⟩, ⟨bl_ HB.out⟩⟩
        ·replace c173 := Bool.eq_false_iff.mpr c173
         subst c173
         have H1 : (donjonlaw4_LabelLattice.j1 kj10 false t105 t106 t107 t108 t109 t110 t111 t112 t117 t118 t119 t120 t121 t122 t123 t124) = some r := by rw [if_neg (show ¬ (false = true) by decide)] at H; exact H
         clear H
         have H := H1
         clear H1
         have H' := Aside0.mk H
         clear H
         have hnb223 := NB103_101.out
         have hnc223 := NB101_103.out
         have hnb224 := NB103_102.out
         have hnc224 := NB102_103.out
         have hnb225 := NB103_125.out
         have hnc225 := NB125_103.out
         have hnb226 := NB103_126.out
         have hnc226 := NB126_103.out
         obtain ⟨hcz227_0, hcz227_1, hcz227_2, hcz227_3⟩ := bcs4 Z103.out
         obtain ⟨hfz227_0, hfz227_1, hfz227_2, hfz227_3⟩ := bfs4 Z103.out
         have hnb228 := NB101_102.out
         have hnc228 := NB102_101.out
         have hnb229 := NB101_125.out
         have hnc229 := NB125_101.out
         have hnb230 := NB101_126.out
         have hnc230 := NB126_101.out
         obtain ⟨hcz231_0, hcz231_1, hcz231_2, hcz231_3⟩ := bcs4 Z101.out
         obtain ⟨hfz231_0, hfz231_1, hfz231_2, hfz231_3⟩ := bfs4 Z101.out
         go_wp2_with (first | ((with_reducible refine gate_callee (f := 16) rfl ?_); refine goesL_ (some 57) rfl rfl Tryd.func16 (by kernel_rfl) rfl #[.agg #[.int .i64 t113, .int .i64 t114, .int .i64 t115, .int .i64 t116], .agg #[.int .i64 t105, .int .i64 t106, .int .i64 t107, .int .i64 t108]] rfl (by (try simp only [List.map_toArray, List.map_cons, List.map_nil]); first | done | rfl | (simp only [List.length_drop, List.length_take]; rfl)) ?_; (with_reducible refine (label_Over.calls t113 t114 t115 t116 t105 t106 t107 t108 true _ A86.out).mono ?_); rintro e w232 ⟨rfl, hb⟩; refine ⟨_, rfl, ?_⟩; have n0_ := bb_ Z101 hb; have n1_ := bb_ Z102 hb; have n2_ := bb_ Z103 hb; have n3_ := bb_ Z125 hb; have n4_ := bb_ Z126 hb; have n5_ := Aside0.mk (below_step (bl_ HB.out) hb); clear Z101 Z102 Z103 Z125 Z126 HB; have Z101 := n0_; have Z102 := n1_; have Z103 := n2_; have Z125 := n3_; have Z126 := n4_; have HB := n5_; clear n0_ n1_ n2_ n3_ n4_ n5_; (try clear hb); (try clear hb2); (try clear hk); (try clear hi); obtain ⟨hcz233_0, hcz233_1, hcz233_2, hcz233_3⟩ := bcs4 Z103.out; obtain ⟨hfz233_0, hfz233_1, hfz233_2, hfz233_3⟩ := bfs4 Z103.out; have hnb234 := NB102_125.out; have hnc234 := NB125_102.out; have hnb235 := NB102_126.out; have hnc235 := NB126_102.out; obtain ⟨hcz236_0, hcz236_1, hcz236_2, hcz236_3⟩ := bcs4 Z102.out; obtain ⟨hfz236_0, hfz236_1, hfz236_2, hfz236_3⟩ := bfs4 Z102.out) | (go_at_call 16; (with_reducible refine (label_Over.calls t113 t114 t115 t116 t109 t110 t111 t112 false _ A88.out).mono ?_); rintro e w237 ⟨rfl, hb⟩; have n0_ := bb_ Z101 hb; have n1_ := bb_ Z102 hb; have n2_ := bb_ Z103 hb; have n3_ := bb_ Z125 hb; have n4_ := bb_ Z126 hb; have n5_ := Aside0.mk (below_step (bl_ HB.out) hb); clear Z101 Z102 Z103 Z125 Z126 HB; have Z101 := n0_; have Z102 := n1_; have Z103 := n2_; have Z125 := n3_; have Z126 := n4_; have HB := n5_; clear n0_ n1_ n2_ n3_ n4_ n5_; (try clear hb); (try clear hb2); (try clear hk); (try clear hi); obtain ⟨hcz238_0, hcz238_1, hcz238_2, hcz238_3⟩ := bcs4 Z101.out; obtain ⟨hfz238_0, hfz238_1, hfz238_2, hfz238_3⟩ := bfs4 Z101.out; obtain ⟨hcz239_0, hcz239_1, hcz239_2, hcz239_3⟩ := bcs4 Z103.out; obtain ⟨hfz239_0, hfz239_1, hfz239_2, hfz239_3⟩ := bfs4 Z103.out) | (go_at_call 16; (with_reducible refine (label_Over.calls t105 t106 t107 t108 t113 t114 t115 t116 false _ A172.out).mono ?_); rintro e w240 ⟨rfl, hb⟩; have n0_ := bb_ Z101 hb; have n1_ := bb_ Z102 hb; have n2_ := bb_ Z103 hb; have n3_ := bb_ Z125 hb; have n4_ := bb_ Z126 hb; have n5_ := Aside0.mk (below_step (bl_ HB.out) hb); clear Z101 Z102 Z103 Z125 Z126 HB; have Z101 := n0_; have Z102 := n1_; have Z103 := n2_; have Z125 := n3_; have Z126 := n4_; have HB := n5_; clear n0_ n1_ n2_ n3_ n4_ n5_; (try clear hb); (try clear hb2); (try clear hk); (try clear hi)))
         go_meet
         case rel => exact ⟨_, (false), (by first | rfl | (simp; done) | (simp [*]; done)), H', ⟨by have := HJ10.out; first | omega | exact Nat.le_refl _⟩, ⟨bk_ Z101.out⟩, ⟨bk_ Z102.out⟩, ⟨bk_ Z103.out⟩, ⟨bk_ Z125.out⟩, ⟨bk_ Z126.out⟩, ⟨bl_ HB.out⟩⟩
      ·replace c87 := Bool.eq_false_iff.mpr c87
       subst c87
       have H1 : ((label_Over.f t105 t106 t107 t108 t113 t114 t115 t116).bind fun t142 => (if t142 = true then ((label_Over.f t109 t110 t111 t112 t113 t114 t115 t116).bind fun t143 => (if t143 = true then ((label_Over.f t121 t122 t123 t124 t113 t114 t115 t116).bind fun t144 => (donjonlaw4_LabelLattice.j1 kj10 (!t144) t105 t106 t107 t108 t109 t110 t111 t112 t117 t118 t119 t120 t121 t122 t123 t124)) else (donjonlaw4_LabelLattice.j1 kj10 false t105 t106 t107 t108 t109 t110 t111 t112 t117 t118 t119 t120 t121 t122 t123 t124))) else (donjonlaw4_LabelLattice.j1 kj10 false t105 t106 t107 t108 t109 t110 t111 t112 t117 t118 t119 t120 t121 t122 t123 t124))) = some r := by rw [if_neg (show ¬ (false = true) by decide)] at H; exact H
       clear H
       have H := H1
       clear H1
       replace H := Option.bind_eq_some_iff.mp H
       obtain ⟨t142, A2410, H⟩ := H
       try dsimp only at H
       have A241 := Aside0.mk A2410
       clear A2410
       by_cases c242 : t142 = true
       ·subst c242
        have H1 : ((label_Over.f t109 t110 t111 t112 t113 t114 t115 t116).bind fun t143 => (if t143 = true then ((label_Over.f t121 t122 t123 t124 t113 t114 t115 t116).bind fun t144 => (donjonlaw4_LabelLattice.j1 kj10 (!t144) t105 t106 t107 t108 t109 t110 t111 t112 t117 t118 t119 t120 t121 t122 t123 t124)) else (donjonlaw4_LabelLattice.j1 kj10 false t105 t106 t107 t108 t109 t110 t111 t112 t117 t118 t119 t120 t121 t122 t123 t124))) = some r := by rw [if_pos rfl] at H; exact H
        clear H
        have H := H1
        clear H1
        replace H := Option.bind_eq_some_iff.mp H
        obtain ⟨t143, A2430, H⟩ := H
        try dsimp only at H
        have A243 := Aside0.mk A2430
        clear A2430
        by_cases c244 : t143 = true
        ·subst c244
         have H1 : ((label_Over.f t121 t122 t123 t124 t113 t114 t115 t116).bind fun t144 => (donjonlaw4_LabelLattice.j1 kj10 (!t144) t105 t106 t107 t108 t109 t110 t111 t112 t117 t118 t119 t120 t121 t122 t123 t124)) = some r := by rw [if_pos rfl] at H; exact H
         clear H
         have H := H1
         clear H1
         replace H := Option.bind_eq_some_iff.mp H
         obtain ⟨t144, A2450, H⟩ := H
         try dsimp only at H
         have A245 := Aside0.mk A2450
         clear A2450
         have H' := Aside0.mk H
         clear H
         have hnb246 := NB103_101.out
         have hnc246 := NB101_103.out
         have hnb247 := NB103_102.out
         have hnc247 := NB102_103.out
         have hnb248 := NB103_125.out
         have hnc248 := NB125_103.out
         have hnb249 := NB103_126.out
         have hnc249 := NB126_103.out
         obtain ⟨hcz250_0, hcz250_1, hcz250_2, hcz250_3⟩ := bcs4 Z103.out
         obtain ⟨hfz250_0, hfz250_1, hfz250_2, hfz250_3⟩ := bfs4 Z103.out
         have hnb251 := NB101_102.out
         have hnc251 := NB102_101.out
         have hnb252 := NB101_125.out
         have hnc252 := NB125_101.out
         have hnb253 := NB101_126.out
         have hnc253 := NB126_101.out
         obtain ⟨hcz254_0, hcz254_1, hcz254_2, hcz254_3⟩ := bcs4 Z101.out
         obtain ⟨hfz254_0, hfz254_1, hfz254_2, hfz254_3⟩ := bfs4 Z101.out
         go_wp2_with (first | ((with_reducible refine gate_callee (f := 16) rfl ?_); refine goesL_ (some 57) rfl rfl Tryd.func16 (by kernel_rfl) rfl #[.agg #[.int .i64 t113, .int .i64 t114, .int .i64 t115, .int .i64 t116], .agg #[.int .i64 t105, .int .i64 t106, .int .i64 t107, .int .i64 t108]] rfl (by (try simp only [List.map_toArray, List.map_cons, List.map_nil]); first | done | rfl | (simp only [List.length_drop, List.length_take]; rfl)) ?_; (with_reducible refine (label_Over.calls t113 t114 t115 t116 t105 t106 t107 t108 false _ A86.out).mono ?_); rintro e w255 ⟨rfl, hb⟩; refine ⟨_, rfl, ?_⟩; have n0_ := bb_ Z101 hb; have n1_ := bb_ Z102 hb; have n2_ := bb_ Z103 hb; have n3_ := bb_ Z125 hb; have n4_ := bb_ Z126 hb; have n5_ := Aside0.mk (below_step (bl_ HB.out) hb); clear Z101 Z102 Z103 Z125 Z126 HB; have Z101 := n0_; have Z102 := n1_; have Z103 := n2_; have Z125 := n3_; have Z126 := n4_; have HB := n5_; clear n0_ n1_ n2_ n3_ n4_ n5_; (try clear hb); (try clear hb2); (try clear hk); (try clear hi); obtain ⟨hcz256_0, hcz256_1, hcz256_2, hcz256_3⟩ := bcs4 Z101.out; obtain ⟨hfz256_0, hfz256_1, hfz256_2, hfz256_3⟩ := bfs4 Z101.out; obtain ⟨hcz257_0, hcz257_1, hcz257_2, hcz257_3⟩ := bcs4 Z103.out; obtain ⟨hfz257_0, hfz257_1, hfz257_2, hfz257_3⟩ := bfs4 Z103.out) | (go_at_call 16; (with_reducible refine (label_Over.calls t105 t106 t107 t108 t113 t114 t115 t116 true _ A241.out).mono ?_); rintro e w258 ⟨rfl, hb⟩; have n0_ := bb_ Z101 hb; have n1_ := bb_ Z102 hb; have n2_ := bb_ Z103 hb; have n3_ := bb_ Z125 hb; have n4_ := bb_ Z126 hb; have n5_ := Aside0.mk (below_step (bl_ HB.out) hb); clear Z101 Z102 Z103 Z125 Z126 HB; have Z101 := n0_; have Z102 := n1_; have Z103 := n2_; have Z125 := n3_; have Z126 := n4_; have HB := n5_; clear n0_ n1_ n2_ n3_ n4_ n5_; (try clear hb); (try clear hb2); (try clear hk); (try clear hi); have hnb259 := NB102_125.out; have hnc259 := NB125_102.out; have hnb260 := NB102_126.out; have hnc260 := NB126_102.out; obtain ⟨hcz261_0, hcz261_1, hcz261_2, hcz261_3⟩ := bcs4 Z102.out; obtain ⟨hfz261_0, hfz261_1, hfz261_2, hfz261_3⟩ := bfs4 Z102.out; obtain ⟨hcz262_0, hcz262_1, hcz262_2, hcz262_3⟩ := bcs4 Z103.out; obtain ⟨hfz262_0, hfz262_1, hfz262_2, hfz262_3⟩ := bfs4 Z103.out) | (go_at_call 16; (with_reducible refine (label_Over.calls t109 t110 t111 t112 t113 t114 t115 t116 true _ A243.out).mono ?_); rintro e w263 ⟨rfl, hb⟩; have n0_ := bb_ Z101 hb; have n1_ := bb_ Z102 hb; have n2_ := bb_ Z103 hb; have n3_ := bb_ Z125 hb; have n4_ := bb_ Z126 hb; have n5_ := Aside0.mk (below_step (bl_ HB.out) hb); clear Z101 Z102 Z103 Z125 Z126 HB; have Z101 := n0_; have Z102 := n1_; have Z103 := n2_; have Z125 := n3_; have Z126 := n4_; have HB := n5_; clear n0_ n1_ n2_ n3_ n4_ n5_; (try clear hb); (try clear hb2); (try clear hk); (try clear hi); have hnb264 := NB126_125.out; have hnc264 := NB125_126.out; obtain ⟨hcz265_0, hcz265_1, hcz265_2, hcz265_3⟩ := bcs4 Z126.out; obtain ⟨hfz265_0, hfz265_1, hfz265_2, hfz265_3⟩ := bfs4 Z126.out; obtain ⟨hcz266_0, hcz266_1, hcz266_2, hcz266_3⟩ := bcs4 Z103.out; obtain ⟨hfz266_0, hfz266_1, hfz266_2, hfz266_3⟩ := bfs4 Z103.out) | (go_at_call 16; (with_reducible refine (label_Over.calls t121 t122 t123 t124 t113 t114 t115 t116 t144 _ A245.out).mono ?_); rintro e w267 ⟨rfl, hb⟩; have n0_ := bb_ Z101 hb; have n1_ := bb_ Z102 hb; have n2_ := bb_ Z103 hb; have n3_ := bb_ Z125 hb; have n4_ := bb_ Z126 hb; have n5_ := Aside0.mk (below_step (bl_ HB.out) hb); clear Z101 Z102 Z103 Z125 Z126 HB; have Z101 := n0_; have Z102 := n1_; have Z103 := n2_; have Z125 := n3_; have Z126 := n4_; have HB := n5_; clear n0_ n1_ n2_ n3_ n4_ n5_; (try clear hb); (try clear hb2); (try clear hk); (try clear hi)))
         go_meet
         case rel => exact ⟨_, (!t144), (by first | rfl | (simp; done) | (simp [*]; done)), H', ⟨by have := HJ10.out; first | omega | exact Nat.le_refl _⟩, ⟨bk_ Z101.out⟩, ⟨bk_ Z102.out⟩, ⟨bk_ Z103.out⟩, ⟨bk_ Z125.out⟩, ⟨bk_ Z126.out⟩, ⟨bl_ HB.out⟩⟩
        ·replace c244 := Bool.eq_false_iff.mpr c244
         subst c244
         have H1 : (donjonlaw4_LabelLattice.j1 kj10 false t105 t106 t107 t108 t109 t110 t111 t112 t117 t118 t119 t120 t121 t122 t123 t124) = some r := by rw [if_neg (show ¬ (false = true) by decide)] at H; exact H
         clear H
         have H := H1
         clear H1
         have H' := Aside0.mk H
         clear H
         have hnb268 := NB103_101.out
         have hnc268 := NB101_103.out
         have hnb269 := NB103_102.out
         have hnc269 := NB102_103.out
         have hnb270 := NB103_125.out
         have hnc270 := NB125_103.out
         have hnb271 := NB103_126.out
         have hnc271 := NB126_103.out
         obtain ⟨hcz272_0, hcz272_1, hcz272_2, hcz272_3⟩ := bcs4 Z103.out
         obtain ⟨hfz272_0, hfz272_1, hfz272_2, hfz272_3⟩ := bfs4 Z103.out
         have hnb273 := NB101_102.out
         have hnc273 := NB102_101.out
         have hnb274 := NB101_125.out
         have hnc274 := NB125_101.out
         have hnb275 := NB101_126.out
         have hnc275 := NB126_101.out
         obtain ⟨hcz276_0, hcz276_1, hcz276_2, hcz276_3⟩ := bcs4 Z101.out
         obtain ⟨hfz276_0, hfz276_1, hfz276_2, hfz276_3⟩ := bfs4 Z101.out
         go_wp2_with (first | ((with_reducible refine gate_callee (f := 16) rfl ?_); refine goesL_ (some 57) rfl rfl Tryd.func16 (by kernel_rfl) rfl #[.agg #[.int .i64 t113, .int .i64 t114, .int .i64 t115, .int .i64 t116], .agg #[.int .i64 t105, .int .i64 t106, .int .i64 t107, .int .i64 t108]] rfl (by (try simp only [List.map_toArray, List.map_cons, List.map_nil]); first | done | rfl | (simp only [List.length_drop, List.length_take]; rfl)) ?_; (with_reducible refine (label_Over.calls t113 t114 t115 t116 t105 t106 t107 t108 false _ A86.out).mono ?_); rintro e w277 ⟨rfl, hb⟩; refine ⟨_, rfl, ?_⟩; have n0_ := bb_ Z101 hb; have n1_ := bb_ Z102 hb; have n2_ := bb_ Z103 hb; have n3_ := bb_ Z125 hb; have n4_ := bb_ Z126 hb; have n5_ := Aside0.mk (below_step (bl_ HB.out) hb); clear Z101 Z102 Z103 Z125 Z126 HB; have Z101 := n0_; have Z102 := n1_; have Z103 := n2_; have Z125 := n3_; have Z126 := n4_; have HB := n5_; clear n0_ n1_ n2_ n3_ n4_ n5_; (try clear hb); (try clear hb2); (try clear hk); (try clear hi); obtain ⟨hcz278_0, hcz278_1, hcz278_2, hcz278_3⟩ := bcs4 Z101.out; obtain ⟨hfz278_0, hfz278_1, hfz278_2, hfz278_3⟩ := bfs4 Z101.out; obtain ⟨hcz279_0, hcz279_1, hcz279_2, hcz279_3⟩ := bcs4 Z103.out; obtain ⟨hfz279_0, hfz279_1, hfz279_2, hfz279_3⟩ := bfs4 Z103.out) | (go_at_call 16; (with_reducible refine (label_Over.calls t105 t106 t107 t108 t113 t114 t115 t116 true _ A241.out).mono ?_); rintro e w280 ⟨rfl, hb⟩; have n0_ := bb_ Z101 hb; have n1_ := bb_ Z102 hb; have n2_ := bb_ Z103 hb; have n3_ := bb_ Z125 hb; have n4_ := bb_ Z126 hb; have n5_ := Aside0.mk (below_step (bl_ HB.out) hb); clear Z101 Z102 Z103 Z125 Z126 HB; have Z101 := n0_; have Z102 := n1_; have Z103 := n2_; have Z125 := n3_; have Z126 := n4_; have HB := n5_; clear n0_ n1_ n2_ n3_ n4_ n5_; (try clear hb); (try clear hb2); (try clear hk); (try clear hi); have hnb281 := NB102_125.out; have hnc281 := NB125_102.out; have hnb282 := NB102_126.out; have hnc282 := NB126_102.out; obtain ⟨hcz283_0, hcz283_1, hcz283_2, hcz283_3⟩ := bcs4 Z102.out; obtain ⟨hfz283_0, hfz283_1, hfz283_2, hfz283_3⟩ := bfs4 Z102.out; obtain ⟨hcz284_0, hcz284_1, hcz284_2, hcz284_3⟩ := bcs4 Z103.out; obtain ⟨hfz284_0, hfz284_1, hfz284_2, hfz284_3⟩ := bfs4 Z103.out) | (go_at_call 16; (with_reducible refine (label_Over.calls t109 t110 t111 t112 t113 t114 t115 t116 false _ A243.out).mono ?_); rintro e w285 ⟨rfl, hb⟩; have n0_ := bb_ Z101 hb; have n1_ := bb_ Z102 hb; have n2_ := bb_ Z103 hb; have n3_ := bb_ Z125 hb; have n4_ := bb_ Z126 hb; have n5_ := Aside0.mk (below_step (bl_ HB.out) hb); clear Z101 Z102 Z103 Z125 Z126 HB; have Z101 := n0_; have Z102 := n1_; have Z103 := n2_; have Z125 := n3_; have Z126 := n4_; have HB := n5_; clear n0_ n1_ n2_ n3_ n4_ n5_; (try clear hb); (try clear hb2); (try clear hk); (try clear hi)))
         go_meet
         case rel => exact ⟨_, (false), (by first | rfl | (simp; done) | (simp [*]; done)), H', ⟨by have := HJ10.out; first | omega | exact Nat.le_refl _⟩, ⟨bk_ Z101.out⟩, ⟨bk_ Z102.out⟩, ⟨bk_ Z103.out⟩, ⟨bk_ Z125.out⟩, ⟨bk_ Z126.out⟩, ⟨bl_ HB.out⟩⟩
       ·replace c242 := Bool.eq_false_iff.mpr c242
        subst c242
        have H1 : (donjonlaw4_LabelLattice.j1 kj10 false t105 t106 t107 t108 t109 t110 t111 t112 t117 t118 t119 t120 t121 t122 t123 t124) = some r := by rw [if_neg (show ¬ (false = true) by decide)] at H; exact H
        clear H
        have H := H1
        clear H1
        have H' := Aside0.mk H
        clear H
        have hnb286 := NB103_101.out
        have hnc286 := NB101_103.out
        have hnb287 := NB103_102.out
        have hnc287 := NB102_103.out
        have hnb288 := NB103_125.out
        have hnc288 := NB125_103.out
        have hnb289 := NB103_126.out
        have hnc289 := NB126_103.out
        obtain ⟨hcz290_0, hcz290_1, hcz290_2, hcz290_3⟩ := bcs4 Z103.out
        obtain ⟨hfz290_0, hfz290_1, hfz290_2, hfz290_3⟩ := bfs4 Z103.out
        have hnb291 := NB101_102.out
        have hnc291 := NB102_101.out
        have hnb292 := NB101_125.out
        have hnc292 := NB125_101.out
        have hnb293 := NB101_126.out
        have hnc293 := NB126_101.out
        obtain ⟨hcz294_0, hcz294_1, hcz294_2, hcz294_3⟩ := bcs4 Z101.out
        obtain ⟨hfz294_0, hfz294_1, hfz294_2, hfz294_3⟩ := bfs4 Z101.out
        go_wp2_with (first | ((with_reducible refine gate_callee (f := 16) rfl ?_); refine goesL_ (some 57) rfl rfl Tryd.func16 (by kernel_rfl) rfl #[.agg #[.int .i64 t113, .int .i64 t114, .int .i64 t115, .int .i64 t116], .agg #[.int .i64 t105, .int .i64 t106, .int .i64 t107, .int .i64 t108]] rfl (by (try simp only [List.map_toArray, List.map_cons, List.map_nil]); first | done | rfl | (simp only [List.length_drop, List.length_take]; rfl)) ?_; (with_reducible refine (label_Over.calls t113 t114 t115 t116 t105 t106 t107 t108 false _ A86.out).mono ?_); rintro e w295 ⟨rfl, hb⟩; refine ⟨_, rfl, ?_⟩; have n0_ := bb_ Z101 hb; have n1_ := bb_ Z102 hb; have n2_ := bb_ Z103 hb; have n3_ := bb_ Z125 hb; have n4_ := bb_ Z126 hb; have n5_ := Aside0.mk (below_step (bl_ HB.out) hb); clear Z101 Z102 Z103 Z125 Z126 HB; have Z101 := n0_; have Z102 := n1_; have Z103 := n2_; have Z125 := n3_; have Z126 := n4_; have HB := n5_; clear n0_ n1_ n2_ n3_ n4_ n5_; (try clear hb); (try clear hb2); (try clear hk); (try clear hi); obtain ⟨hcz296_0, hcz296_1, hcz296_2, hcz296_3⟩ := bcs4 Z101.out; obtain ⟨hfz296_0, hfz296_1, hfz296_2, hfz296_3⟩ := bfs4 Z101.out; obtain ⟨hcz297_0, hcz297_1, hcz297_2, hcz297_3⟩ := bcs4 Z103.out; obtain ⟨hfz297_0, hfz297_1, hfz297_2, hfz297_3⟩ := bfs4 Z103.out) | (go_at_call 16; (with_reducible refine (label_Over.calls t105 t106 t107 t108 t113 t114 t115 t116 false _ A241.out).mono ?_); rintro e w298 ⟨rfl, hb⟩; have n0_ := bb_ Z101 hb; have n1_ := bb_ Z102 hb; have n2_ := bb_ Z103 hb; have n3_ := bb_ Z125 hb; have n4_ := bb_ Z126 hb; have n5_ := Aside0.mk (below_step (bl_ HB.out) hb); clear Z101 Z102 Z103 Z125 Z126 HB; have Z101 := n0_; have Z102 := n1_; have Z103 := n2_; have Z125 := n3_; have Z126 := n4_; have HB := n5_; clear n0_ n1_ n2_ n3_ n4_ n5_; (try clear hb); (try clear hb2); (try clear hk); (try clear hi)))
        go_meet
        case rel => exact ⟨_, (false), (by first | rfl | (simp; done) | (simp [*]; done)), H', ⟨by have := HJ10.out; first | omega | exact Nat.le_refl _⟩, ⟨bk_ Z101.out⟩, ⟨bk_ Z102.out⟩, ⟨bk_ Z103.out⟩, ⟨bk_ Z125.out⟩, ⟨bk_ Z126.out⟩, ⟨bl_ HB.out⟩⟩
     case rest =>
      clear HC85
      try clear c1
      try clear c2
      try clear p2
      try clear c6
      try clear c7
      try clear c8
      try clear c9
      try clear c10
      try clear c11
      try clear c12
      try clear c13
      try clear c14
      try clear c15
      try clear c16
      try clear c17
      try clear c18
      try clear c19
      try clear c20
      try clear c21
      try clear c22
      try clear c23
      try clear c24
      try clear c25
      try clear c26
      try clear c27
      try clear c28
      try clear c29
      try clear c64
      try clear c65
      try clear c66
      try clear c70
      try clear c71
      try clear c75
      try clear c84
      try clear c87
      try clear c89
      try clear c91
      try clear c93
      try clear c95
      try clear c97
      try clear c98
      try clear c99
      try clear c100
      try clear c102
      try clear c103
      try clear c104
      try clear c108
      try clear c109
      try clear c113
      try clear c125
      try clear c126
      try clear c127
      try clear c128
      try clear c130
      try clear c131
      try clear c132
      try clear c136
      try clear c137
      try clear c141
      try clear c150
      try clear c151
      try clear c152
      try clear c153
      try clear c155
      try clear c156
      try clear c157
      try clear c161
      try clear c162
      try clear c166
      try clear c173
      try clear c175
      try clear c177
      try clear c178
      try clear c179
      try clear c180
      try clear c182
      try clear c183
      try clear c184
      try clear c188
      try clear c189
      try clear c198
      try clear c202
      try clear c203
      try clear c204
      try clear c205
      try clear c207
      try clear c208
      try clear c209
      try clear c213
      try clear c214
      try clear c223
      try clear c224
      try clear c225
      try clear c226
      try clear c228
      try clear c229
      try clear c230
      try clear c234
      try clear c235
      try clear c242
      try clear c244
      try clear c246
      try clear c247
      try clear c248
      try clear c249
      try clear c251
      try clear c252
      try clear c253
      try clear c259
      try clear c260
      try clear c264
      try clear c268
      try clear c269
      try clear c270
      try clear c271
      try clear c273
      try clear c274
      try clear c275
      try clear c281
      try clear c282
      try clear c286
      try clear c287
      try clear c288
      try clear c289
      try clear c291
      try clear c292
      try clear c293
      try clear hcz101_0 hcz101_1 hcz101_2 hcz101_3
      try clear hcz105_0 hcz105_1 hcz105_2 hcz105_3
      try clear hcz107_0 hcz107_1 hcz107_2 hcz107_3
      try clear hcz110_0 hcz110_1 hcz110_2 hcz110_3
      try clear hcz112_0 hcz112_1 hcz112_2 hcz112_3
      try clear hcz114_0 hcz114_1 hcz114_2 hcz114_3
      try clear hcz116_0 hcz116_1 hcz116_2 hcz116_3
      try clear hcz117_0 hcz117_1 hcz117_2 hcz117_3
      try clear hcz119_0 hcz119_1 hcz119_2 hcz119_3
      try clear hcz120_0 hcz120_1 hcz120_2 hcz120_3
      try clear hcz122_0 hcz122_1 hcz122_2 hcz122_3
      try clear hcz123_0 hcz123_1 hcz123_2 hcz123_3
      try clear hcz129_0 hcz129_1 hcz129_2 hcz129_3
      try clear hcz133_0 hcz133_1 hcz133_2 hcz133_3
      try clear hcz135_0 hcz135_1 hcz135_2 hcz135_3
      try clear hcz138_0 hcz138_1 hcz138_2 hcz138_3
      try clear hcz140_0 hcz140_1 hcz140_2 hcz140_3
      try clear hcz142_0 hcz142_1 hcz142_2 hcz142_3
      try clear hcz144_0 hcz144_1 hcz144_2 hcz144_3
      try clear hcz145_0 hcz145_1 hcz145_2 hcz145_3
      try clear hcz147_0 hcz147_1 hcz147_2 hcz147_3
      try clear hcz148_0 hcz148_1 hcz148_2 hcz148_3
      try clear hcz154_0 hcz154_1 hcz154_2 hcz154_3
      try clear hcz158_0 hcz158_1 hcz158_2 hcz158_3
      try clear hcz160_0 hcz160_1 hcz160_2 hcz160_3
      try clear hcz163_0 hcz163_1 hcz163_2 hcz163_3
      try clear hcz165_0 hcz165_1 hcz165_2 hcz165_3
      try clear hcz167_0 hcz167_1 hcz167_2 hcz167_3
      try clear hcz169_0 hcz169_1 hcz169_2 hcz169_3
      try clear hcz170_0 hcz170_1 hcz170_2 hcz170_3
      try clear hcz181_0 hcz181_1 hcz181_2 hcz181_3
      try clear hcz185_0 hcz185_1 hcz185_2 hcz185_3
      try clear hcz187_0 hcz187_1 hcz187_2 hcz187_3
      try clear hcz190_0 hcz190_1 hcz190_2 hcz190_3
      try clear hcz192_0 hcz192_1 hcz192_2 hcz192_3
      try clear hcz193_0 hcz193_1 hcz193_2 hcz193_3
      try clear hcz195_0 hcz195_1 hcz195_2 hcz195_3
      try clear hcz196_0 hcz196_1 hcz196_2 hcz196_3
      try clear hcz199_0 hcz199_1 hcz199_2 hcz199_3
      try clear hcz200_0 hcz200_1 hcz200_2 hcz200_3
      try clear hcz206_0 hcz206_1 hcz206_2 hcz206_3
      try clear hcz210_0 hcz210_1 hcz210_2 hcz210_3
      try clear hcz212_0 hcz212_1 hcz212_2 hcz212_3
      try clear hcz215_0 hcz215_1 hcz215_2 hcz215_3
      try clear hcz217_0 hcz217_1 hcz217_2 hcz217_3
      try clear hcz218_0 hcz218_1 hcz218_2 hcz218_3
      try clear hcz220_0 hcz220_1 hcz220_2 hcz220_3
      try clear hcz221_0 hcz221_1 hcz221_2 hcz221_3
      try clear hcz227_0 hcz227_1 hcz227_2 hcz227_3
      try clear hcz231_0 hcz231_1 hcz231_2 hcz231_3
      try clear hcz233_0 hcz233_1 hcz233_2 hcz233_3
      try clear hcz236_0 hcz236_1 hcz236_2 hcz236_3
      try clear hcz238_0 hcz238_1 hcz238_2 hcz238_3
      try clear hcz239_0 hcz239_1 hcz239_2 hcz239_3
      try clear hcz250_0 hcz250_1 hcz250_2 hcz250_3
      try clear hcz254_0 hcz254_1 hcz254_2 hcz254_3
      try clear hcz256_0 hcz256_1 hcz256_2 hcz256_3
      try clear hcz257_0 hcz257_1 hcz257_2 hcz257_3
      try clear hcz261_0 hcz261_1 hcz261_2 hcz261_3
      try clear hcz262_0 hcz262_1 hcz262_2 hcz262_3
      try clear hcz265_0 hcz265_1 hcz265_2 hcz265_3
      try clear hcz266_0 hcz266_1 hcz266_2 hcz266_3
      try clear hcz272_0 hcz272_1 hcz272_2 hcz272_3
      try clear hcz276_0 hcz276_1 hcz276_2 hcz276_3
      try clear hcz278_0 hcz278_1 hcz278_2 hcz278_3
      try clear hcz279_0 hcz279_1 hcz279_2 hcz279_3
      try clear hcz283_0 hcz283_1 hcz283_2 hcz283_3
      try clear hcz284_0 hcz284_1 hcz284_2 hcz284_3
      try clear hcz290_0 hcz290_1 hcz290_2 hcz290_3
      try clear hcz294_0 hcz294_1 hcz294_2 hcz294_3
      try clear hcz296_0 hcz296_1 hcz296_2 hcz296_3
      try clear hcz297_0 hcz297_1 hcz297_2 hcz297_3
      try clear hcz62_0 hcz62_1 hcz62_2 hcz62_3
      try clear hcz67_0 hcz67_1 hcz67_2 hcz67_3
      try clear hcz69_0 hcz69_1 hcz69_2 hcz69_3
      try clear hcz72_0 hcz72_1 hcz72_2 hcz72_3
      try clear hcz74_0 hcz74_1 hcz74_2 hcz74_3
      try clear hcz76_0 hcz76_1 hcz76_2 hcz76_3
      try clear hcz78_0 hcz78_1 hcz78_2 hcz78_3
      try clear hcz79_0 hcz79_1 hcz79_2 hcz79_3
      try clear hcz81_0 hcz81_1 hcz81_2 hcz81_3
      try clear hcz82_0 hcz82_1 hcz82_2 hcz82_3
      try clear hfz101_0 hfz101_1 hfz101_2 hfz101_3
      try clear hfz105_0 hfz105_1 hfz105_2 hfz105_3
      try clear hfz107_0 hfz107_1 hfz107_2 hfz107_3
      try clear hfz110_0 hfz110_1 hfz110_2 hfz110_3
      try clear hfz112_0 hfz112_1 hfz112_2 hfz112_3
      try clear hfz114_0 hfz114_1 hfz114_2 hfz114_3
      try clear hfz116_0 hfz116_1 hfz116_2 hfz116_3
      try clear hfz117_0 hfz117_1 hfz117_2 hfz117_3
      try clear hfz119_0 hfz119_1 hfz119_2 hfz119_3
      try clear hfz120_0 hfz120_1 hfz120_2 hfz120_3
      try clear hfz122_0 hfz122_1 hfz122_2 hfz122_3
      try clear hfz123_0 hfz123_1 hfz123_2 hfz123_3
      try clear hfz129_0 hfz129_1 hfz129_2 hfz129_3
      try clear hfz133_0 hfz133_1 hfz133_2 hfz133_3
      try clear hfz135_0 hfz135_1 hfz135_2 hfz135_3
      try clear hfz138_0 hfz138_1 hfz138_2 hfz138_3
      try clear hfz140_0 hfz140_1 hfz140_2 hfz140_3
      try clear hfz142_0 hfz142_1 hfz142_2 hfz142_3
      try clear hfz144_0 hfz144_1 hfz144_2 hfz144_3
      try clear hfz145_0 hfz145_1 hfz145_2 hfz145_3
      try clear hfz147_0 hfz147_1 hfz147_2 hfz147_3
      try clear hfz148_0 hfz148_1 hfz148_2 hfz148_3
      try clear hfz154_0 hfz154_1 hfz154_2 hfz154_3
      try clear hfz158_0 hfz158_1 hfz158_2 hfz158_3
      try clear hfz160_0 hfz160_1 hfz160_2 hfz160_3
      try clear hfz163_0 hfz163_1 hfz163_2 hfz163_3
      try clear hfz165_0 hfz165_1 hfz165_2 hfz165_3
      try clear hfz167_0 hfz167_1 hfz167_2 hfz167_3
      try clear hfz169_0 hfz169_1 hfz169_2 hfz169_3
      try clear hfz170_0 hfz170_1 hfz170_2 hfz170_3
      try clear hfz181_0 hfz181_1 hfz181_2 hfz181_3
      try clear hfz185_0 hfz185_1 hfz185_2 hfz185_3
      try clear hfz187_0 hfz187_1 hfz187_2 hfz187_3
      try clear hfz190_0 hfz190_1 hfz190_2 hfz190_3
      try clear hfz192_0 hfz192_1 hfz192_2 hfz192_3
      try clear hfz193_0 hfz193_1 hfz193_2 hfz193_3
      try clear hfz195_0 hfz195_1 hfz195_2 hfz195_3
      try clear hfz196_0 hfz196_1 hfz196_2 hfz196_3
      try clear hfz199_0 hfz199_1 hfz199_2 hfz199_3
      try clear hfz200_0 hfz200_1 hfz200_2 hfz200_3
      try clear hfz206_0 hfz206_1 hfz206_2 hfz206_3
      try clear hfz210_0 hfz210_1 hfz210_2 hfz210_3
      try clear hfz212_0 hfz212_1 hfz212_2 hfz212_3
      try clear hfz215_0 hfz215_1 hfz215_2 hfz215_3
      try clear hfz217_0 hfz217_1 hfz217_2 hfz217_3
      try clear hfz218_0 hfz218_1 hfz218_2 hfz218_3
      try clear hfz220_0 hfz220_1 hfz220_2 hfz220_3
      try clear hfz221_0 hfz221_1 hfz221_2 hfz221_3
      try clear hfz227_0 hfz227_1 hfz227_2 hfz227_3
      try clear hfz231_0 hfz231_1 hfz231_2 hfz231_3
      try clear hfz233_0 hfz233_1 hfz233_2 hfz233_3
      try clear hfz236_0 hfz236_1 hfz236_2 hfz236_3
      try clear hfz238_0 hfz238_1 hfz238_2 hfz238_3
      try clear hfz239_0 hfz239_1 hfz239_2 hfz239_3
      try clear hfz250_0 hfz250_1 hfz250_2 hfz250_3
      try clear hfz254_0 hfz254_1 hfz254_2 hfz254_3
      try clear hfz256_0 hfz256_1 hfz256_2 hfz256_3
      try clear hfz257_0 hfz257_1 hfz257_2 hfz257_3
      try clear hfz261_0 hfz261_1 hfz261_2 hfz261_3
      try clear hfz262_0 hfz262_1 hfz262_2 hfz262_3
      try clear hfz265_0 hfz265_1 hfz265_2 hfz265_3
      try clear hfz266_0 hfz266_1 hfz266_2 hfz266_3
      try clear hfz272_0 hfz272_1 hfz272_2 hfz272_3
      try clear hfz276_0 hfz276_1 hfz276_2 hfz276_3
      try clear hfz278_0 hfz278_1 hfz278_2 hfz278_3
      try clear hfz279_0 hfz279_1 hfz279_2 hfz279_3
      try clear hfz283_0 hfz283_1 hfz283_2 hfz283_3
      try clear hfz284_0 hfz284_1 hfz284_2 hfz284_3
      try clear hfz290_0 hfz290_1 hfz290_2 hfz290_3
      try clear hfz294_0 hfz294_1 hfz294_2 hfz294_3
      try clear hfz296_0 hfz296_1 hfz296_2 hfz296_3
      try clear hfz297_0 hfz297_1 hfz297_2 hfz297_3
      try clear hfz62_0 hfz62_1 hfz62_2 hfz62_3
      try clear hfz67_0 hfz67_1 hfz67_2 hfz67_3
      try clear hfz69_0 hfz69_1 hfz69_2 hfz69_3
      try clear hfz72_0 hfz72_1 hfz72_2 hfz72_3
      try clear hfz74_0 hfz74_1 hfz74_2 hfz74_3
      try clear hfz76_0 hfz76_1 hfz76_2 hfz76_3
      try clear hfz78_0 hfz78_1 hfz78_2 hfz78_3
      try clear hfz79_0 hfz79_1 hfz79_2 hfz79_3
      try clear hfz81_0 hfz81_1 hfz81_2 hfz81_3
      try clear hfz82_0 hfz82_1 hfz82_2 hfz82_3
      obtain ⟨kq, x84_84, rfl, HA, HJ84, Z101, Z102, Z103, Z125, Z126, HB⟩ := hcut
      cases kq with
      | zero => exact absurd HA.out (by simp [donjonlaw4_LabelLattice.j1])
      | succ kj84 =>
       have H := HA.out
       clear HA
       simp only [donjonlaw4_LabelLattice.j1] at H
       by_cases c299 : x84_84 = true
       ·subst c299
        have H1 : (some false) = some r := by rw [if_pos rfl] at H; exact H
        clear H
        have H := H1
        clear H1
        obtain rfl := Option.some.inj H
        exact absurd HRT.out (by decide)
       ·replace c299 := Bool.eq_false_iff.mpr c299
        subst c299
        have H1 : ((label_Join.f t109 t110 t111 t112 t105 t106 t107 t108).bind fun bt145 => (if (t117 == bt145.1 && (t118 == bt145.2.1 && (t119 == bt145.2.2.1 && (t120 == bt145.2.2.2)))) = true then ((label_Meet.f t109 t110 t111 t112 t105 t106 t107 t108).bind fun bt149 => (if (t121 == bt149.1 && (t122 == bt149.2.1 && (t123 == bt149.2.2.1 && (t124 == bt149.2.2.2)))) = true then ((label_Join.f t105 t106 t107 t108 t121 t122 t123 t124).bind fun bt153 => (if (bt153.1 == t105 && (bt153.2.1 == t106 && (bt153.2.2.1 == t107 && (bt153.2.2.2 == t108)))) = true then ((label_Meet.f t105 t106 t107 t108 t117 t118 t119 t120).bind fun bt157 => (if (bt157.1 == t105 && (bt157.2.1 == t106 && (bt157.2.2.1 == t107 && (bt157.2.2.2 == t108)))) = true then ((label_Over.f t105 t106 t107 t108 t109 t110 t111 t112).bind fun t161 => (if (t161 == (t117 == t105 && (t118 == t106 && (t119 == t107 && (t120 == t108))))) = true then ((label_Over.f t105 t106 t107 t108 t109 t110 t111 t112).bind fun t162 => (some (t162 == (t121 == t109 && (t122 == t110 && (t123 == t111 && (t124 == t112))))))) else (some false))) else (some false))) else (some false))) else (some false))) else (some false))) = some r := by rw [if_neg (show ¬ (false = true) by decide)] at H; exact H
        clear H
        have H := H1
        clear H1
        replace H := Option.bind_eq_some_iff.mp H
        obtain ⟨⟨t145, t146, t147, t148⟩, A3000, H⟩ := H
        try dsimp only at H
        have A300 := Aside0.mk A3000
        clear A3000
        by_cases c301 : (t117 == t145 && (t118 == t146 && (t119 == t147 && (t120 == t148)))) = true
        ·rw [if_pos c301] at H
         have c301b0 : (t117 == t145 && (t118 == t146 && (t119 == t147 && (t120 == t148)))) = true := c301
         (try (have c301b1 : decide (t117 = t145 && (t118 == t146 && (t119 == t147 && (t120 == t148)))) = true := by simpa using c301))
         (try (have c301b2 : (t117 == t145 && (t118 == t146 && (t119 == t147 && (t120 == t148)))) = true := by simpa using c301))
         clear c301
         replace H := Option.bind_eq_some_iff.mp H
         obtain ⟨⟨t149, t150, t151, t152⟩, A3020, H⟩ := H
         try dsimp only at H
         have A302 := Aside0.mk A3020
         clear A3020
         by_cases c303 : (t121 == t149 && (t122 == t150 && (t123 == t151 && (t124 == t152)))) = true
         ·rw [if_pos c303] at H
          have c303b0 : (t121 == t149 && (t122 == t150 && (t123 == t151 && (t124 == t152)))) = true := c303
          (try (have c303b1 : decide (t121 = t149 && (t122 == t150 && (t123 == t151 && (t124 == t152)))) = true := by simpa using c303))
          (try (have c303b2 : (t121 == t149 && (t122 == t150 && (t123 == t151 && (t124 == t152)))) = true := by simpa using c303))
          clear c303
          replace H := Option.bind_eq_some_iff.mp H
          obtain ⟨⟨t153, t154, t155, t156⟩, A3040, H⟩ := H
          try dsimp only at H
          have A304 := Aside0.mk A3040
          clear A3040
          by_cases c305 : (t153 == t105 && (t154 == t106 && (t155 == t107 && (t156 == t108)))) = true
          ·rw [if_pos c305] at H
           have c305b0 : (t153 == t105 && (t154 == t106 && (t155 == t107 && (t156 == t108)))) = true := c305
           (try (have c305b1 : decide (t153 = t105 && (t154 == t106 && (t155 == t107 && (t156 == t108)))) = true := by simpa using c305))
           (try (have c305b2 : (t153 == t105 && (t154 == t106 && (t155 == t107 && (t156 == t108)))) = true := by simpa using c305))
           clear c305
           replace H := Option.bind_eq_some_iff.mp H
           obtain ⟨⟨t157, t158, t159, t160⟩, A3060, H⟩ := H
           try dsimp only at H
           have A306 := Aside0.mk A3060
           clear A3060
           by_cases c307 : (t157 == t105 && (t158 == t106 && (t159 == t107 && (t160 == t108)))) = true
           ·rw [if_pos c307] at H
            have c307b0 : (t157 == t105 && (t158 == t106 && (t159 == t107 && (t160 == t108)))) = true := c307
            (try (have c307b1 : decide (t157 = t105 && (t158 == t106 && (t159 == t107 && (t160 == t108)))) = true := by simpa using c307))
            (try (have c307b2 : (t157 == t105 && (t158 == t106 && (t159 == t107 && (t160 == t108)))) = true := by simpa using c307))
            clear c307
            replace H := Option.bind_eq_some_iff.mp H
            obtain ⟨t161, A3080, H⟩ := H
            try dsimp only at H
            have A308 := Aside0.mk A3080
            clear A3080
            by_cases c309 : (t161 == (t117 == t105 && (t118 == t106 && (t119 == t107 && (t120 == t108))))) = true
            ·rw [if_pos c309] at H
             have c309b0 : (t161 == (t117 == t105 && (t118 == t106 && (t119 == t107 && (t120 == t108))))) = true := c309
             (try (have c309b1 : decide (t161 = (t117 == t105 && (t118 == t106 && (t119 == t107 && (t120 == t108))))) = true := by simpa using c309))
             (try (have c309b2 : (t161 == (t117 == t105 && (t118 == t106 && (t119 == t107 && (t120 == t108))))) = true := by simpa using c309))
             clear c309
             replace H := Option.bind_eq_some_iff.mp H
             obtain ⟨t162, A3100, H⟩ := H
             try dsimp only at H
             have A310 := Aside0.mk A3100
             clear A3100
             obtain rfl := Option.some.inj H
             try go_wp2
             have n0_ := Aside0.mk (blk_drew Z101.out)
             have n1_ := Aside0.mk (blk_drew Z102.out)
             have n2_ := Aside0.mk (blk_drew Z103.out)
             have n3_ := Aside0.mk (blk_drew Z125.out)
             have n4_ := Aside0.mk (blk_drew Z126.out)
             have n5_ := Aside0.mk (below_drew1 HB.out)
             clear Z101 Z102 Z103 Z125 Z126 HB
             have Z101 := n0_; have Z102 := n1_; have Z103 := n2_; have Z125 := n3_; have Z126 := n4_; have HB := n5_
             clear n0_ n1_ n2_ n3_ n4_ n5_
             refine start_ (n := 45) (S := fun w' => w'.cell? ⟨gb125, 0, none⟩ = some (.int .i64 t117) ∧ w'.cell? ⟨gb125, 1, none⟩ = some (.int .i64 t118) ∧ w'.cell? ⟨gb125, 2, none⟩ = some (.int .i64 t119) ∧ w'.cell? ⟨gb125, 3, none⟩ = some (.int .i64 t120) ∧ w'.cell? ⟨gb102, 0, none⟩ = some (.int .i64 t109) ∧ w'.cell? ⟨gb102, 1, none⟩ = some (.int .i64 t110) ∧ w'.cell? ⟨gb102, 2, none⟩ = some (.int .i64 t111) ∧ w'.cell? ⟨gb102, 3, none⟩ = some (.int .i64 t112) ∧ w'.cell? ⟨gb101, 0, none⟩ = some (.int .i64 t105) ∧ w'.cell? ⟨gb101, 1, none⟩ = some (.int .i64 t106) ∧ w'.cell? ⟨gb101, 2, none⟩ = some (.int .i64 t107) ∧ w'.cell? ⟨gb101, 3, none⟩ = some (.int .i64 t108) ∧ w'.cell? ⟨gb126, 0, none⟩ = some (.int .i64 t121) ∧ w'.cell? ⟨gb126, 1, none⟩ = some (.int .i64 t122) ∧ w'.cell? ⟨gb126, 2, none⟩ = some (.int .i64 t123) ∧ w'.cell? ⟨gb126, 3, none⟩ = some (.int .i64 t124)) (ds := []) #[false, false, false, false, false, false, false, false, false, false, false, false, false, false, false, false, false, false, false, false, false, false, false, false, false, false, false, false, false, false, false, false, false, false, false, false, false, false, false, false, false, false, false, false, false] (by kernel_rfl) rfl rfl ⟨(blk_cell Z125.out 0).trans rfl, (blk_cell Z125.out 1).trans rfl, (blk_cell Z125.out 2).trans rfl, (blk_cell Z125.out 3).trans rfl, (blk_cell Z102.out 0).trans rfl, (blk_cell Z102.out 1).trans rfl, (blk_cell Z102.out 2).trans rfl, (blk_cell Z102.out 3).trans rfl, (blk_cell Z101.out 0).trans rfl, (blk_cell Z101.out 1).trans rfl, (blk_cell Z101.out 2).trans rfl, (blk_cell Z101.out 3).trans rfl, (blk_cell Z126.out 0).trans rfl, (blk_cell Z126.out 1).trans rfl, (blk_cell Z126.out 2).trans rfl, (blk_cell Z126.out 3).trans rfl⟩ (fun hHeld => ?_); refine with_tabW donjonlaw4_LabelLattice.tab9 donjonlaw4_LabelLattice.bits9 (fun HT_ HW_ => ?_)
             generalize wc.drew = w311 at Z101 Z102 Z103 Z125 Z126 HB hHeld ⊢
             refine take_ (i := 0) (N := some 85) (v := ?_) (a' := ?_) #[true, false, false, false, false, false, false, false, false, false, false, false, false, false, false, false, false, false, false, false, false, false, false, false, false, false, false, false, false, false, false, false, false, false, false, false, false, false, false, false, false, false, false, false, false] rfl rfl (take_ofW HT_.out HW_.out (by kernel_rfl)) (fun _ _ _ h => h) (Or.inl ⟨by rfl, ?_⟩) hHeld ?_ ?_
             rotate_left
             ·rintro w' ⟨s0, s1, s2, s3, s4, s5, s6, s7, s8, s9, s10, s11, s12, s13, s14, s15⟩
              go_simp
              with_reducible rfl
             rotate_left
             ·simp only [Act.put, xset_a, xset_z, xset_s, i64_w, i32_w]
              rfl
             refine take_ (i := 1) (N := some 86) (v := ?_) (a' := ?_) #[true, true, false, false, false, false, false, false, false, false, false, false, false, false, false, false, false, false, false, false, false, false, false, false, false, false, false, false, false, false, false, false, false, false, false, false, false, false, false, false, false, false, false, false, false] rfl rfl (take_ofW HT_.out HW_.out (by kernel_rfl)) (fun _ _ _ h => h) (Or.inl ⟨by rfl, ?_⟩) hHeld ?_ ?_
             rotate_left
             ·rintro w' ⟨s0, s1, s2, s3, s4, s5, s6, s7, s8, s9, s10, s11, s12, s13, s14, s15⟩
              go_simp
              with_reducible rfl
             rotate_left
             ·simp only [Act.put, xset_a, xset_z, xset_s, i64_w, i32_w]
              rfl
             refine take_ (i := 2) (N := some 87) (v := ?_) (a' := ?_) #[true, true, true, false, false, false, false, false, false, false, false, false, false, false, false, false, false, false, false, false, false, false, false, false, false, false, false, false, false, false, false, false, false, false, false, false, false, false, false, false, false, false, false, false, false] rfl rfl (take_ofW HT_.out HW_.out (by kernel_rfl)) (fun _ _ _ h => h) (Or.inl ⟨by rfl, ?_⟩) hHeld ?_ ?_
             rotate_left
             ·rintro w' ⟨s0, s1, s2, s3, s4, s5, s6, s7, s8, s9, s10, s11, s12, s13, s14, s15⟩
              go_simp
              with_reducible rfl
             rotate_left
             ·simp only [Act.put, xset_a, xset_z, xset_s, i64_w, i32_w]
              rfl
             refine one_ (i := 3) (N := some 88) #[true, true, true, true, false, false, false, false, false, false, false, false, false, false, false, false, false, false, false, false, false, false, false, false, false, false, false, false, false, false, false, false, false, false, false, false, false, false, false, false, false, false, false, false, false] rfl rfl (one_of HT_.out (by kernel_rfl)) (by decide) (fun K hK => ?_)
             refine goes_ Tryd.func18 (by kernel_rfl) rfl #[.agg #[.int .i64 t109, .int .i64 t110, .int .i64 t111, .int .i64 t112], .agg #[.int .i64 t105, .int .i64 t106, .int .i64 t107, .int .i64 t108]] (by rfl) rfl rfl (by (try simp only [List.map_toArray, List.map_cons, List.map_nil]); first | done | rfl | (simp only [List.length_drop, List.length_take]; rfl)) ?_
             with_reducible refine (label_Join.calls t109 t110 t111 t112 t105 t106 t107 t108 t145 t146 t147 t148 _ A300.out).mono ?_
             rintro e w312 ⟨rfl, hb⟩
             refine ⟨_, rfl, ?_⟩
             have n0_ := bb_ Z101 hb
             have n1_ := bb_ Z102 hb
             have n2_ := bb_ Z103 hb
             have n3_ := bb_ Z125 hb
             have n4_ := bb_ Z126 hb
             have n5_ := Aside0.mk (below_step (bl_ HB.out) hb)
             clear Z101 Z102 Z103 Z125 Z126 HB
             have Z101 := n0_; have Z102 := n1_; have Z103 := n2_; have Z125 := n3_; have Z126 := n4_; have HB := n5_
             clear n0_ n1_ n2_ n3_ n4_ n5_
             (try clear hb)
             (try clear hb2)
             (try clear hk)
             (try clear hi)
             refine hK.out _ _ ⟨(blk_cell Z125.out 0).trans rfl, (blk_cell Z125.out 1).trans rfl, (blk_cell Z125.out 2).trans rfl, (blk_cell Z125.out 3).trans rfl, (blk_cell Z102.out 0).trans rfl, (blk_cell Z102.out 1).trans rfl, (blk_cell Z102.out 2).trans rfl, (blk_cell Z102.out 3).trans rfl, (blk_cell Z101.out 0).trans rfl, (blk_cell Z101.out 1).trans rfl, (blk_cell Z101.out 2).trans rfl, (blk_cell Z101.out 3).trans rfl, (blk_cell Z126.out 0).trans rfl, (blk_cell Z126.out 1).trans rfl, (blk_cell Z126.out 2).trans rfl, (blk_cell Z126.out 3).trans rfl⟩ (fun hHeld => ?_)
             clear hK K
             refine norm_ (a' := ?_) ?_ ?_
             rotate_left
             ·show Act.put _ (some 88) _ = _
              simp only [Act.put, xset_a, xset_z, xset_s, i64_w, i32_w]
              rfl
             refine pure_ (i := 4) (N := some 89) (v := ?_) (a' := ?_) #[true, true, true, true, true, false, false, false, false, false, false, false, false, false, false, false, false, false, false, false, false, false, false, false, false, false, false, false, false, false, false, false, false, false, false, false, false, false, false, false, false, false, false, false, false] rfl rfl (any_of HT_.out (by kernel_rfl)) (fun _ _ _ h => h) (Or.inl ⟨by rfl, ?_⟩) ?_ ?_
             rotate_left
             ·intro w'
              go_simp
              with_reducible rfl
             rotate_left
             ·simp only [Act.put, xset_a, xset_z, xset_s, i64_w, i32_w]
              rfl
             refine pure_ (i := 5) (N := some 90) (v := ?_) (a' := ?_) #[true, true, true, true, true, true, false, false, false, false, false, false, false, false, false, false, false, false, false, false, false, false, false, false, false, false, false, false, false, false, false, false, false, false, false, false, false, false, false, false, false, false, false, false, false] rfl rfl (any_of HT_.out (by kernel_rfl)) (fun _ _ _ h => h) (Or.inl ⟨by rfl, ?_⟩) ?_ ?_
             rotate_left
             ·intro w'
              go_simp
              with_reducible rfl
             rotate_left
             ·simp only [Act.put, xset_a, xset_z, xset_s, i64_w, i32_w]
              rfl
             refine take_ (i := 6) (N := some 91) (v := ?_) (a' := ?_) #[true, true, true, true, true, true, true, false, false, false, false, false, false, false, false, false, false, false, false, false, false, false, false, false, false, false, false, false, false, false, false, false, false, false, false, false, false, false, false, false, false, false, false, false, false] rfl rfl (take_ofW HT_.out HW_.out (by kernel_rfl)) (fun _ _ _ h => h) (Or.inl ⟨by rfl, ?_⟩) hHeld ?_ ?_
             rotate_left
             ·rintro w' ⟨s0, s1, s2, s3, s4, s5, s6, s7, s8, s9, s10, s11, s12, s13, s14, s15⟩
              go_simp
              with_reducible rfl
             rotate_left
             ·simp only [Act.put, xset_a, xset_z, xset_s, i64_w, i32_w]
              rfl
             refine take_ (i := 7) (N := some 92) (v := ?_) (a' := ?_) #[true, true, true, true, true, true, true, true, false, false, false, false, false, false, false, false, false, false, false, false, false, false, false, false, false, false, false, false, false, false, false, false, false, false, false, false, false, false, false, false, false, false, false, false, false] rfl rfl (take_ofW HT_.out HW_.out (by kernel_rfl)) (fun _ _ _ h => h) (Or.inl ⟨by rfl, ?_⟩) hHeld ?_ ?_
             rotate_left
             ·rintro w' ⟨s0, s1, s2, s3, s4, s5, s6, s7, s8, s9, s10, s11, s12, s13, s14, s15⟩
              go_simp
              with_reducible rfl
             rotate_left
             ·simp only [Act.put, xset_a, xset_z, xset_s, i64_w, i32_w]
              rfl
             refine take_ (i := 8) (N := some 93) (v := ?_) (a' := ?_) #[true, true, true, true, true, true, true, true, true, false, false, false, false, false, false, false, false, false, false, false, false, false, false, false, false, false, false, false, false, false, false, false, false, false, false, false, false, false, false, false, false, false, false, false, false] rfl rfl (take_ofW HT_.out HW_.out (by kernel_rfl)) (fun _ _ _ h => h) (Or.inl ⟨by rfl, ?_⟩) hHeld ?_ ?_
             rotate_left
             ·rintro w' ⟨s0, s1, s2, s3, s4, s5, s6, s7, s8, s9, s10, s11, s12, s13, s14, s15⟩
              go_simp
              with_reducible rfl
             rotate_left
             ·simp only [Act.put, xset_a, xset_z, xset_s, i64_w, i32_w]
              rfl
             refine one_ (i := 9) (N := some 94) #[true, true, true, true, true, true, true, true, true, true, false, false, false, false, false, false, false, false, false, false, false, false, false, false, false, false, false, false, false, false, false, false, false, false, false, false, false, false, false, false, false, false, false, false, false] rfl rfl (one_of HT_.out (by kernel_rfl)) (by decide) (fun K hK => ?_)
             refine goes_ Tryd.func19 (by kernel_rfl) rfl #[.agg #[.int .i64 t109, .int .i64 t110, .int .i64 t111, .int .i64 t112], .agg #[.int .i64 t105, .int .i64 t106, .int .i64 t107, .int .i64 t108]] (by rfl) rfl rfl (by (try simp only [List.map_toArray, List.map_cons, List.map_nil]); first | done | rfl | (simp only [List.length_drop, List.length_take]; rfl)) ?_
             with_reducible refine (label_Meet.calls t109 t110 t111 t112 t105 t106 t107 t108 t149 t150 t151 t152 _ A302.out).mono ?_
             rintro e w313 ⟨rfl, hb⟩
             refine ⟨_, rfl, ?_⟩
             have n0_ := bb_ Z101 hb
             have n1_ := bb_ Z102 hb
             have n2_ := bb_ Z103 hb
             have n3_ := bb_ Z125 hb
             have n4_ := bb_ Z126 hb
             have n5_ := Aside0.mk (below_step (bl_ HB.out) hb)
             clear Z101 Z102 Z103 Z125 Z126 HB
             have Z101 := n0_; have Z102 := n1_; have Z103 := n2_; have Z125 := n3_; have Z126 := n4_; have HB := n5_
             clear n0_ n1_ n2_ n3_ n4_ n5_
             (try clear hb)
             (try clear hb2)
             (try clear hk)
             (try clear hi)
             refine hK.out _ _ ⟨(blk_cell Z125.out 0).trans rfl, (blk_cell Z125.out 1).trans rfl, (blk_cell Z125.out 2).trans rfl, (blk_cell Z125.out 3).trans rfl, (blk_cell Z102.out 0).trans rfl, (blk_cell Z102.out 1).trans rfl, (blk_cell Z102.out 2).trans rfl, (blk_cell Z102.out 3).trans rfl, (blk_cell Z101.out 0).trans rfl, (blk_cell Z101.out 1).trans rfl, (blk_cell Z101.out 2).trans rfl, (blk_cell Z101.out 3).trans rfl, (blk_cell Z126.out 0).trans rfl, (blk_cell Z126.out 1).trans rfl, (blk_cell Z126.out 2).trans rfl, (blk_cell Z126.out 3).trans rfl⟩ (fun hHeld => ?_)
             clear hK K
             refine norm_ (a' := ?_) ?_ ?_
             rotate_left
             ·show Act.put _ (some 94) _ = _
              simp only [Act.put, xset_a, xset_z, xset_s, i64_w, i32_w]
              rfl
             refine pure_ (i := 10) (N := some 95) (v := ?_) (a' := ?_) #[true, true, true, true, true, true, true, true, true, true, true, false, false, false, false, false, false, false, false, false, false, false, false, false, false, false, false, false, false, false, false, false, false, false, false, false, false, false, false, false, false, false, false, false, false] rfl rfl (any_of HT_.out (by kernel_rfl)) (fun _ _ _ h => h) (Or.inl ⟨by rfl, ?_⟩) ?_ ?_
             rotate_left
             ·intro w'
              go_simp
              with_reducible rfl
             rotate_left
             ·simp only [Act.put, xset_a, xset_z, xset_s, i64_w, i32_w]
              rfl
             refine pure_ (i := 11) (N := some 96) (v := ?_) (a' := ?_) #[true, true, true, true, true, true, true, true, true, true, true, true, false, false, false, false, false, false, false, false, false, false, false, false, false, false, false, false, false, false, false, false, false, false, false, false, false, false, false, false, false, false, false, false, false] rfl rfl (any_of HT_.out (by kernel_rfl)) (fun _ _ _ h => h) (Or.inl ⟨by rfl, ?_⟩) ?_ ?_
             rotate_left
             ·intro w'
              go_simp
              with_reducible rfl
             rotate_left
             ·simp only [Act.put, xset_a, xset_z, xset_s, i64_w, i32_w]
              rfl
             refine pure_ (i := 12) (N := some 97) (v := ?_) (a' := ?_) #[true, true, true, true, true, true, true, true, true, true, true, true, true, false, false, false, false, false, false, false, false, false, false, false, false, false, false, false, false, false, false, false, false, false, false, false, false, false, false, false, false, false, false, false, false] rfl rfl (any_of HT_.out (by kernel_rfl)) (fun _ _ _ h => h) (Or.inl ⟨by rfl, ?_⟩) ?_ ?_
             rotate_left
             ·intro w'
              go_simp
              with_reducible rfl
             rotate_left
             ·simp only [Act.put, xset_a, xset_z, xset_s, i64_w, i32_w]
              rfl
             refine take_ (i := 13) (N := some 98) (v := ?_) (a' := ?_) #[true, true, true, true, true, true, true, true, true, true, true, true, true, true, false, false, false, false, false, false, false, false, false, false, false, false, false, false, false, false, false, false, false, false, false, false, false, false, false, false, false, false, false, false, false] rfl rfl (take_ofW HT_.out HW_.out (by kernel_rfl)) (fun _ _ _ h => h) (Or.inl ⟨by rfl, ?_⟩) hHeld ?_ ?_
             rotate_left
             ·rintro w' ⟨s0, s1, s2, s3, s4, s5, s6, s7, s8, s9, s10, s11, s12, s13, s14, s15⟩
              go_simp
              with_reducible rfl
             rotate_left
             ·simp only [Act.put, xset_a, xset_z, xset_s, i64_w, i32_w]
              rfl
             refine take_ (i := 14) (N := some 99) (v := ?_) (a' := ?_) #[true, true, true, true, true, true, true, true, true, true, true, true, true, true, true, false, false, false, false, false, false, false, false, false, false, false, false, false, false, false, false, false, false, false, false, false, false, false, false, false, false, false, false, false, false] rfl rfl (take_ofW HT_.out HW_.out (by kernel_rfl)) (fun _ _ _ h => h) (Or.inl ⟨by rfl, ?_⟩) hHeld ?_ ?_
             rotate_left
             ·rintro w' ⟨s0, s1, s2, s3, s4, s5, s6, s7, s8, s9, s10, s11, s12, s13, s14, s15⟩
              go_simp
              with_reducible rfl
             rotate_left
             ·simp only [Act.put, xset_a, xset_z, xset_s, i64_w, i32_w]
              rfl
             refine take_ (i := 16) (N := some 101) (v := ?_) (a' := ?_) #[true, true, true, true, true, true, true, true, true, true, true, true, true, true, true, false, true, false, false, false, false, false, false, false, false, false, false, false, false, false, false, false, false, false, false, false, false, false, false, false, false, false, false, false, false] rfl rfl (take_ofW HT_.out HW_.out (by kernel_rfl)) (fun _ _ _ h => h) (Or.inl ⟨by rfl, ?_⟩) hHeld ?_ ?_
             rotate_left
             ·rintro w' ⟨s0, s1, s2, s3, s4, s5, s6, s7, s8, s9, s10, s11, s12, s13, s14, s15⟩
              go_simp
              with_reducible rfl
             rotate_left
             ·simp only [Act.put, xset_a, xset_z, xset_s, i64_w, i32_w]
              rfl
             refine one_ (i := 15) (N := some 100) #[true, true, true, true, true, true, true, true, true, true, true, true, true, true, true, true, true, false, false, false, false, false, false, false, false, false, false, false, false, false, false, false, false, false, false, false, false, false, false, false, false, false, false, false, false] rfl rfl (one_of HT_.out (by kernel_rfl)) (by decide) (fun K hK => ?_)
             refine goes_ Tryd.func18 (by kernel_rfl) rfl #[.agg #[.int .i64 t105, .int .i64 t106, .int .i64 t107, .int .i64 t108], .agg #[.int .i64 t121, .int .i64 t122, .int .i64 t123, .int .i64 t124]] (by rfl) rfl rfl (by (try simp only [List.map_toArray, List.map_cons, List.map_nil]); first | done | rfl | (simp only [List.length_drop, List.length_take]; rfl)) ?_
             with_reducible refine (label_Join.calls t105 t106 t107 t108 t121 t122 t123 t124 t153 t154 t155 t156 _ A304.out).mono ?_
             rintro e w314 ⟨rfl, hb⟩
             refine ⟨_, rfl, ?_⟩
             have n0_ := bb_ Z101 hb
             have n1_ := bb_ Z102 hb
             have n2_ := bb_ Z103 hb
             have n3_ := bb_ Z125 hb
             have n4_ := bb_ Z126 hb
             have n5_ := Aside0.mk (below_step (bl_ HB.out) hb)
             clear Z101 Z102 Z103 Z125 Z126 HB
             have Z101 := n0_; have Z102 := n1_; have Z103 := n2_; have Z125 := n3_; have Z126 := n4_; have HB := n5_
             clear n0_ n1_ n2_ n3_ n4_ n5_
             (try clear hb)
             (try clear hb2)
             (try clear hk)
             (try clear hi)
             refine hK.out _ _ ⟨(blk_cell Z125.out 0).trans rfl, (blk_cell Z125.out 1).trans rfl, (blk_cell Z125.out 2).trans rfl, (blk_cell Z125.out 3).trans rfl, (blk_cell Z102.out 0).trans rfl, (blk_cell Z102.out 1).trans rfl, (blk_cell Z102.out 2).trans rfl, (blk_cell Z102.out 3).trans rfl, (blk_cell Z101.out 0).trans rfl, (blk_cell Z101.out 1).trans rfl, (blk_cell Z101.out 2).trans rfl, (blk_cell Z101.out 3).trans rfl, (blk_cell Z126.out 0).trans rfl, (blk_cell Z126.out 1).trans rfl, (blk_cell Z126.out 2).trans rfl, (blk_cell Z126.out 3).trans rfl⟩ (fun hHeld => ?_)
             clear hK K
             refine norm_ (a' := ?_) ?_ ?_
             rotate_left
             ·show Act.put _ (some 100) _ = _
              simp only [Act.put, xset_a, xset_z, xset_s, i64_w, i32_w]
              rfl
             refine pure_ (i := 17) (N := some 102) (v := ?_) (a' := ?_) #[true, true, true, true, true, true, true, true, true, true, true, true, true, true, true, true, true, true, false, false, false, false, false, false, false, false, false, false, false, false, false, false, false, false, false, false, false, false, false, false, false, false, false, false, false] rfl rfl (any_of HT_.out (by kernel_rfl)) (fun _ _ _ h => h) (Or.inl ⟨by rfl, ?_⟩) ?_ ?_
             rotate_left
             ·intro w'
              go_simp
              with_reducible rfl
             rotate_left
             ·simp only [Act.put, xset_a, xset_z, xset_s, i64_w, i32_w]
              rfl
             refine pure_ (i := 18) (N := some 103) (v := ?_) (a' := ?_) #[true, true, true, true, true, true, true, true, true, true, true, true, true, true, true, true, true, true, true, false, false, false, false, false, false, false, false, false, false, false, false, false, false, false, false, false, false, false, false, false, false, false, false, false, false] rfl rfl (any_of HT_.out (by kernel_rfl)) (fun _ _ _ h => h) (Or.inl ⟨by rfl, ?_⟩) ?_ ?_
             rotate_left
             ·intro w'
              go_simp
              with_reducible rfl
             rotate_left
             ·simp only [Act.put, xset_a, xset_z, xset_s, i64_w, i32_w]
              rfl
             refine pure_ (i := 19) (N := some 104) (v := ?_) (a' := ?_) #[true, true, true, true, true, true, true, true, true, true, true, true, true, true, true, true, true, true, true, true, false, false, false, false, false, false, false, false, false, false, false, false, false, false, false, false, false, false, false, false, false, false, false, false, false] rfl rfl (any_of HT_.out (by kernel_rfl)) (fun _ _ _ h => h) (Or.inl ⟨by rfl, ?_⟩) ?_ ?_
             rotate_left
             ·intro w'
              go_simp
              with_reducible rfl
             rotate_left
             ·simp only [Act.put, xset_a, xset_z, xset_s, i64_w, i32_w]
              rfl
             refine take_ (i := 20) (N := some 105) (v := ?_) (a' := ?_) #[true, true, true, true, true, true, true, true, true, true, true, true, true, true, true, true, true, true, true, true, true, false, false, false, false, false, false, false, false, false, false, false, false, false, false, false, false, false, false, false, false, false, false, false, false] rfl rfl (take_ofW HT_.out HW_.out (by kernel_rfl)) (fun _ _ _ h => h) (Or.inl ⟨by rfl, ?_⟩) hHeld ?_ ?_
             rotate_left
             ·rintro w' ⟨s0, s1, s2, s3, s4, s5, s6, s7, s8, s9, s10, s11, s12, s13, s14, s15⟩
              go_simp
              with_reducible rfl
             rotate_left
             ·simp only [Act.put, xset_a, xset_z, xset_s, i64_w, i32_w]
              rfl
             refine take_ (i := 21) (N := some 106) (v := ?_) (a' := ?_) #[true, true, true, true, true, true, true, true, true, true, true, true, true, true, true, true, true, true, true, true, true, true, false, false, false, false, false, false, false, false, false, false, false, false, false, false, false, false, false, false, false, false, false, false, false] rfl rfl (take_ofW HT_.out HW_.out (by kernel_rfl)) (fun _ _ _ h => h) (Or.inl ⟨by rfl, ?_⟩) hHeld ?_ ?_
             rotate_left
             ·rintro w' ⟨s0, s1, s2, s3, s4, s5, s6, s7, s8, s9, s10, s11, s12, s13, s14, s15⟩
              go_simp
              with_reducible rfl
             rotate_left
             ·simp only [Act.put, xset_a, xset_z, xset_s, i64_w, i32_w]
              rfl
             refine take_ (i := 23) (N := some 108) (v := ?_) (a' := ?_) #[true, true, true, true, true, true, true, true, true, true, true, true, true, true, true, true, true, true, true, true, true, true, false, true, false, false, false, false, false, false, false, false, false, false, false, false, false, false, false, false, false, false, false, false, false] rfl rfl (take_ofW HT_.out HW_.out (by kernel_rfl)) (fun _ _ _ h => h) (Or.inl ⟨by rfl, ?_⟩) hHeld ?_ ?_
             rotate_left
             ·rintro w' ⟨s0, s1, s2, s3, s4, s5, s6, s7, s8, s9, s10, s11, s12, s13, s14, s15⟩
              go_simp
              with_reducible rfl
             rotate_left
             ·simp only [Act.put, xset_a, xset_z, xset_s, i64_w, i32_w]
              rfl
             refine one_ (i := 22) (N := some 107) #[true, true, true, true, true, true, true, true, true, true, true, true, true, true, true, true, true, true, true, true, true, true, true, true, false, false, false, false, false, false, false, false, false, false, false, false, false, false, false, false, false, false, false, false, false] rfl rfl (one_of HT_.out (by kernel_rfl)) (by decide) (fun K hK => ?_)
             refine goes_ Tryd.func19 (by kernel_rfl) rfl #[.agg #[.int .i64 t105, .int .i64 t106, .int .i64 t107, .int .i64 t108], .agg #[.int .i64 t117, .int .i64 t118, .int .i64 t119, .int .i64 t120]] (by rfl) rfl rfl (by (try simp only [List.map_toArray, List.map_cons, List.map_nil]); first | done | rfl | (simp only [List.length_drop, List.length_take]; rfl)) ?_
             with_reducible refine (label_Meet.calls t105 t106 t107 t108 t117 t118 t119 t120 t157 t158 t159 t160 _ A306.out).mono ?_
             rintro e w315 ⟨rfl, hb⟩
             refine ⟨_, rfl, ?_⟩
             have n0_ := bb_ Z101 hb
             have n1_ := bb_ Z102 hb
             have n2_ := bb_ Z103 hb
             have n3_ := bb_ Z125 hb
             have n4_ := bb_ Z126 hb
             have n5_ := Aside0.mk (below_step (bl_ HB.out) hb)
             clear Z101 Z102 Z103 Z125 Z126 HB
             have Z101 := n0_; have Z102 := n1_; have Z103 := n2_; have Z125 := n3_; have Z126 := n4_; have HB := n5_
             clear n0_ n1_ n2_ n3_ n4_ n5_
             (try clear hb)
             (try clear hb2)
             (try clear hk)
             (try clear hi)
             refine hK.out _ _ ⟨(blk_cell Z125.out 0).trans rfl, (blk_cell Z125.out 1).trans rfl, (blk_cell Z125.out 2).trans rfl, (blk_cell Z125.out 3).trans rfl, (blk_cell Z102.out 0).trans rfl, (blk_cell Z102.out 1).trans rfl, (blk_cell Z102.out 2).trans rfl, (blk_cell Z102.out 3).trans rfl, (blk_cell Z101.out 0).trans rfl, (blk_cell Z101.out 1).trans rfl, (blk_cell Z101.out 2).trans rfl, (blk_cell Z101.out 3).trans rfl, (blk_cell Z126.out 0).trans rfl, (blk_cell Z126.out 1).trans rfl, (blk_cell Z126.out 2).trans rfl, (blk_cell Z126.out 3).trans rfl⟩ (fun hHeld => ?_)
             clear hK K
             refine norm_ (a' := ?_) ?_ ?_
             rotate_left
             ·show Act.put _ (some 107) _ = _
              simp only [Act.put, xset_a, xset_z, xset_s, i64_w, i32_w]
              rfl
             refine pure_ (i := 24) (N := some 109) (v := ?_) (a' := ?_) #[true, true, true, true, true, true, true, true, true, true, true, true, true, true, true, true, true, true, true, true, true, true, true, true, true, false, false, false, false, false, false, false, false, false, false, false, false, false, false, false, false, false, false, false, false] rfl rfl (any_of HT_.out (by kernel_rfl)) (fun _ _ _ h => h) (Or.inl ⟨by rfl, ?_⟩) ?_ ?_
             rotate_left
             ·intro w'
              go_simp
              with_reducible rfl
             rotate_left
             ·simp only [Act.put, xset_a, xset_z, xset_s, i64_w, i32_w]
              rfl
             refine pure_ (i := 25) (N := some 110) (v := ?_) (a' := ?_) #[true, true, true, true, true, true, true, true, true, true, true, true, true, true, true, true, true, true, true, true, true, true, true, true, true, true, false, false, false, false, false, false, false, false, false, false, false, false, false, false, false, false, false, false, false] rfl rfl (any_of HT_.out (by kernel_rfl)) (fun _ _ _ h => h) (Or.inl ⟨by rfl, ?_⟩) ?_ ?_
             rotate_left
             ·intro w'
              go_simp
              with_reducible rfl
             rotate_left
             ·simp only [Act.put, xset_a, xset_z, xset_s, i64_w, i32_w]
              rfl
             refine pure_ (i := 26) (N := some 111) (v := ?_) (a' := ?_) #[true, true, true, true, true, true, true, true, true, true, true, true, true, true, true, true, true, true, true, true, true, true, true, true, true, true, true, false, false, false, false, false, false, false, false, false, false, false, false, false, false, false, false, false, false] rfl rfl (any_of HT_.out (by kernel_rfl)) (fun _ _ _ h => h) (Or.inl ⟨by rfl, ?_⟩) ?_ ?_
             rotate_left
             ·intro w'
              go_simp
              with_reducible rfl
             rotate_left
             ·simp only [Act.put, xset_a, xset_z, xset_s, i64_w, i32_w]
              rfl
             refine take_ (i := 27) (N := some 112) (v := ?_) (a' := ?_) #[true, true, true, true, true, true, true, true, true, true, true, true, true, true, true, true, true, true, true, true, true, true, true, true, true, true, true, true, false, false, false, false, false, false, false, false, false, false, false, false, false, false, false, false, false] rfl rfl (take_ofW HT_.out HW_.out (by kernel_rfl)) (fun _ _ _ h => h) (Or.inl ⟨by rfl, ?_⟩) hHeld ?_ ?_
             rotate_left
             ·rintro w' ⟨s0, s1, s2, s3, s4, s5, s6, s7, s8, s9, s10, s11, s12, s13, s14, s15⟩
              go_simp
              with_reducible rfl
             rotate_left
             ·simp only [Act.put, xset_a, xset_z, xset_s, i64_w, i32_w]
              rfl
             refine take_ (i := 28) (N := some 113) (v := ?_) (a' := ?_) #[true, true, true, true, true, true, true, true, true, true, true, true, true, true, true, true, true, true, true, true, true, true, true, true, true, true, true, true, true, false, false, false, false, false, false, false, false, false, false, false, false, false, false, false, false] rfl rfl (take_ofW HT_.out HW_.out (by kernel_rfl)) (fun _ _ _ h => h) (Or.inl ⟨by rfl, ?_⟩) hHeld ?_ ?_
             rotate_left
             ·rintro w' ⟨s0, s1, s2, s3, s4, s5, s6, s7, s8, s9, s10, s11, s12, s13, s14, s15⟩
              go_simp
              with_reducible rfl
             rotate_left
             ·simp only [Act.put, xset_a, xset_z, xset_s, i64_w, i32_w]
              rfl
             refine take_ (i := 30) (N := some 115) (v := ?_) (a' := ?_) #[true, true, true, true, true, true, true, true, true, true, true, true, true, true, true, true, true, true, true, true, true, true, true, true, true, true, true, true, true, false, true, false, false, false, false, false, false, false, false, false, false, false, false, false, false] rfl rfl (take_ofW HT_.out HW_.out (by kernel_rfl)) (fun _ _ _ h => h) (Or.inl ⟨by rfl, ?_⟩) hHeld ?_ ?_
             rotate_left
             ·rintro w' ⟨s0, s1, s2, s3, s4, s5, s6, s7, s8, s9, s10, s11, s12, s13, s14, s15⟩
              go_simp
              with_reducible rfl
             rotate_left
             ·simp only [Act.put, xset_a, xset_z, xset_s, i64_w, i32_w]
              rfl
             refine take_ (i := 31) (N := some 116) (v := ?_) (a' := ?_) #[true, true, true, true, true, true, true, true, true, true, true, true, true, true, true, true, true, true, true, true, true, true, true, true, true, true, true, true, true, false, true, true, false, false, false, false, false, false, false, false, false, false, false, false, false] rfl rfl (take_ofW HT_.out HW_.out (by kernel_rfl)) (fun _ _ _ h => h) (Or.inl ⟨by rfl, ?_⟩) hHeld ?_ ?_
             rotate_left
             ·rintro w' ⟨s0, s1, s2, s3, s4, s5, s6, s7, s8, s9, s10, s11, s12, s13, s14, s15⟩
              go_simp
              with_reducible rfl
             rotate_left
             ·simp only [Act.put, xset_a, xset_z, xset_s, i64_w, i32_w]
              rfl
             refine pure_ (i := 32) (N := some 117) (v := ?_) (a' := ?_) #[true, true, true, true, true, true, true, true, true, true, true, true, true, true, true, true, true, true, true, true, true, true, true, true, true, true, true, true, true, false, true, true, true, false, false, false, false, false, false, false, false, false, false, false, false] rfl rfl (any_of HT_.out (by kernel_rfl)) (fun _ _ _ h => h) (Or.inl ⟨by rfl, ?_⟩) ?_ ?_
             rotate_left
             ·intro w'
              go_simp
              with_reducible rfl
             rotate_left
             ·simp only [Act.put, xset_a, xset_z, xset_s, i64_w, i32_w]
              rfl
             refine one_ (i := 29) (N := some 114) #[true, true, true, true, true, true, true, true, true, true, true, true, true, true, true, true, true, true, true, true, true, true, true, true, true, true, true, true, true, true, true, true, true, false, false, false, false, false, false, false, false, false, false, false, false] rfl rfl (one_of HT_.out (by kernel_rfl)) (by decide) (fun K hK => ?_)
             refine goes_ Tryd.func16 (by kernel_rfl) rfl #[.agg #[.int .i64 t105, .int .i64 t106, .int .i64 t107, .int .i64 t108], .agg #[.int .i64 t109, .int .i64 t110, .int .i64 t111, .int .i64 t112]] (by rfl) rfl rfl (by (try simp only [List.map_toArray, List.map_cons, List.map_nil]); first | done | rfl | (simp only [List.length_drop, List.length_take]; rfl)) ?_
             with_reducible refine (label_Over.calls t105 t106 t107 t108 t109 t110 t111 t112 t161 _ A308.out).mono ?_
             rintro e w316 ⟨rfl, hb⟩
             refine ⟨_, rfl, ?_⟩
             have n0_ := bb_ Z101 hb
             have n1_ := bb_ Z102 hb
             have n2_ := bb_ Z103 hb
             have n3_ := bb_ Z125 hb
             have n4_ := bb_ Z126 hb
             have n5_ := Aside0.mk (below_step (bl_ HB.out) hb)
             clear Z101 Z102 Z103 Z125 Z126 HB
             have Z101 := n0_; have Z102 := n1_; have Z103 := n2_; have Z125 := n3_; have Z126 := n4_; have HB := n5_
             clear n0_ n1_ n2_ n3_ n4_ n5_
             (try clear hb)
             (try clear hb2)
             (try clear hk)
             (try clear hi)
             refine hK.out _ _ ⟨(blk_cell Z125.out 0).trans rfl, (blk_cell Z125.out 1).trans rfl, (blk_cell Z125.out 2).trans rfl, (blk_cell Z125.out 3).trans rfl, (blk_cell Z102.out 0).trans rfl, (blk_cell Z102.out 1).trans rfl, (blk_cell Z102.out 2).trans rfl, (blk_cell Z102.out 3).trans rfl, (blk_cell Z101.out 0).trans rfl, (blk_cell Z101.out 1).trans rfl, (blk_cell Z101.out 2).trans rfl, (blk_cell Z101.out 3).trans rfl, (blk_cell Z126.out 0).trans rfl, (blk_cell Z126.out 1).trans rfl, (blk_cell Z126.out 2).trans rfl, (blk_cell Z126.out 3).trans rfl⟩ (fun hHeld => ?_)
             clear hK K
             refine norm_ (a' := ?_) ?_ ?_
             rotate_left
             ·show Act.put _ (some 114) _ = _
              simp only [Act.put, xset_a, xset_z, xset_s, i64_w, i32_w]
              rfl
             refine pure_ (i := 33) (N := some 118) (v := ?_) (a' := ?_) #[true, true, true, true, true, true, true, true, true, true, true, true, true, true, true, true, true, true, true, true, true, true, true, true, true, true, true, true, true, true, true, true, true, true, false, false, false, false, false, false, false, false, false, false, false] rfl rfl (any_of HT_.out (by kernel_rfl)) (fun _ _ _ h => h) (Or.inl ⟨by rfl, ?_⟩) ?_ ?_
             rotate_left
             ·intro w'
              go_simp
              with_reducible rfl
             rotate_left
             ·simp only [Act.put, xset_a, xset_z, xset_s, i64_w, i32_w]
              rfl
             refine pure_ (i := 34) (N := some 119) (v := ?_) (a' := ?_) #[true, true, true, true, true, true, true, true, true, true, true, true, true, true, true, true, true, true, true, true, true, true, true, true, true, true, true, true, true, true, true, true, true, true, true, false, false, false, false, false, false, false, false, false, false] rfl rfl (any_of HT_.out (by kernel_rfl)) (fun _ _ _ h => h) (Or.inl ⟨by rfl, ?_⟩) ?_ ?_
             rotate_left
             ·intro w'
              go_simp
              with_reducible rfl
             rotate_left
             ·simp only [Act.put, xset_a, xset_z, xset_s, i64_w, i32_w]
              rfl
             refine pure_ (i := 35) (N := some 120) (v := ?_) (a' := ?_) #[true, true, true, true, true, true, true, true, true, true, true, true, true, true, true, true, true, true, true, true, true, true, true, true, true, true, true, true, true, true, true, true, true, true, true, true, false, false, false, false, false, false, false, false, false] rfl rfl (any_of HT_.out (by kernel_rfl)) (fun _ _ _ h => h) (Or.inl ⟨by rfl, ?_⟩) ?_ ?_
             rotate_left
             ·intro w'
              go_simp
              with_reducible rfl
             rotate_left
             ·simp only [Act.put, xset_a, xset_z, xset_s, i64_w, i32_w]
              rfl
             refine take_ (i := 36) (N := some 121) (v := ?_) (a' := ?_) #[true, true, true, true, true, true, true, true, true, true, true, true, true, true, true, true, true, true, true, true, true, true, true, true, true, true, true, true, true, true, true, true, true, true, true, true, true, false, false, false, false, false, false, false, false] rfl rfl (take_ofW HT_.out HW_.out (by kernel_rfl)) (fun _ _ _ h => h) (Or.inl ⟨by rfl, ?_⟩) hHeld ?_ ?_
             rotate_left
             ·rintro w' ⟨s0, s1, s2, s3, s4, s5, s6, s7, s8, s9, s10, s11, s12, s13, s14, s15⟩
              go_simp
              with_reducible rfl
             rotate_left
             ·simp only [Act.put, xset_a, xset_z, xset_s, i64_w, i32_w]
              rfl
             refine take_ (i := 37) (N := some 122) (v := ?_) (a' := ?_) #[true, true, true, true, true, true, true, true, true, true, true, true, true, true, true, true, true, true, true, true, true, true, true, true, true, true, true, true, true, true, true, true, true, true, true, true, true, true, false, false, false, false, false, false, false] rfl rfl (take_ofW HT_.out HW_.out (by kernel_rfl)) (fun _ _ _ h => h) (Or.inl ⟨by rfl, ?_⟩) hHeld ?_ ?_
             rotate_left
             ·rintro w' ⟨s0, s1, s2, s3, s4, s5, s6, s7, s8, s9, s10, s11, s12, s13, s14, s15⟩
              go_simp
              with_reducible rfl
             rotate_left
             ·simp only [Act.put, xset_a, xset_z, xset_s, i64_w, i32_w]
              rfl
             refine take_ (i := 39) (N := some 124) (v := ?_) (a' := ?_) #[true, true, true, true, true, true, true, true, true, true, true, true, true, true, true, true, true, true, true, true, true, true, true, true, true, true, true, true, true, true, true, true, true, true, true, true, true, true, false, true, false, false, false, false, false] rfl rfl (take_ofW HT_.out HW_.out (by kernel_rfl)) (fun _ _ _ h => h) (Or.inl ⟨by rfl, ?_⟩) hHeld ?_ ?_
             rotate_left
             ·rintro w' ⟨s0, s1, s2, s3, s4, s5, s6, s7, s8, s9, s10, s11, s12, s13, s14, s15⟩
              go_simp
              with_reducible rfl
             rotate_left
             ·simp only [Act.put, xset_a, xset_z, xset_s, i64_w, i32_w]
              rfl
             refine take_ (i := 40) (N := some 125) (v := ?_) (a' := ?_) #[true, true, true, true, true, true, true, true, true, true, true, true, true, true, true, true, true, true, true, true, true, true, true, true, true, true, true, true, true, true, true, true, true, true, true, true, true, true, false, true, true, false, false, false, false] rfl rfl (take_ofW HT_.out HW_.out (by kernel_rfl)) (fun _ _ _ h => h) (Or.inl ⟨by rfl, ?_⟩) hHeld ?_ ?_
             rotate_left
             ·rintro w' ⟨s0, s1, s2, s3, s4, s5, s6, s7, s8, s9, s10, s11, s12, s13, s14, s15⟩
              go_simp
              with_reducible rfl
             rotate_left
             ·simp only [Act.put, xset_a, xset_z, xset_s, i64_w, i32_w]
              rfl
             refine pure_ (i := 41) (N := some 126) (v := ?_) (a' := ?_) #[true, true, true, true, true, true, true, true, true, true, true, true, true, true, true, true, true, true, true, true, true, true, true, true, true, true, true, true, true, true, true, true, true, true, true, true, true, true, false, true, true, true, false, false, false] rfl rfl (any_of HT_.out (by kernel_rfl)) (fun _ _ _ h => h) (Or.inl ⟨by rfl, ?_⟩) ?_ ?_
             rotate_left
             ·intro w'
              go_simp
              with_reducible rfl
             rotate_left
             ·simp only [Act.put, xset_a, xset_z, xset_s, i64_w, i32_w]
              rfl
             refine one_ (i := 38) (N := some 123) #[true, true, true, true, true, true, true, true, true, true, true, true, true, true, true, true, true, true, true, true, true, true, true, true, true, true, true, true, true, true, true, true, true, true, true, true, true, true, true, true, true, true, false, false, false] rfl rfl (one_of HT_.out (by kernel_rfl)) (by decide) (fun K hK => ?_)
             refine goes_ Tryd.func16 (by kernel_rfl) rfl #[.agg #[.int .i64 t105, .int .i64 t106, .int .i64 t107, .int .i64 t108], .agg #[.int .i64 t109, .int .i64 t110, .int .i64 t111, .int .i64 t112]] (by rfl) rfl rfl (by (try simp only [List.map_toArray, List.map_cons, List.map_nil]); first | done | rfl | (simp only [List.length_drop, List.length_take]; rfl)) ?_
             with_reducible refine (label_Over.calls t105 t106 t107 t108 t109 t110 t111 t112 t162 _ A310.out).mono ?_
             rintro e w317 ⟨rfl, hb⟩
             refine ⟨_, rfl, ?_⟩
             have n0_ := bb_ Z101 hb
             have n1_ := bb_ Z102 hb
             have n2_ := bb_ Z103 hb
             have n3_ := bb_ Z125 hb
             have n4_ := bb_ Z126 hb
             have n5_ := Aside0.mk (below_step (bl_ HB.out) hb)
             clear Z101 Z102 Z103 Z125 Z126 HB
             have Z101 := n0_; have Z102 := n1_; have Z103 := n2_; have Z125 := n3_; have Z126 := n4_; have HB := n5_
             clear n0_ n1_ n2_ n3_ n4_ n5_
             (try clear hb)
             (try clear hb2)
             (try clear hk)
             (try clear hi)
             refine hK.out _ _ ⟨(blk_cell Z125.out 0).trans rfl, (blk_cell Z125.out 1).trans rfl, (blk_cell Z125.out 2).trans rfl, (blk_cell Z125.out 3).trans rfl, (blk_cell Z102.out 0).trans rfl, (blk_cell Z102.out 1).trans rfl, (blk_cell Z102.out 2).trans rfl, (blk_cell Z102.out 3).trans rfl, (blk_cell Z101.out 0).trans rfl, (blk_cell Z101.out 1).trans rfl, (blk_cell Z101.out 2).trans rfl, (blk_cell Z101.out 3).trans rfl, (blk_cell Z126.out 0).trans rfl, (blk_cell Z126.out 1).trans rfl, (blk_cell Z126.out 2).trans rfl, (blk_cell Z126.out 3).trans rfl⟩ (fun hHeld => ?_)
             clear hK K
             refine norm_ (a' := ?_) ?_ ?_
             rotate_left
             ·show Act.put _ (some 123) _ = _
              simp only [Act.put, xset_a, xset_z, xset_s, i64_w, i32_w]
              rfl
             refine pure_ (i := 42) (N := some 127) (v := ?_) (a' := ?_) #[true, true, true, true, true, true, true, true, true, true, true, true, true, true, true, true, true, true, true, true, true, true, true, true, true, true, true, true, true, true, true, true, true, true, true, true, true, true, true, true, true, true, true, false, false] rfl rfl (any_of HT_.out (by kernel_rfl)) (fun _ _ _ h => h) (Or.inl ⟨by rfl, ?_⟩) ?_ ?_
             rotate_left
             ·intro w'
              go_simp
              with_reducible rfl
             rotate_left
             ·simp only [Act.put, xset_a, xset_z, xset_s, i64_w, i32_w]
              rfl
             refine pure_ (i := 43) (N := some 128) (v := ?_) (a' := ?_) #[true, true, true, true, true, true, true, true, true, true, true, true, true, true, true, true, true, true, true, true, true, true, true, true, true, true, true, true, true, true, true, true, true, true, true, true, true, true, true, true, true, true, true, true, false] rfl rfl (any_of HT_.out (by kernel_rfl)) (fun _ _ _ h => h) (Or.inl ⟨by rfl, ?_⟩) ?_ ?_
             rotate_left
             ·intro w'
              go_simp
              with_reducible rfl
             rotate_left
             ·simp only [Act.put, xset_a, xset_z, xset_s, i64_w, i32_w]
              rfl
             refine pure_ (i := 44) (N := some 6) (v := ?_) (a' := ?_) #[true, true, true, true, true, true, true, true, true, true, true, true, true, true, true, true, true, true, true, true, true, true, true, true, true, true, true, true, true, true, true, true, true, true, true, true, true, true, true, true, true, true, true, true, true] rfl rfl (any_of HT_.out (by kernel_rfl)) (fun _ _ _ h => h) (Or.inl ⟨by rfl, ?_⟩) ?_ ?_
             rotate_left
             ·intro w'
              go_simp
              with_reducible rfl
             rotate_left
             ·simp only [Act.put, xset_a, xset_z, xset_s, i64_w, i32_w]
              rfl
             refine done_ (done_of HT_.out (by kernel_rfl)) ?_
             try go_wp2
             go_ret
             exact ⟨by first | rfl | (simp [errW_none, errW_some] <;> rfl) | (simp [*, errW_none, errW_some] <;> rfl), by repeat (first | (with_reducible first | exact HB.out | apply below_alloc | apply pw_below_drewN | apply below_drew1 | refine below_set ?_ GE101.out | refine below_set ?_ GE102.out | refine below_set ?_ GE103.out | refine below_set ?_ GE125.out | refine below_set ?_ GE126.out) | exact HB.out)⟩
            ·rw [if_neg c309] at H
             have c309b0 : (t161 == (t117 == t105 && (t118 == t106 && (t119 == t107 && (t120 == t108))))) = false := by simpa using c309
             (try (have c309b1 : decide (t161 = (t117 == t105 && (t118 == t106 && (t119 == t107 && (t120 == t108))))) = false := by simpa using c309))
             (try (have c309b2 : (t161 == (t117 == t105 && (t118 == t106 && (t119 == t107 && (t120 == t108))))) = false := by simpa using c309))
             (try (have c309b3 : ¬ (t161 = (t117 == t105 && (t118 == t106 && (t119 == t107 && (t120 == t108))))) := by simpa using c309))
             clear c309
             obtain rfl := Option.some.inj H
             exact absurd HRT.out (by decide)
           ·rw [if_neg c307] at H
            have c307b0 : (t157 == t105 && (t158 == t106 && (t159 == t107 && (t160 == t108)))) = false := by simpa using c307
            (try (have c307b1 : decide (t157 = t105 && (t158 == t106 && (t159 == t107 && (t160 == t108)))) = false := by simpa using c307))
            (try (have c307b2 : (t157 == t105 && (t158 == t106 && (t159 == t107 && (t160 == t108)))) = false := by simpa using c307))
            (try (have c307b3 : ¬ (t157 = t105 && (t158 == t106 && (t159 == t107 && (t160 == t108)))) := by simpa using c307))
            clear c307
            obtain rfl := Option.some.inj H
            exact absurd HRT.out (by decide)
          ·rw [if_neg c305] at H
           have c305b0 : (t153 == t105 && (t154 == t106 && (t155 == t107 && (t156 == t108)))) = false := by simpa using c305
           (try (have c305b1 : decide (t153 = t105 && (t154 == t106 && (t155 == t107 && (t156 == t108)))) = false := by simpa using c305))
           (try (have c305b2 : (t153 == t105 && (t154 == t106 && (t155 == t107 && (t156 == t108)))) = false := by simpa using c305))
           (try (have c305b3 : ¬ (t153 = t105 && (t154 == t106 && (t155 == t107 && (t156 == t108)))) := by simpa using c305))
           clear c305
           obtain rfl := Option.some.inj H
           exact absurd HRT.out (by decide)
         ·rw [if_neg c303] at H
          have c303b0 : (t121 == t149 && (t122 == t150 && (t123 == t151 && (t124 == t152)))) = false := by simpa using c303
          (try (have c303b1 : decide (t121 = t149 && (t122 == t150 && (t123 == t151 && (t124 == t152)))) = false := by simpa using c303))
          (try (have c303b2 : (t121 == t149 && (t122 == t150 && (t123 == t151 && (t124 == t152)))) = false := by simpa using c303))
          (try (have c303b3 : ¬ (t121 = t149 && (t122 == t150 && (t123 == t151 && (t124 == t152)))) := by simpa using c303))
          clear c303
          obtain rfl := Option.some.inj H
          exact absurd HRT.out (by decide)
        ·rw [if_neg c301] at H
         have c301b0 : (t117 == t145 && (t118 == t146 && (t119 == t147 && (t120 == t148)))) = false := by simpa using c301
         (try (have c301b1 : decide (t117 = t145 && (t118 == t146 && (t119 == t147 && (t120 == t148)))) = false := by simpa using c301))
         (try (have c301b2 : (t117 == t145 && (t118 == t146 && (t119 == t147 && (t120 == t148)))) = false := by simpa using c301))
         (try (have c301b3 : ¬ (t117 = t145 && (t118 == t146 && (t119 == t147 && (t120 == t148)))) := by simpa using c301))
         clear c301
         obtain rfl := Option.some.inj H
         exact absurd HRT.out (by decide)
 ·replace c5 := Bool.eq_false_iff.mpr c5
  subst c5
  have H1 : (some false) = some r := by rw [if_neg (show ¬ (false = true) by decide)] at H; exact H
  clear H
  have H := H1
  clear H1
  obtain rfl := Option.some.inj H
  exact absurd HRT.out (by decide)

end Go.Proofs.YtnepinkookbanaaDoor.X
