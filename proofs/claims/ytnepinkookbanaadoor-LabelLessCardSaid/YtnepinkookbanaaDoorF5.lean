/- Written by a program of this session over the kit's print: YtnepinkookbanaaDoorF5. -/
import Derived.Test.YtnepinkookbanaaDoorH
import Derived.Test.YtnepinkookbanaaDoorE23
import Derived.Test.YtnepinkookbanaaDoorF14
import Derived.Test.YtnepinkookbanaaDoorF15
import Derived.Test.YtnepinkookbanaaDoorF20
import Derived.Test.YtnepinkookbanaaDoorLaid
namespace Go.Proofs.YtnepinkookbanaaDoor.X
open Go.RowKit Go.Proofs.YtnepinkookbanaaDoorW.PrintWords Go.Proofs.YtnepinkookbanaaDoorW.PrintLast Go.Proofs.YtnepinkookbanaaDoorW.PrintMore Go.Proofs.YtnepinkookbanaaDoor.More
attribute [local go_sem] max2_int min2_int max_two min_two max_three min_three max_four min_four binOp_string_leq binOp_string_gtr   -- for this text's walks alone
set_option linter.unusedVariables false
set_option linter.unusedSimpArgs false

attribute [local go_sem high] eqA23
/-! ### donjonlaw4_LabelLess: function 5 -/
def donjonlaw4_LabelLess.j0 : Nat → Bool → Int → Int → Int → Int → Int → Int → Int → Int → Int → Int → Int → Int → Option (Bool)
  | 0, _, _, _, _, _, _, _, _, _, _, _, _, _ => none
  | k + 1, x31, x102000, x102001, x102002, x102003, x103000, x103001, x103002, x103003, x104000, x104001, x104002, x104003 => if x31 = true then (some false) else ((label_Less.f x102000 x102001 x102002 x102003 x103000 x103001 x103002 x103003).bind fun t121 => (if t121 = true then ((label_Less.f x103000 x103001 x103002 x103003 x104000 x104001 x104002 x104003).bind fun t122 => (if t122 = true then ((label_Less.f x102000 x102001 x102002 x102003 x104000 x104001 x104002 x104003).bind fun t123 => (some t123)) else (some true))) else (some true)))
def donjonlaw4_LabelLess.f (k : Nat) (a0_0 : Int) (a0_1 : Int) (a0_2 : Int) (a0_3 : Int) (a1_0 : Int) (a1_1 : Int) (a1_2 : Int) (a1_3 : Int) (a2_0 : Int) (a2_1 : Int) (a2_2 : Int) (a2_3 : Int) : Option (Bool) := (donjonlaw4_known.f).bind fun t104 => (if t104 = true then ((donjonlaw4_Good.f a0_0 a0_1 a0_2 a0_3).bind fun bt105 => ((donjonlaw4_Good.f a1_0 a1_1 a1_2 a1_3).bind fun bt109 => ((donjonlaw4_Good.f a2_0 a2_1 a2_2 a2_3).bind fun bt113 => (if (!(bt105.1 == bt109.1) || (!(bt105.2.1 == bt109.2.1) || (!(bt105.2.2.1 == bt109.2.2.1) || (!(bt105.2.2.2 == bt109.2.2.2))))) = true then ((label_Less.f bt105.1 bt105.2.1 bt105.2.2.1 bt105.2.2.2 bt109.1 bt109.2.1 bt109.2.2.1 bt109.2.2.2).bind fun t117 => ((label_Less.f bt109.1 bt109.2.1 bt109.2.2.1 bt109.2.2.2 bt105.1 bt105.2.1 bt105.2.2.1 bt105.2.2.2).bind fun t118 => (if (t117 == t118) = true then (donjonlaw4_LabelLess.j0 k true bt105.1 bt105.2.1 bt105.2.2.1 bt105.2.2.2 bt109.1 bt109.2.1 bt109.2.2.1 bt109.2.2.2 bt113.1 bt113.2.1 bt113.2.2.1 bt113.2.2.2) else ((label_Less.f bt105.1 bt105.2.1 bt105.2.2.1 bt105.2.2.2 bt105.1 bt105.2.1 bt105.2.2.1 bt105.2.2.2).bind fun t119 => (donjonlaw4_LabelLess.j0 k t119 bt105.1 bt105.2.1 bt105.2.2.1 bt105.2.2.2 bt109.1 bt109.2.1 bt109.2.2.1 bt109.2.2.2 bt113.1 bt113.2.1 bt113.2.2.1 bt113.2.2.2))))) else ((label_Less.f bt105.1 bt105.2.1 bt105.2.2.1 bt105.2.2.2 bt105.1 bt105.2.1 bt105.2.2.1 bt105.2.2.2).bind fun t120 => (donjonlaw4_LabelLess.j0 k t120 bt105.1 bt105.2.1 bt105.2.2.1 bt105.2.2.2 bt109.1 bt109.2.1 bt109.2.2.1 bt109.2.2.2 bt113.1 bt113.2.1 bt113.2.2.1 bt113.2.2.2)))))) else (some false))
theorem donjonlaw4_LabelLess.mono_l : ∀ k, (∀ y0 y1 y2 y3 y4 y5 y6 y7 y8 y9 y10 y11 y12, LeO (donjonlaw4_LabelLess.j0 k y0 y1 y2 y3 y4 y5 y6 y7 y8 y9 y10 y11 y12) (donjonlaw4_LabelLess.j0 (k + 1) y0 y1 y2 y3 y4 y5 y6 y7 y8 y9 y10 y11 y12))
  | 0 => fun _ _ _ _ _ _ _ _ _ _ _ _ _ r h => by simp [donjonlaw4_LabelLess.j0] at h
  | k + 1 => by
    have ih0 := donjonlaw4_LabelLess.mono_l k
    · intro y0 y1 y2 y3 y4 y5 y6 y7 y8 y9 y10 y11 y12
      unfold donjonlaw4_LabelLess.j0
      repeat' first
      | (with_reducible exact ih0 _ _ _ _ _ _ _ _ _ _ _ _ _)
      | (with_reducible exact LeO.refl _)
      | (with_reducible exact LeO.none _)
      | (with_reducible refine LeO.ite ?_ ?_)
      | (with_reducible refine LeO.bind ?_ (fun _ => ?_))
      | exact ih0 _ _ _ _ _ _ _ _ _ _ _ _ _
      | exact LeO.none _
      | refine LeO.ite ?_ ?_
      | refine LeO.bind ?_ (fun _ => ?_)
theorem donjonlaw4_LabelLess.mono : ∀ a0 a1 a2 a3 a4 a5 a6 a7 a8 a9 a10 a11 k, LeO (donjonlaw4_LabelLess.f k a0 a1 a2 a3 a4 a5 a6 a7 a8 a9 a10 a11) (donjonlaw4_LabelLess.f (k + 1) a0 a1 a2 a3 a4 a5 a6 a7 a8 a9 a10 a11) := by
  intro a0 a1 a2 a3 a4 a5 a6 a7 a8 a9 a10 a11 k
  have ih0 := donjonlaw4_LabelLess.mono_l k
  unfold donjonlaw4_LabelLess.f
  repeat' first
      | (with_reducible exact ih0 _ _ _ _ _ _ _ _ _ _ _ _ _)
      | (with_reducible exact LeO.refl _)
      | (with_reducible exact LeO.none _)
      | (with_reducible refine LeO.ite ?_ ?_)
      | (with_reducible refine LeO.bind ?_ (fun _ => ?_))
      | exact ih0 _ _ _ _ _ _ _ _ _ _ _ _ _
      | exact LeO.none _
      | refine LeO.ite ?_ ?_
      | refine LeO.bind ?_ (fun _ => ?_)
def donjonlaw4_LabelLess.T3 : Bool × List (List Nat × List Nat) := (true, [([], []), ([0], [0]), ([], []), ([2, 1], [2]), ([], []), ([4, 3], [4]), ([1, 5, 0, 1], [1]), ([3, 6, 0, 1, 2, 3, 6], [3]), ([5, 7, 0, 1, 2, 3, 4, 5, 6, 7], [5])])
def donjonlaw4_LabelLess.B3 : List Nat := [0, 1, 0, 7, 0, 31, 63, 127, 255]
theorem donjonlaw4_LabelLess.tab3 : rtab .any (opsOf Tryd.f5 3) = donjonlaw4_LabelLess.T3 := by kernel_rfl
theorem donjonlaw4_LabelLess.bits3 : waitsOk donjonlaw4_LabelLess.T3.2 donjonlaw4_LabelLess.B3 = true := by kernel_rfl
def donjonlaw4_LabelLess.T4 : Bool × List (List Nat × List Nat) := (true, [([], []), ([], []), ([0, 1], [0, 1]), ([2], [2]), ([3], [3]), ([3], [3]), ([4, 5, 3, 3], [3, 4, 5]), ([3], [3]), ([3], [3]), ([7, 8, 6, 3], [3, 7, 8]), ([6, 9, 3], [3, 6, 9]), ([3, 10], [3, 10]), ([11, 9], [11]), ([12], [12]), ([12], [12]), ([13, 14, 12, 12], [12, 13, 14]), ([12, 15], [12, 15])])
def donjonlaw4_LabelLess.B4 : List Nat := [0, 0, 3, 7, 15, 15, 63, 15, 15, 511, 1023, 2047, 4095, 8191, 8191, 32767, 65535]
theorem donjonlaw4_LabelLess.tab4 : rtab .any (opsOf Tryd.f5 4) = donjonlaw4_LabelLess.T4 := by kernel_rfl
theorem donjonlaw4_LabelLess.bits4 : waitsOk donjonlaw4_LabelLess.T4.2 donjonlaw4_LabelLess.B4 = true := by kernel_rfl
set_option maxHeartbeats 8000000 in
set_option maxRecDepth 100000 in
theorem donjonlaw4_LabelLess.calls (k : Nat) (a0_0 : Int) (a0_1 : Int) (a0_2 : Int) (a0_3 : Int) (a1_0 : Int) (a1_1 : Int) (a1_2 : Int) (a1_3 : Int) (a2_0 : Int) (a2_1 : Int) (a2_2 : Int) (a2_3 : Int) (r : Bool) (w : World) (hrt0 : r = true) (hG0 : Laid w) (h : donjonlaw4_LabelLess.f k a0_0 a0_1 a0_2 a0_3 a1_0 a1_1 a1_2 a1_3 a2_0 a2_1 a2_2 a2_3 = some r) :
    Calls Tryd.prog 5 #[.agg #[.int .i64 a0_0, .int .i64 a0_1, .int .i64 a0_2, .int .i64 a0_3], .agg #[.int .i64 a1_0, .int .i64 a1_1, .int .i64 a1_2, .int .i64 a1_3], .agg #[.int .i64 a2_0, .int .i64 a2_1, .int .i64 a2_2, .int .i64 a2_3]] w fun e w' => e = .returned (.bool r) ∧ Below w.heap.size w w' := by
  have HRT := Aside0.mk hrt0
  clear hrt0
  have HG := Aside0.mk hG0
  clear hG0
  have hu23 := Tryd.underlying23
  have HB := Aside0.mk (Below.refl w.heap.size w)
  have H : ((donjonlaw4_known.f).bind fun t104 => (if t104 = true then ((donjonlaw4_Good.f a0_0 a0_1 a0_2 a0_3).bind fun bt105 => ((donjonlaw4_Good.f a1_0 a1_1 a1_2 a1_3).bind fun bt109 => ((donjonlaw4_Good.f a2_0 a2_1 a2_2 a2_3).bind fun bt113 => (if (!(bt105.1 == bt109.1) || (!(bt105.2.1 == bt109.2.1) || (!(bt105.2.2.1 == bt109.2.2.1) || (!(bt105.2.2.2 == bt109.2.2.2))))) = true then ((label_Less.f bt105.1 bt105.2.1 bt105.2.2.1 bt105.2.2.2 bt109.1 bt109.2.1 bt109.2.2.1 bt109.2.2.2).bind fun t117 => ((label_Less.f bt109.1 bt109.2.1 bt109.2.2.1 bt109.2.2.2 bt105.1 bt105.2.1 bt105.2.2.1 bt105.2.2.2).bind fun t118 => (if (t117 == t118) = true then (donjonlaw4_LabelLess.j0 k true bt105.1 bt105.2.1 bt105.2.2.1 bt105.2.2.2 bt109.1 bt109.2.1 bt109.2.2.1 bt109.2.2.2 bt113.1 bt113.2.1 bt113.2.2.1 bt113.2.2.2) else ((label_Less.f bt105.1 bt105.2.1 bt105.2.2.1 bt105.2.2.2 bt105.1 bt105.2.1 bt105.2.2.1 bt105.2.2.2).bind fun t119 => (donjonlaw4_LabelLess.j0 k t119 bt105.1 bt105.2.1 bt105.2.2.1 bt105.2.2.2 bt109.1 bt109.2.1 bt109.2.2.1 bt109.2.2.2 bt113.1 bt113.2.1 bt113.2.2.1 bt113.2.2.2))))) else ((label_Less.f bt105.1 bt105.2.1 bt105.2.2.1 bt105.2.2.2 bt105.1 bt105.2.1 bt105.2.2.1 bt105.2.2.2).bind fun t120 => (donjonlaw4_LabelLess.j0 k t120 bt105.1 bt105.2.1 bt105.2.2.1 bt105.2.2.2 bt109.1 bt109.2.1 bt109.2.2.1 bt109.2.2.2 bt113.1 bt113.2.1 bt113.2.2.1 bt113.2.2.2)))))) else (some false))) = some r := h
  clear h
  replace H := Option.bind_eq_some_iff.mp H
  obtain ⟨t104, A40, H⟩ := H
  replace H : (if t104 = true then ((donjonlaw4_Good.f a0_0 a0_1 a0_2 a0_3).bind fun bt105 => ((donjonlaw4_Good.f a1_0 a1_1 a1_2 a1_3).bind fun bt109 => ((donjonlaw4_Good.f a2_0 a2_1 a2_2 a2_3).bind fun bt113 => (if (!(bt105.1 == bt109.1) || (!(bt105.2.1 == bt109.2.1) || (!(bt105.2.2.1 == bt109.2.2.1) || (!(bt105.2.2.2 == bt109.2.2.2))))) = true then ((label_Less.f bt105.1 bt105.2.1 bt105.2.2.1 bt105.2.2.2 bt109.1 bt109.2.1 bt109.2.2.1 bt109.2.2.2).bind fun t117 => ((label_Less.f bt109.1 bt109.2.1 bt109.2.2.1 bt109.2.2.2 bt105.1 bt105.2.1 bt105.2.2.1 bt105.2.2.2).bind fun t118 => (if (t117 == t118) = true then (donjonlaw4_LabelLess.j0 k true bt105.1 bt105.2.1 bt105.2.2.1 bt105.2.2.2 bt109.1 bt109.2.1 bt109.2.2.1 bt109.2.2.2 bt113.1 bt113.2.1 bt113.2.2.1 bt113.2.2.2) else ((label_Less.f bt105.1 bt105.2.1 bt105.2.2.1 bt105.2.2.2 bt105.1 bt105.2.1 bt105.2.2.1 bt105.2.2.2).bind fun t119 => (donjonlaw4_LabelLess.j0 k t119 bt105.1 bt105.2.1 bt105.2.2.1 bt105.2.2.2 bt109.1 bt109.2.1 bt109.2.2.1 bt109.2.2.2 bt113.1 bt113.2.1 bt113.2.2.1 bt113.2.2.2))))) else ((label_Less.f bt105.1 bt105.2.1 bt105.2.2.1 bt105.2.2.2 bt105.1 bt105.2.1 bt105.2.2.1 bt105.2.2.2).bind fun t120 => (donjonlaw4_LabelLess.j0 k t120 bt105.1 bt105.2.1 bt105.2.2.1 bt105.2.2.2 bt109.1 bt109.2.1 bt109.2.2.1 bt109.2.2.2 bt113.1 bt113.2.1 bt113.2.2.1 bt113.2.2.2)))))) else (some false)) = some r := H
  have A4 := Aside0.mk A40
  clear A40
  by_cases c5 : t104 = true
  · subst c5
    have H1 : ((donjonlaw4_Good.f a0_0 a0_1 a0_2 a0_3).bind fun bt105 => ((donjonlaw4_Good.f a1_0 a1_1 a1_2 a1_3).bind fun bt109 => ((donjonlaw4_Good.f a2_0 a2_1 a2_2 a2_3).bind fun bt113 => (if (!(bt105.1 == bt109.1) || (!(bt105.2.1 == bt109.2.1) || (!(bt105.2.2.1 == bt109.2.2.1) || (!(bt105.2.2.2 == bt109.2.2.2))))) = true then ((label_Less.f bt105.1 bt105.2.1 bt105.2.2.1 bt105.2.2.2 bt109.1 bt109.2.1 bt109.2.2.1 bt109.2.2.2).bind fun t117 => ((label_Less.f bt109.1 bt109.2.1 bt109.2.2.1 bt109.2.2.2 bt105.1 bt105.2.1 bt105.2.2.1 bt105.2.2.2).bind fun t118 => (if (t117 == t118) = true then (donjonlaw4_LabelLess.j0 k true bt105.1 bt105.2.1 bt105.2.2.1 bt105.2.2.2 bt109.1 bt109.2.1 bt109.2.2.1 bt109.2.2.2 bt113.1 bt113.2.1 bt113.2.2.1 bt113.2.2.2) else ((label_Less.f bt105.1 bt105.2.1 bt105.2.2.1 bt105.2.2.2 bt105.1 bt105.2.1 bt105.2.2.1 bt105.2.2.2).bind fun t119 => (donjonlaw4_LabelLess.j0 k t119 bt105.1 bt105.2.1 bt105.2.2.1 bt105.2.2.2 bt109.1 bt109.2.1 bt109.2.2.1 bt109.2.2.2 bt113.1 bt113.2.1 bt113.2.2.1 bt113.2.2.2))))) else ((label_Less.f bt105.1 bt105.2.1 bt105.2.2.1 bt105.2.2.2 bt105.1 bt105.2.1 bt105.2.2.1 bt105.2.2.2).bind fun t120 => (donjonlaw4_LabelLess.j0 k t120 bt105.1 bt105.2.1 bt105.2.2.1 bt105.2.2.2 bt109.1 bt109.2.1 bt109.2.2.1 bt109.2.2.2 bt113.1 bt113.2.1 bt113.2.2.1 bt113.2.2.2)))))) = some r := by rw [if_pos rfl] at H; exact H
    clear H
    have H := H1
    clear H1
    replace H := Option.bind_eq_some_iff.mp H
    obtain ⟨⟨t105, t106, t107, t108⟩, A60, H⟩ := H
    replace H : ((donjonlaw4_Good.f a1_0 a1_1 a1_2 a1_3).bind fun bt109 => ((donjonlaw4_Good.f a2_0 a2_1 a2_2 a2_3).bind fun bt113 => (if (!(t105 == bt109.1) || (!(t106 == bt109.2.1) || (!(t107 == bt109.2.2.1) || (!(t108 == bt109.2.2.2))))) = true then ((label_Less.f t105 t106 t107 t108 bt109.1 bt109.2.1 bt109.2.2.1 bt109.2.2.2).bind fun t117 => ((label_Less.f bt109.1 bt109.2.1 bt109.2.2.1 bt109.2.2.2 t105 t106 t107 t108).bind fun t118 => (if (t117 == t118) = true then (donjonlaw4_LabelLess.j0 k true t105 t106 t107 t108 bt109.1 bt109.2.1 bt109.2.2.1 bt109.2.2.2 bt113.1 bt113.2.1 bt113.2.2.1 bt113.2.2.2) else ((label_Less.f t105 t106 t107 t108 t105 t106 t107 t108).bind fun t119 => (donjonlaw4_LabelLess.j0 k t119 t105 t106 t107 t108 bt109.1 bt109.2.1 bt109.2.2.1 bt109.2.2.2 bt113.1 bt113.2.1 bt113.2.2.1 bt113.2.2.2))))) else ((label_Less.f t105 t106 t107 t108 t105 t106 t107 t108).bind fun t120 => (donjonlaw4_LabelLess.j0 k t120 t105 t106 t107 t108 bt109.1 bt109.2.1 bt109.2.2.1 bt109.2.2.2 bt113.1 bt113.2.1 bt113.2.2.1 bt113.2.2.2))))) = some r := H
    have A6 := Aside0.mk A60
    clear A60
    replace H := Option.bind_eq_some_iff.mp H
    obtain ⟨⟨t109, t110, t111, t112⟩, A70, H⟩ := H
    replace H : ((donjonlaw4_Good.f a2_0 a2_1 a2_2 a2_3).bind fun bt113 => (if (!(t105 == t109) || (!(t106 == t110) || (!(t107 == t111) || (!(t108 == t112))))) = true then ((label_Less.f t105 t106 t107 t108 t109 t110 t111 t112).bind fun t117 => ((label_Less.f t109 t110 t111 t112 t105 t106 t107 t108).bind fun t118 => (if (t117 == t118) = true then (donjonlaw4_LabelLess.j0 k true t105 t106 t107 t108 t109 t110 t111 t112 bt113.1 bt113.2.1 bt113.2.2.1 bt113.2.2.2) else ((label_Less.f t105 t106 t107 t108 t105 t106 t107 t108).bind fun t119 => (donjonlaw4_LabelLess.j0 k t119 t105 t106 t107 t108 t109 t110 t111 t112 bt113.1 bt113.2.1 bt113.2.2.1 bt113.2.2.2))))) else ((label_Less.f t105 t106 t107 t108 t105 t106 t107 t108).bind fun t120 => (donjonlaw4_LabelLess.j0 k t120 t105 t106 t107 t108 t109 t110 t111 t112 bt113.1 bt113.2.1 bt113.2.2.1 bt113.2.2.2)))) = some r := H
    have A7 := Aside0.mk A70
    clear A70
    replace H := Option.bind_eq_some_iff.mp H
    obtain ⟨⟨t113, t114, t115, t116⟩, A80, H⟩ := H
    replace H : (if (!(t105 == t109) || (!(t106 == t110) || (!(t107 == t111) || (!(t108 == t112))))) = true then ((label_Less.f t105 t106 t107 t108 t109 t110 t111 t112).bind fun t117 => ((label_Less.f t109 t110 t111 t112 t105 t106 t107 t108).bind fun t118 => (if (t117 == t118) = true then (donjonlaw4_LabelLess.j0 k true t105 t106 t107 t108 t109 t110 t111 t112 t113 t114 t115 t116) else ((label_Less.f t105 t106 t107 t108 t105 t106 t107 t108).bind fun t119 => (donjonlaw4_LabelLess.j0 k t119 t105 t106 t107 t108 t109 t110 t111 t112 t113 t114 t115 t116))))) else ((label_Less.f t105 t106 t107 t108 t105 t106 t107 t108).bind fun t120 => (donjonlaw4_LabelLess.j0 k t120 t105 t106 t107 t108 t109 t110 t111 t112 t113 t114 t115 t116))) = some r := H
    have A8 := Aside0.mk A80
    clear A80
    have HC9 := Aside0.mk H
    clear H
    go_enter Tryd.func5, Tryd.ntmps5
    try go_wp2_with (first | ((with_reducible refine gate_dst (N := 3) rfl ?_); refine box_event ?hg (N := 3) ?hd (cs := #[.int .i64 a0_0, .int .i64 a0_1, .int .i64 a0_2, .int .i64 a0_3]) (t := 23) ?hr ?_; (case hd => rfl); (case hg => rfl); (case hr => first | (go_simp; done) | (go_simp; rfl)); intro gb101 hg w10 hbox hb; have n0_ := Aside0.mk (below_step (by repeat (first | (with_reducible first | exact HB.out | apply below_alloc | apply pw_below_drewN | apply below_drew1) | exact HB.out)) hb); have n1_ := Aside0.mk (hbox); have n2_ := Aside0.mk ((by rw [hg]; exact (below_size (by repeat (first | (with_reducible first | exact HB.out | apply below_alloc | apply pw_below_drewN | apply below_drew1) | exact HB.out))) : w.heap.size ≤ gb101)); have n3_ := Aside0.mk ((by rw [hg]; exact (below_size (by repeat (first | (with_reducible first | exact HB.out | apply below_alloc | apply pw_below_drewN | apply below_drew1) | exact HB.out))) : w.heap.size ≤ gb101)); clear HB; have HB := n0_; have BK101 := n1_; have GW101 := n2_; have GE101 := n3_; clear n0_ n1_ n2_ n3_; clear hb hbox hg) | ((with_reducible refine gate_dst (N := 4) rfl ?_); refine box_event ?hg (N := 4) ?hd (cs := #[.int .i64 a1_0, .int .i64 a1_1, .int .i64 a1_2, .int .i64 a1_3]) (t := 23) ?hr ?_; (case hd => rfl); (case hg => rfl); (case hr => first | (go_simp; done) | (go_simp; rfl)); intro gb102 hg w11 hbox hb; have n0_ := Aside0.mk (blk_below (g := gb101) (o := .cells #[.int .i64 a0_0, .int .i64 a0_1, .int .i64 a0_2, .int .i64 a0_3] 23 (0, 0)) (by (with_reducible repeat (first | refine blk_drewN ?_ _ | refine blk_drew ?_ | refine blk_alloc ?_ _)); exact BK101.out) hb); have n1_ := Aside0.mk (below_step (by repeat (first | (with_reducible first | exact HB.out | apply below_alloc | apply pw_below_drewN | apply below_drew1 | refine below_set ?_ GE101.out) | exact HB.out)) hb); have n2_ := Aside0.mk (hbox); have n3_ := Aside0.mk ((by rw [hg]; exact (below_size (by repeat (first | (with_reducible first | exact HB.out | apply below_alloc | apply pw_below_drewN | apply below_drew1 | refine below_set ?_ GE101.out) | exact HB.out))) : w.heap.size ≤ gb102)); have n4_ := Aside0.mk ((by rw [hg]; exact (below_size (by repeat (first | (with_reducible first | exact HB.out | apply below_alloc | apply pw_below_drewN | apply below_drew1 | refine below_set ?_ GE101.out) | exact HB.out))) : w.heap.size ≤ gb102)); have n5_ := Aside0.mk ((by rw [hg]; exact Nat.ne_of_lt (blk_lt (g := gb101) (o := .cells #[.int .i64 a0_0, .int .i64 a0_1, .int .i64 a0_2, .int .i64 a0_3] 23 (0, 0)) (by (with_reducible repeat (first | refine blk_drewN ?_ _ | refine blk_drew ?_ | refine blk_alloc ?_ _)); exact BK101.out)) : gb101 ≠ gb102)); have n6_ := Aside0.mk ((by rw [hg]; exact Nat.ne_of_gt (blk_lt (g := gb101) (o := .cells #[.int .i64 a0_0, .int .i64 a0_1, .int .i64 a0_2, .int .i64 a0_3] 23 (0, 0)) (by (with_reducible repeat (first | refine blk_drewN ?_ _ | refine blk_drew ?_ | refine blk_alloc ?_ _)); exact BK101.out)) : gb102 ≠ gb101)); clear BK101; clear HB; have BK101 := n0_; have HB := n1_; have BK102 := n2_; have GW102 := n3_; have GE102 := n4_; have NB101_102 := n5_; have NB102_101 := n6_; clear n0_ n1_ n2_ n3_ n4_ n5_ n6_; clear hb hbox hg) | ((with_reducible refine gate_dst (N := 5) rfl ?_); refine box_event ?hg (N := 5) ?hd (cs := #[.int .i64 a2_0, .int .i64 a2_1, .int .i64 a2_2, .int .i64 a2_3]) (t := 23) ?hr ?_; (case hd => rfl); (case hg => rfl); (case hr => first | (go_simp; done) | (go_simp; rfl)); intro gb103 hg w12 hbox hb; have n0_ := Aside0.mk (blk_below (g := gb101) (o := .cells #[.int .i64 a0_0, .int .i64 a0_1, .int .i64 a0_2, .int .i64 a0_3] 23 (0, 0)) (by (with_reducible repeat (first | refine blk_drewN ?_ _ | refine blk_drew ?_ | refine blk_alloc ?_ _)); exact BK101.out) hb); have n1_ := Aside0.mk (blk_below (g := gb102) (o := .cells #[.int .i64 a1_0, .int .i64 a1_1, .int .i64 a1_2, .int .i64 a1_3] 23 (0, 0)) (by (with_reducible repeat (first | refine blk_drewN ?_ _ | refine blk_drew ?_ | refine blk_alloc ?_ _)); exact BK102.out) hb); have n2_ := Aside0.mk (below_step (by repeat (first | (with_reducible first | exact HB.out | apply below_alloc | apply pw_below_drewN | apply below_drew1 | refine below_set ?_ GE101.out | refine below_set ?_ GE102.out) | exact HB.out)) hb); have n3_ := Aside0.mk (hbox); have n4_ := Aside0.mk ((by rw [hg]; exact (below_size (by repeat (first | (with_reducible first | exact HB.out | apply below_alloc | apply pw_below_drewN | apply below_drew1 | refine below_set ?_ GE101.out | refine below_set ?_ GE102.out) | exact HB.out))) : w.heap.size ≤ gb103)); have n5_ := Aside0.mk ((by rw [hg]; exact (below_size (by repeat (first | (with_reducible first | exact HB.out | apply below_alloc | apply pw_below_drewN | apply below_drew1 | refine below_set ?_ GE101.out | refine below_set ?_ GE102.out) | exact HB.out))) : w.heap.size ≤ gb103)); have n6_ := Aside0.mk ((by rw [hg]; exact Nat.ne_of_lt (blk_lt (g := gb101) (o := .cells #[.int .i64 a0_0, .int .i64 a0_1, .int .i64 a0_2, .int .i64 a0_3] 23 (0, 0)) (by (with_reducible repeat (first | refine blk_drewN ?_ _ | refine blk_drew ?_ | refine blk_alloc ?_ _)); exact BK101.out)) : gb101 ≠ gb103)); have n7_ := Aside0.mk ((by rw [hg]; exact Nat.ne_of_gt (blk_lt (g := gb101) (o := .cells #[.int .i64 a0_0, .int .i64 a0_1, .int .i64 a0_2, .int .i64 a0_3] 23 (0, 0)) (by (with_reducible repeat (first | refine blk_drewN ?_ _ | refine blk_drew ?_ | refine blk_alloc ?_ _)); exact BK101.out)) : gb103 ≠ gb101)); have n8_ := Aside0.mk ((by rw [hg]; exact Nat.ne_of_lt (blk_lt (g := gb102) (o := .cells #[.int .i64 a1_0, .int .i64 a1_1, .int .i64 a1_2, .int .i64 a1_3] 23 (0, 0)) (by (with_reducible repeat (first | refine blk_drewN ?_ _ | refine blk_drew ?_ | refine blk_alloc ?_ _)); exact BK102.out)) : gb102 ≠ gb103)); have n9_ := Aside0.mk ((by rw [hg]; exact Nat.ne_of_gt (blk_lt (g := gb102) (o := .cells #[.int .i64 a1_0, .int .i64 a1_1, .int .i64 a1_2, .int .i64 a1_3] 23 (0, 0)) (by (with_reducible repeat (first | refine blk_drewN ?_ _ | refine blk_drew ?_ | refine blk_alloc ?_ _)); exact BK102.out)) : gb103 ≠ gb102)); clear BK101; clear BK102; clear HB; have BK101 := n0_; have BK102 := n1_; have HB := n2_; have BK103 := n3_; have GW103 := n4_; have GE103 := n5_; have NB101_103 := n6_; have NB103_101 := n7_; have NB102_103 := n8_; have NB103_102 := n9_; clear n0_ n1_ n2_ n3_ n4_ n5_ n6_ n7_ n8_ n9_; clear hb hbox hg) | ((with_reducible refine gate_callee (f := 14) rfl ?_); refine goesL_ (some 7) rfl rfl Tryd.func14 (by kernel_rfl) rfl #[] rfl (by (try simp only [List.map_toArray, List.map_cons, List.map_nil]); first | done | rfl | (simp only [List.length_drop, List.length_take]; rfl)) ?_; (with_reducible refine (donjonlaw4_known.calls  true _ (by first | exact HG.out | exact Laid.below HG.out (by repeat (first | (with_reducible first | exact HB.out | apply below_alloc | apply pw_below_drewN | apply below_drew1 | refine below_set ?_ (Aside0.out (by assumption))) | exact HB.out))) A4.out).mono ?_); rintro e w13 ⟨rfl, hb⟩; refine ⟨_, rfl, ?_⟩; have n0_ := Aside0.mk (blk_below (g := gb101) (o := .cells #[.int .i64 a0_0, .int .i64 a0_1, .int .i64 a0_2, .int .i64 a0_3] 23 (0, 0)) (by (with_reducible repeat (first | refine blk_drewN ?_ _ | refine blk_drew ?_ | refine blk_alloc ?_ _)); exact BK101.out) hb); have n1_ := Aside0.mk (blk_below (g := gb102) (o := .cells #[.int .i64 a1_0, .int .i64 a1_1, .int .i64 a1_2, .int .i64 a1_3] 23 (0, 0)) (by (with_reducible repeat (first | refine blk_drewN ?_ _ | refine blk_drew ?_ | refine blk_alloc ?_ _)); exact BK102.out) hb); have n2_ := Aside0.mk (blk_below (g := gb103) (o := .cells #[.int .i64 a2_0, .int .i64 a2_1, .int .i64 a2_2, .int .i64 a2_3] 23 (0, 0)) (by (with_reducible repeat (first | refine blk_drewN ?_ _ | refine blk_drew ?_ | refine blk_alloc ?_ _)); exact BK103.out) hb); have n3_ := Aside0.mk (below_step (by repeat (first | (with_reducible first | exact HB.out | apply below_alloc | apply pw_below_drewN | apply below_drew1 | refine below_set ?_ GE101.out | refine below_set ?_ GE102.out | refine below_set ?_ GE103.out) | exact HB.out)) hb); clear BK101; clear BK102; clear BK103; clear HB; have BK101 := n0_; have BK102 := n1_; have BK103 := n2_; have HB := n3_; clear n0_ n1_ n2_ n3_; (try clear hb); (try clear hb2); (try clear hk); (try clear hi)))
    have n0_ := Aside0.mk (blk_drew BK101.out)
    have n1_ := Aside0.mk (blk_drew BK102.out)
    have n2_ := Aside0.mk (blk_drew BK103.out)
    have n3_ := Aside0.mk (below_drew1 HB.out)
    clear BK101
    clear BK102
    clear BK103
    clear HB
    have BK101 := n0_
    have BK102 := n1_
    have BK103 := n2_
    have HB := n3_
    clear n0_ n1_ n2_ n3_
    refine start_ (n := 9) (S := fun w' => w'.cell? ⟨gb101, 0, none⟩ = some (.int .i64 a0_0) ∧ w'.cell? ⟨gb101, 1, none⟩ = some (.int .i64 a0_1) ∧ w'.cell? ⟨gb101, 2, none⟩ = some (.int .i64 a0_2) ∧ w'.cell? ⟨gb101, 3, none⟩ = some (.int .i64 a0_3) ∧ w'.cell? ⟨gb102, 0, none⟩ = some (.int .i64 a1_0) ∧ w'.cell? ⟨gb102, 1, none⟩ = some (.int .i64 a1_1) ∧ w'.cell? ⟨gb102, 2, none⟩ = some (.int .i64 a1_2) ∧ w'.cell? ⟨gb102, 3, none⟩ = some (.int .i64 a1_3) ∧ w'.cell? ⟨gb103, 0, none⟩ = some (.int .i64 a2_0) ∧ w'.cell? ⟨gb103, 1, none⟩ = some (.int .i64 a2_1) ∧ w'.cell? ⟨gb103, 2, none⟩ = some (.int .i64 a2_2) ∧ w'.cell? ⟨gb103, 3, none⟩ = some (.int .i64 a2_3)) (ds := [6, 7, 8]) #[false, false, false, false, false, false, false, false, false] (by kernel_rfl) rfl rfl ⟨(blk_cell BK101.out 0).trans rfl, (blk_cell BK101.out 1).trans rfl, (blk_cell BK101.out 2).trans rfl, (blk_cell BK101.out 3).trans rfl, (blk_cell BK102.out 0).trans rfl, (blk_cell BK102.out 1).trans rfl, (blk_cell BK102.out 2).trans rfl, (blk_cell BK102.out 3).trans rfl, (blk_cell BK103.out 0).trans rfl, (blk_cell BK103.out 1).trans rfl, (blk_cell BK103.out 2).trans rfl, (blk_cell BK103.out 3).trans rfl⟩ (fun hHeld => ?_); refine with_tabW donjonlaw4_LabelLess.tab3 donjonlaw4_LabelLess.bits3 (fun HT_ HW_ => ?_)
    generalize w13.drew = w14 at BK101 BK102 BK103 HB hHeld ⊢
    refine take_ (i := 0) (N := some 9) (v := ?_) (a' := ?_) #[true, false, false, false, false, false, false, false, false] rfl rfl (take_ofW HT_.out HW_.out (by kernel_rfl)) (fun _ _ _ h => h) (Or.inl ⟨by rfl, ?_⟩) hHeld ?_ ?_
    rotate_left
    · rintro w' ⟨s0, s1, s2, s3, s4, s5, s6, s7, s8, s9, s10, s11⟩
      go_simp
      with_reducible rfl
    rotate_left
    · simp only [Act.put, List.setIfInBounds_toArray, List.set_cons_zero, List.set_cons_succ, i64_w, i32_w]
      rfl
    refine take_ (i := 2) (N := some 11) (v := ?_) (a' := ?_) #[true, false, true, false, false, false, false, false, false] rfl rfl (take_ofW HT_.out HW_.out (by kernel_rfl)) (fun _ _ _ h => h) (Or.inl ⟨by rfl, ?_⟩) hHeld ?_ ?_
    rotate_left
    · rintro w' ⟨s0, s1, s2, s3, s4, s5, s6, s7, s8, s9, s10, s11⟩
      go_simp
      with_reducible rfl
    rotate_left
    · simp only [Act.put, List.setIfInBounds_toArray, List.set_cons_zero, List.set_cons_succ, i64_w, i32_w]
      rfl
    refine take_ (i := 4) (N := some 13) (v := ?_) (a' := ?_) #[true, false, true, false, true, false, false, false, false] rfl rfl (take_ofW HT_.out HW_.out (by kernel_rfl)) (fun _ _ _ h => h) (Or.inl ⟨by rfl, ?_⟩) hHeld ?_ ?_
    rotate_left
    · rintro w' ⟨s0, s1, s2, s3, s4, s5, s6, s7, s8, s9, s10, s11⟩
      go_simp
      with_reducible rfl
    rotate_left
    · simp only [Act.put, List.setIfInBounds_toArray, List.set_cons_zero, List.set_cons_succ, i64_w, i32_w]
      rfl
    refine one_ (i := 1) (N := some 10) #[true, true, true, false, true, false, false, false, false] rfl rfl (one_of HT_.out (by kernel_rfl)) (by decide) (fun K hK => ?_)
    refine goes_ Tryd.func15 (by kernel_rfl) rfl #[.agg #[.int .i64 a0_0, .int .i64 a0_1, .int .i64 a0_2, .int .i64 a0_3]] (by rfl) rfl rfl (by (try simp only [List.map_toArray, List.map_cons, List.map_nil]); first | done | rfl | (simp only [List.length_drop, List.length_take]; rfl)) ?_
    with_reducible refine (donjonlaw4_Good.calls a0_0 a0_1 a0_2 a0_3 t105 t106 t107 t108 _ A6.out).mono ?_
    rintro e w15 ⟨rfl, hb⟩
    refine ⟨_, rfl, ?_⟩
    have n0_ := Aside0.mk (blk_below (g := gb101) (o := .cells #[.int .i64 a0_0, .int .i64 a0_1, .int .i64 a0_2, .int .i64 a0_3] 23 (0, 0)) (by (with_reducible repeat (first | refine blk_drewN ?_ _ | refine blk_drew ?_ | refine blk_alloc ?_ _)); exact BK101.out) hb)
    have n1_ := Aside0.mk (blk_below (g := gb102) (o := .cells #[.int .i64 a1_0, .int .i64 a1_1, .int .i64 a1_2, .int .i64 a1_3] 23 (0, 0)) (by (with_reducible repeat (first | refine blk_drewN ?_ _ | refine blk_drew ?_ | refine blk_alloc ?_ _)); exact BK102.out) hb)
    have n2_ := Aside0.mk (blk_below (g := gb103) (o := .cells #[.int .i64 a2_0, .int .i64 a2_1, .int .i64 a2_2, .int .i64 a2_3] 23 (0, 0)) (by (with_reducible repeat (first | refine blk_drewN ?_ _ | refine blk_drew ?_ | refine blk_alloc ?_ _)); exact BK103.out) hb)
    have n3_ := Aside0.mk (below_step (by repeat (first | (with_reducible first | exact HB.out | apply below_alloc | apply pw_below_drewN | apply below_drew1 | refine below_set ?_ GE101.out | refine below_set ?_ GE102.out | refine below_set ?_ GE103.out) | exact HB.out)) hb)
    clear BK101
    clear BK102
    clear BK103
    clear HB
    have BK101 := n0_
    have BK102 := n1_
    have BK103 := n2_
    have HB := n3_
    clear n0_ n1_ n2_ n3_
    (try clear hb)
    (try clear hb2)
    (try clear hk)
    (try clear hi)
    refine hK.out _ _ ⟨(blk_cell BK101.out 0).trans rfl, (blk_cell BK101.out 1).trans rfl, (blk_cell BK101.out 2).trans rfl, (blk_cell BK101.out 3).trans rfl, (blk_cell BK102.out 0).trans rfl, (blk_cell BK102.out 1).trans rfl, (blk_cell BK102.out 2).trans rfl, (blk_cell BK102.out 3).trans rfl, (blk_cell BK103.out 0).trans rfl, (blk_cell BK103.out 1).trans rfl, (blk_cell BK103.out 2).trans rfl, (blk_cell BK103.out 3).trans rfl⟩ (fun hHeld => ?_)
    clear hK K
    refine norm_ (a' := ?_) ?_ ?_
    rotate_left
    · show Act.put _ (some 10) _ = _
      simp only [Act.put, List.setIfInBounds_toArray, List.set_cons_zero, List.set_cons_succ, i64_w, i32_w]
      rfl
    refine one_ (i := 3) (N := some 12) #[true, true, true, true, true, false, false, false, false] rfl rfl (one_of HT_.out (by kernel_rfl)) (by decide) (fun K hK => ?_)
    refine goes_ Tryd.func15 (by kernel_rfl) rfl #[.agg #[.int .i64 a1_0, .int .i64 a1_1, .int .i64 a1_2, .int .i64 a1_3]] (by rfl) rfl rfl (by (try simp only [List.map_toArray, List.map_cons, List.map_nil]); first | done | rfl | (simp only [List.length_drop, List.length_take]; rfl)) ?_
    with_reducible refine (donjonlaw4_Good.calls a1_0 a1_1 a1_2 a1_3 t109 t110 t111 t112 _ A7.out).mono ?_
    rintro e w16 ⟨rfl, hb⟩
    refine ⟨_, rfl, ?_⟩
    have n0_ := Aside0.mk (blk_below (g := gb101) (o := .cells #[.int .i64 a0_0, .int .i64 a0_1, .int .i64 a0_2, .int .i64 a0_3] 23 (0, 0)) (by (with_reducible repeat (first | refine blk_drewN ?_ _ | refine blk_drew ?_ | refine blk_alloc ?_ _)); exact BK101.out) hb)
    have n1_ := Aside0.mk (blk_below (g := gb102) (o := .cells #[.int .i64 a1_0, .int .i64 a1_1, .int .i64 a1_2, .int .i64 a1_3] 23 (0, 0)) (by (with_reducible repeat (first | refine blk_drewN ?_ _ | refine blk_drew ?_ | refine blk_alloc ?_ _)); exact BK102.out) hb)
    have n2_ := Aside0.mk (blk_below (g := gb103) (o := .cells #[.int .i64 a2_0, .int .i64 a2_1, .int .i64 a2_2, .int .i64 a2_3] 23 (0, 0)) (by (with_reducible repeat (first | refine blk_drewN ?_ _ | refine blk_drew ?_ | refine blk_alloc ?_ _)); exact BK103.out) hb)
    have n3_ := Aside0.mk (below_step (by repeat (first | (with_reducible first | exact HB.out | apply below_alloc | apply pw_below_drewN | apply below_drew1 | refine below_set ?_ GE101.out | refine below_set ?_ GE102.out | refine below_set ?_ GE103.out) | exact HB.out)) hb)
    clear BK101
    clear BK102
    clear BK103
    clear HB
    have BK101 := n0_
    have BK102 := n1_
    have BK103 := n2_
    have HB := n3_
    clear n0_ n1_ n2_ n3_
    (try clear hb)
    (try clear hb2)
    (try clear hk)
    (try clear hi)
    refine hK.out _ _ ⟨(blk_cell BK101.out 0).trans rfl, (blk_cell BK101.out 1).trans rfl, (blk_cell BK101.out 2).trans rfl, (blk_cell BK101.out 3).trans rfl, (blk_cell BK102.out 0).trans rfl, (blk_cell BK102.out 1).trans rfl, (blk_cell BK102.out 2).trans rfl, (blk_cell BK102.out 3).trans rfl, (blk_cell BK103.out 0).trans rfl, (blk_cell BK103.out 1).trans rfl, (blk_cell BK103.out 2).trans rfl, (blk_cell BK103.out 3).trans rfl⟩ (fun hHeld => ?_)
    clear hK K
    refine norm_ (a' := ?_) ?_ ?_
    rotate_left
    · show Act.put _ (some 12) _ = _
      simp only [Act.put, List.setIfInBounds_toArray, List.set_cons_zero, List.set_cons_succ, i64_w, i32_w]
      rfl
    refine one_ (i := 5) (N := some 14) #[true, true, true, true, true, true, false, false, false] rfl rfl (one_of HT_.out (by kernel_rfl)) (by decide) (fun K hK => ?_)
    refine goes_ Tryd.func15 (by kernel_rfl) rfl #[.agg #[.int .i64 a2_0, .int .i64 a2_1, .int .i64 a2_2, .int .i64 a2_3]] (by rfl) rfl rfl (by (try simp only [List.map_toArray, List.map_cons, List.map_nil]); first | done | rfl | (simp only [List.length_drop, List.length_take]; rfl)) ?_
    with_reducible refine (donjonlaw4_Good.calls a2_0 a2_1 a2_2 a2_3 t113 t114 t115 t116 _ A8.out).mono ?_
    rintro e w17 ⟨rfl, hb⟩
    refine ⟨_, rfl, ?_⟩
    have n0_ := Aside0.mk (blk_below (g := gb101) (o := .cells #[.int .i64 a0_0, .int .i64 a0_1, .int .i64 a0_2, .int .i64 a0_3] 23 (0, 0)) (by (with_reducible repeat (first | refine blk_drewN ?_ _ | refine blk_drew ?_ | refine blk_alloc ?_ _)); exact BK101.out) hb)
    have n1_ := Aside0.mk (blk_below (g := gb102) (o := .cells #[.int .i64 a1_0, .int .i64 a1_1, .int .i64 a1_2, .int .i64 a1_3] 23 (0, 0)) (by (with_reducible repeat (first | refine blk_drewN ?_ _ | refine blk_drew ?_ | refine blk_alloc ?_ _)); exact BK102.out) hb)
    have n2_ := Aside0.mk (blk_below (g := gb103) (o := .cells #[.int .i64 a2_0, .int .i64 a2_1, .int .i64 a2_2, .int .i64 a2_3] 23 (0, 0)) (by (with_reducible repeat (first | refine blk_drewN ?_ _ | refine blk_drew ?_ | refine blk_alloc ?_ _)); exact BK103.out) hb)
    have n3_ := Aside0.mk (below_step (by repeat (first | (with_reducible first | exact HB.out | apply below_alloc | apply pw_below_drewN | apply below_drew1 | refine below_set ?_ GE101.out | refine below_set ?_ GE102.out | refine below_set ?_ GE103.out) | exact HB.out)) hb)
    clear BK101
    clear BK102
    clear BK103
    clear HB
    have BK101 := n0_
    have BK102 := n1_
    have BK103 := n2_
    have HB := n3_
    clear n0_ n1_ n2_ n3_
    (try clear hb)
    (try clear hb2)
    (try clear hk)
    (try clear hi)
    refine hK.out _ _ ⟨(blk_cell BK101.out 0).trans rfl, (blk_cell BK101.out 1).trans rfl, (blk_cell BK101.out 2).trans rfl, (blk_cell BK101.out 3).trans rfl, (blk_cell BK102.out 0).trans rfl, (blk_cell BK102.out 1).trans rfl, (blk_cell BK102.out 2).trans rfl, (blk_cell BK102.out 3).trans rfl, (blk_cell BK103.out 0).trans rfl, (blk_cell BK103.out 1).trans rfl, (blk_cell BK103.out 2).trans rfl, (blk_cell BK103.out 3).trans rfl⟩ (fun hHeld => ?_)
    clear hK K
    refine norm_ (a' := ?_) ?_ ?_
    rotate_left
    · show Act.put _ (some 14) _ = _
      simp only [Act.put, List.setIfInBounds_toArray, List.set_cons_zero, List.set_cons_succ, i64_w, i32_w]
      rfl
    refine last_ (i := 6) (N := none) #[true, true, true, true, true, true, true, false, false] rfl rfl (one_of HT_.out (by kernel_rfl)) (by decide) (fun K hK => ?_)
    have hs18 : w17.cell? ⟨gb101, 0, none⟩ = some (.int .i64 a0_0) := (blk_cell BK101.out 0).trans rfl
    have hfs18 := blk_frozen BK101.out 0
    have hns18_1 := NB102_101.out
    have hns18_2 := NB103_101.out
    have hms18_1 := NB101_102.out
    have hms18_2 := NB101_103.out
    have hs19 : w17.cell? ⟨gb101, 1, none⟩ = some (.int .i64 a0_1) := (blk_cell BK101.out 1).trans rfl
    have hfs19 := blk_frozen BK101.out 1
    have hns19_1 := NB102_101.out
    have hns19_2 := NB103_101.out
    have hms19_1 := NB101_102.out
    have hms19_2 := NB101_103.out
    have hs20 : w17.cell? ⟨gb101, 2, none⟩ = some (.int .i64 a0_2) := (blk_cell BK101.out 2).trans rfl
    have hfs20 := blk_frozen BK101.out 2
    have hns20_1 := NB102_101.out
    have hns20_2 := NB103_101.out
    have hms20_1 := NB101_102.out
    have hms20_2 := NB101_103.out
    have hs21 : w17.cell? ⟨gb101, 3, none⟩ = some (.int .i64 a0_3) := (blk_cell BK101.out 3).trans rfl
    have hfs21 := blk_frozen BK101.out 3
    have hns21_1 := NB102_101.out
    have hns21_2 := NB103_101.out
    have hms21_1 := NB101_102.out
    have hms21_2 := NB101_103.out
    with_reducible refine skip_ (w1 := ?_) ?_ rfl ?_ ?_
    rotate_left
    · rfl
    · go_simp
      rfl
    refine hK.out _ _ ?_
    clear hK K
    refine last_ (i := 7) (N := none) #[true, true, true, true, true, true, true, true, false] rfl rfl (one_of HT_.out (by kernel_rfl)) (by decide) (fun K hK => ?_)
    have hs22 : w17.cell? ⟨gb102, 0, none⟩ = some (.int .i64 a1_0) := (blk_cell BK102.out 0).trans rfl
    have hfs22 := blk_frozen BK102.out 0
    have hns22_0 := NB101_102.out
    have hns22_2 := NB103_102.out
    have hms22_0 := NB102_101.out
    have hms22_2 := NB102_103.out
    have hs23 : w17.cell? ⟨gb102, 1, none⟩ = some (.int .i64 a1_1) := (blk_cell BK102.out 1).trans rfl
    have hfs23 := blk_frozen BK102.out 1
    have hns23_0 := NB101_102.out
    have hns23_2 := NB103_102.out
    have hms23_0 := NB102_101.out
    have hms23_2 := NB102_103.out
    have hs24 : w17.cell? ⟨gb102, 2, none⟩ = some (.int .i64 a1_2) := (blk_cell BK102.out 2).trans rfl
    have hfs24 := blk_frozen BK102.out 2
    have hns24_0 := NB101_102.out
    have hns24_2 := NB103_102.out
    have hms24_0 := NB102_101.out
    have hms24_2 := NB102_103.out
    have hs25 : w17.cell? ⟨gb102, 3, none⟩ = some (.int .i64 a1_3) := (blk_cell BK102.out 3).trans rfl
    have hfs25 := blk_frozen BK102.out 3
    have hns25_0 := NB101_102.out
    have hns25_2 := NB103_102.out
    have hms25_0 := NB102_101.out
    have hms25_2 := NB102_103.out
    with_reducible refine skip_ (w1 := ?_) ?_ rfl ?_ ?_
    rotate_left
    · rfl
    · go_simp
      rfl
    refine hK.out _ _ ?_
    clear hK K
    refine last_ (i := 8) (N := none) #[true, true, true, true, true, true, true, true, true] rfl rfl (one_of HT_.out (by kernel_rfl)) (by decide) (fun K hK => ?_)
    have hs26 : w17.cell? ⟨gb103, 0, none⟩ = some (.int .i64 a2_0) := (blk_cell BK103.out 0).trans rfl
    have hfs26 := blk_frozen BK103.out 0
    have hns26_0 := NB101_103.out
    have hns26_1 := NB102_103.out
    have hms26_0 := NB103_101.out
    have hms26_1 := NB103_102.out
    have hs27 : w17.cell? ⟨gb103, 1, none⟩ = some (.int .i64 a2_1) := (blk_cell BK103.out 1).trans rfl
    have hfs27 := blk_frozen BK103.out 1
    have hns27_0 := NB101_103.out
    have hns27_1 := NB102_103.out
    have hms27_0 := NB103_101.out
    have hms27_1 := NB103_102.out
    have hs28 : w17.cell? ⟨gb103, 2, none⟩ = some (.int .i64 a2_2) := (blk_cell BK103.out 2).trans rfl
    have hfs28 := blk_frozen BK103.out 2
    have hns28_0 := NB101_103.out
    have hns28_1 := NB102_103.out
    have hms28_0 := NB103_101.out
    have hms28_1 := NB103_102.out
    have hs29 : w17.cell? ⟨gb103, 3, none⟩ = some (.int .i64 a2_3) := (blk_cell BK103.out 3).trans rfl
    have hfs29 := blk_frozen BK103.out 3
    have hns29_0 := NB101_103.out
    have hns29_1 := NB102_103.out
    have hms29_0 := NB103_101.out
    have hms29_1 := NB103_102.out
    with_reducible refine skip_ (w1 := ?_) ?_ rfl ?_ ?_
    rotate_left
    · rfl
    · go_simp
      rfl
    refine hK.out _ _ ?_
    clear hK K
    refine done_ (done_of HT_.out (by kernel_rfl)) ?_
    go_upto_region 4 with (fail)
    go_cut [31] (fun v31 wc => ∃ (kq : Nat) (x31_8 : Bool), v31 = .bool x31_8 ∧ Aside0 (donjonlaw4_LabelLess.j0 kq x31_8 t105 t106 t107 t108 t109 t110 t111 t112 t113 t114 t115 t116 = some r) ∧ Aside0 (kq ≤ k) ∧ Aside0 (wc.heap[gb101]? = some (.cells #[.int .i64 t105, .int .i64 t106, .int .i64 t107, .int .i64 t108] 23 (0, 0))) ∧ Aside0 (wc.heap[gb102]? = some (.cells #[.int .i64 t109, .int .i64 t110, .int .i64 t111, .int .i64 t112] 23 (0, 0))) ∧ Aside0 (wc.heap[gb103]? = some (.cells #[.int .i64 t113, .int .i64 t114, .int .i64 t115, .int .i64 t116] 23 (0, 0))) ∧ Aside0 (Below w.heap.size w wc))
    case first =>
      have H := HC9.out
      clear HC9
      by_cases c30 : (!(t105 == t109) || (!(t106 == t110) || (!(t107 == t111) || (!(t108 == t112))))) = true
      · rw [if_pos c30] at H
        have c30b0 : (!(t105 == t109) || (!(t106 == t110) || (!(t107 == t111) || (!(t108 == t112))))) = true := c30
        clear c30
        (first | rw [c30b0] | (simp only [i64_w, i32_w]; rw [c30b0]) | skip)
        replace H := Option.bind_eq_some_iff.mp H
        obtain ⟨t117, A310, H⟩ := H
        replace H : ((label_Less.f t109 t110 t111 t112 t105 t106 t107 t108).bind fun t118 => (if (t117 == t118) = true then (donjonlaw4_LabelLess.j0 k true t105 t106 t107 t108 t109 t110 t111 t112 t113 t114 t115 t116) else ((label_Less.f t105 t106 t107 t108 t105 t106 t107 t108).bind fun t119 => (donjonlaw4_LabelLess.j0 k t119 t105 t106 t107 t108 t109 t110 t111 t112 t113 t114 t115 t116)))) = some r := H
        have A31 := Aside0.mk A310
        clear A310
        replace H := Option.bind_eq_some_iff.mp H
        obtain ⟨t118, A320, H⟩ := H
        replace H : (if (t117 == t118) = true then (donjonlaw4_LabelLess.j0 k true t105 t106 t107 t108 t109 t110 t111 t112 t113 t114 t115 t116) else ((label_Less.f t105 t106 t107 t108 t105 t106 t107 t108).bind fun t119 => (donjonlaw4_LabelLess.j0 k t119 t105 t106 t107 t108 t109 t110 t111 t112 t113 t114 t115 t116))) = some r := H
        have A32 := Aside0.mk A320
        clear A320
        by_cases c33 : (t117 == t118) = true
        · rw [if_pos c33] at H
          have c33b0 : (t117 == t118) = true := c33
          (try (have c33b1 : decide (t117 = t118) = true := by simpa using c33))
          (try (have c33b2 : (t117 == t118) = true := by simpa using c33))
          clear c33
          exact absurd HRT.out (by intro hr_; subst hr_; cases k with | zero => exact absurd H (by simp [donjonlaw4_LabelLess.j0]) | succ k_ => (revert H; rw [donjonlaw4_LabelLess.j0, if_pos rfl]; decide))
        · rw [if_neg c33] at H
          have c33b0 : (t117 == t118) = false := by simpa using c33
          (try (have c33b1 : decide (t117 = t118) = false := by simpa using c33))
          (try (have c33b2 : (t117 == t118) = false := by simpa using c33))
          (try (have c33b3 : ¬ (t117 = t118) := by simpa using c33))
          clear c33
          replace H := Option.bind_eq_some_iff.mp H
          obtain ⟨t119, A340, H⟩ := H
          replace H : (donjonlaw4_LabelLess.j0 k t119 t105 t106 t107 t108 t109 t110 t111 t112 t113 t114 t115 t116) = some r := H
          have A34 := Aside0.mk A340
          clear A340
          have H' := Aside0.mk H
          clear H
          try go_wp2
          have n0_ : Aside0 (((((((((((((w17.setCell ⟨gb101, 0, none⟩ (.int .i64 t105)).setCell ⟨gb101, 1, none⟩ (.int .i64 t106)).setCell ⟨gb101, 2, none⟩ (.int .i64 t107)).setCell ⟨gb101, 3, none⟩ (.int .i64 t108)).setCell ⟨gb102, 0, none⟩ (.int .i64 t109)).setCell ⟨gb102, 1, none⟩ (.int .i64 t110)).setCell ⟨gb102, 2, none⟩ (.int .i64 t111)).setCell ⟨gb102, 3, none⟩ (.int .i64 t112)).setCell ⟨gb103, 0, none⟩ (.int .i64 t113)).setCell ⟨gb103, 1, none⟩ (.int .i64 t114)).setCell ⟨gb103, 2, none⟩ (.int .i64 t115)).setCell ⟨gb103, 3, none⟩ (.int .i64 t116)).heap[gb101]? = some (.cells #[.int .i64 t105, .int .i64 t106, .int .i64 t107, .int .i64 t108] 23 (0, 0))) := ⟨by (with_reducible repeat (first | refine blk_drewN ?_ _ | refine blk_drew ?_ | refine blk_alloc ?_ _)); refine blk_far ?_ NB101_103.out _; (with_reducible repeat (first | refine blk_drewN ?_ _ | refine blk_drew ?_ | refine blk_alloc ?_ _)); refine blk_far ?_ NB101_103.out _; (with_reducible repeat (first | refine blk_drewN ?_ _ | refine blk_drew ?_ | refine blk_alloc ?_ _)); refine blk_far ?_ NB101_103.out _; (with_reducible repeat (first | refine blk_drewN ?_ _ | refine blk_drew ?_ | refine blk_alloc ?_ _)); refine blk_far ?_ NB101_103.out _; (with_reducible repeat (first | refine blk_drewN ?_ _ | refine blk_drew ?_ | refine blk_alloc ?_ _)); refine blk_far ?_ NB101_102.out _; (with_reducible repeat (first | refine blk_drewN ?_ _ | refine blk_drew ?_ | refine blk_alloc ?_ _)); refine blk_far ?_ NB101_102.out _; (with_reducible repeat (first | refine blk_drewN ?_ _ | refine blk_drew ?_ | refine blk_alloc ?_ _)); refine blk_far ?_ NB101_102.out _; (with_reducible repeat (first | refine blk_drewN ?_ _ | refine blk_drew ?_ | refine blk_alloc ?_ _)); refine blk_far ?_ NB101_102.out _; (with_reducible repeat (first | refine blk_drewN ?_ _ | refine blk_drew ?_ | refine blk_alloc ?_ _)); refine blk_put (cs := #[.int .i64 t105, .int .i64 t106, .int .i64 t107, .int .i64 a0_3]) ?_ 3 _ rfl; (with_reducible repeat (first | refine blk_drewN ?_ _ | refine blk_drew ?_ | refine blk_alloc ?_ _)); refine blk_put (cs := #[.int .i64 t105, .int .i64 t106, .int .i64 a0_2, .int .i64 a0_3]) ?_ 2 _ rfl; (with_reducible repeat (first | refine blk_drewN ?_ _ | refine blk_drew ?_ | refine blk_alloc ?_ _)); refine blk_put (cs := #[.int .i64 t105, .int .i64 a0_1, .int .i64 a0_2, .int .i64 a0_3]) ?_ 1 _ rfl; (with_reducible repeat (first | refine blk_drewN ?_ _ | refine blk_drew ?_ | refine blk_alloc ?_ _)); refine blk_put (cs := #[.int .i64 a0_0, .int .i64 a0_1, .int .i64 a0_2, .int .i64 a0_3]) ?_ 0 _ rfl; (with_reducible repeat (first | refine blk_drewN ?_ _ | refine blk_drew ?_ | refine blk_alloc ?_ _)); exact BK101.out⟩
          have n1_ : Aside0 (((((((((((((w17.setCell ⟨gb101, 0, none⟩ (.int .i64 t105)).setCell ⟨gb101, 1, none⟩ (.int .i64 t106)).setCell ⟨gb101, 2, none⟩ (.int .i64 t107)).setCell ⟨gb101, 3, none⟩ (.int .i64 t108)).setCell ⟨gb102, 0, none⟩ (.int .i64 t109)).setCell ⟨gb102, 1, none⟩ (.int .i64 t110)).setCell ⟨gb102, 2, none⟩ (.int .i64 t111)).setCell ⟨gb102, 3, none⟩ (.int .i64 t112)).setCell ⟨gb103, 0, none⟩ (.int .i64 t113)).setCell ⟨gb103, 1, none⟩ (.int .i64 t114)).setCell ⟨gb103, 2, none⟩ (.int .i64 t115)).setCell ⟨gb103, 3, none⟩ (.int .i64 t116)).heap[gb102]? = some (.cells #[.int .i64 t109, .int .i64 t110, .int .i64 t111, .int .i64 t112] 23 (0, 0))) := ⟨by (with_reducible repeat (first | refine blk_drewN ?_ _ | refine blk_drew ?_ | refine blk_alloc ?_ _)); refine blk_far ?_ NB102_103.out _; (with_reducible repeat (first | refine blk_drewN ?_ _ | refine blk_drew ?_ | refine blk_alloc ?_ _)); refine blk_far ?_ NB102_103.out _; (with_reducible repeat (first | refine blk_drewN ?_ _ | refine blk_drew ?_ | refine blk_alloc ?_ _)); refine blk_far ?_ NB102_103.out _; (with_reducible repeat (first | refine blk_drewN ?_ _ | refine blk_drew ?_ | refine blk_alloc ?_ _)); refine blk_far ?_ NB102_103.out _; (with_reducible repeat (first | refine blk_drewN ?_ _ | refine blk_drew ?_ | refine blk_alloc ?_ _)); refine blk_put (cs := #[.int .i64 t109, .int .i64 t110, .int .i64 t111, .int .i64 a1_3]) ?_ 3 _ rfl; (with_reducible repeat (first | refine blk_drewN ?_ _ | refine blk_drew ?_ | refine blk_alloc ?_ _)); refine blk_put (cs := #[.int .i64 t109, .int .i64 t110, .int .i64 a1_2, .int .i64 a1_3]) ?_ 2 _ rfl; (with_reducible repeat (first | refine blk_drewN ?_ _ | refine blk_drew ?_ | refine blk_alloc ?_ _)); refine blk_put (cs := #[.int .i64 t109, .int .i64 a1_1, .int .i64 a1_2, .int .i64 a1_3]) ?_ 1 _ rfl; (with_reducible repeat (first | refine blk_drewN ?_ _ | refine blk_drew ?_ | refine blk_alloc ?_ _)); refine blk_put (cs := #[.int .i64 a1_0, .int .i64 a1_1, .int .i64 a1_2, .int .i64 a1_3]) ?_ 0 _ rfl; (with_reducible repeat (first | refine blk_drewN ?_ _ | refine blk_drew ?_ | refine blk_alloc ?_ _)); refine blk_far ?_ NB102_101.out _; (with_reducible repeat (first | refine blk_drewN ?_ _ | refine blk_drew ?_ | refine blk_alloc ?_ _)); refine blk_far ?_ NB102_101.out _; (with_reducible repeat (first | refine blk_drewN ?_ _ | refine blk_drew ?_ | refine blk_alloc ?_ _)); refine blk_far ?_ NB102_101.out _; (with_reducible repeat (first | refine blk_drewN ?_ _ | refine blk_drew ?_ | refine blk_alloc ?_ _)); refine blk_far ?_ NB102_101.out _; (with_reducible repeat (first | refine blk_drewN ?_ _ | refine blk_drew ?_ | refine blk_alloc ?_ _)); exact BK102.out⟩
          have n2_ : Aside0 (((((((((((((w17.setCell ⟨gb101, 0, none⟩ (.int .i64 t105)).setCell ⟨gb101, 1, none⟩ (.int .i64 t106)).setCell ⟨gb101, 2, none⟩ (.int .i64 t107)).setCell ⟨gb101, 3, none⟩ (.int .i64 t108)).setCell ⟨gb102, 0, none⟩ (.int .i64 t109)).setCell ⟨gb102, 1, none⟩ (.int .i64 t110)).setCell ⟨gb102, 2, none⟩ (.int .i64 t111)).setCell ⟨gb102, 3, none⟩ (.int .i64 t112)).setCell ⟨gb103, 0, none⟩ (.int .i64 t113)).setCell ⟨gb103, 1, none⟩ (.int .i64 t114)).setCell ⟨gb103, 2, none⟩ (.int .i64 t115)).setCell ⟨gb103, 3, none⟩ (.int .i64 t116)).heap[gb103]? = some (.cells #[.int .i64 t113, .int .i64 t114, .int .i64 t115, .int .i64 t116] 23 (0, 0))) := ⟨by (with_reducible repeat (first | refine blk_drewN ?_ _ | refine blk_drew ?_ | refine blk_alloc ?_ _)); refine blk_put (cs := #[.int .i64 t113, .int .i64 t114, .int .i64 t115, .int .i64 a2_3]) ?_ 3 _ rfl; (with_reducible repeat (first | refine blk_drewN ?_ _ | refine blk_drew ?_ | refine blk_alloc ?_ _)); refine blk_put (cs := #[.int .i64 t113, .int .i64 t114, .int .i64 a2_2, .int .i64 a2_3]) ?_ 2 _ rfl; (with_reducible repeat (first | refine blk_drewN ?_ _ | refine blk_drew ?_ | refine blk_alloc ?_ _)); refine blk_put (cs := #[.int .i64 t113, .int .i64 a2_1, .int .i64 a2_2, .int .i64 a2_3]) ?_ 1 _ rfl; (with_reducible repeat (first | refine blk_drewN ?_ _ | refine blk_drew ?_ | refine blk_alloc ?_ _)); refine blk_put (cs := #[.int .i64 a2_0, .int .i64 a2_1, .int .i64 a2_2, .int .i64 a2_3]) ?_ 0 _ rfl; (with_reducible repeat (first | refine blk_drewN ?_ _ | refine blk_drew ?_ | refine blk_alloc ?_ _)); refine blk_far ?_ NB103_102.out _; (with_reducible repeat (first | refine blk_drewN ?_ _ | refine blk_drew ?_ | refine blk_alloc ?_ _)); refine blk_far ?_ NB103_102.out _; (with_reducible repeat (first | refine blk_drewN ?_ _ | refine blk_drew ?_ | refine blk_alloc ?_ _)); refine blk_far ?_ NB103_102.out _; (with_reducible repeat (first | refine blk_drewN ?_ _ | refine blk_drew ?_ | refine blk_alloc ?_ _)); refine blk_far ?_ NB103_102.out _; (with_reducible repeat (first | refine blk_drewN ?_ _ | refine blk_drew ?_ | refine blk_alloc ?_ _)); refine blk_far ?_ NB103_101.out _; (with_reducible repeat (first | refine blk_drewN ?_ _ | refine blk_drew ?_ | refine blk_alloc ?_ _)); refine blk_far ?_ NB103_101.out _; (with_reducible repeat (first | refine blk_drewN ?_ _ | refine blk_drew ?_ | refine blk_alloc ?_ _)); refine blk_far ?_ NB103_101.out _; (with_reducible repeat (first | refine blk_drewN ?_ _ | refine blk_drew ?_ | refine blk_alloc ?_ _)); refine blk_far ?_ NB103_101.out _; (with_reducible repeat (first | refine blk_drewN ?_ _ | refine blk_drew ?_ | refine blk_alloc ?_ _)); exact BK103.out⟩
          have n3_ : Aside0 (Below w.heap.size w ((((((((((((w17.setCell ⟨gb101, 0, none⟩ (.int .i64 t105)).setCell ⟨gb101, 1, none⟩ (.int .i64 t106)).setCell ⟨gb101, 2, none⟩ (.int .i64 t107)).setCell ⟨gb101, 3, none⟩ (.int .i64 t108)).setCell ⟨gb102, 0, none⟩ (.int .i64 t109)).setCell ⟨gb102, 1, none⟩ (.int .i64 t110)).setCell ⟨gb102, 2, none⟩ (.int .i64 t111)).setCell ⟨gb102, 3, none⟩ (.int .i64 t112)).setCell ⟨gb103, 0, none⟩ (.int .i64 t113)).setCell ⟨gb103, 1, none⟩ (.int .i64 t114)).setCell ⟨gb103, 2, none⟩ (.int .i64 t115)).setCell ⟨gb103, 3, none⟩ (.int .i64 t116))) := ⟨by repeat (first | (with_reducible first | exact HB.out | apply below_alloc | apply pw_below_drewN | apply below_drew1 | refine below_set ?_ GE101.out | refine below_set ?_ GE102.out | refine below_set ?_ GE103.out) | exact HB.out)⟩
          (try clear BK101)
          (try clear BK102)
          (try clear BK103)
          (try clear HB)
          generalize ((((((((((((w17.setCell ⟨gb101, 0, none⟩ (.int .i64 t105)).setCell ⟨gb101, 1, none⟩ (.int .i64 t106)).setCell ⟨gb101, 2, none⟩ (.int .i64 t107)).setCell ⟨gb101, 3, none⟩ (.int .i64 t108)).setCell ⟨gb102, 0, none⟩ (.int .i64 t109)).setCell ⟨gb102, 1, none⟩ (.int .i64 t110)).setCell ⟨gb102, 2, none⟩ (.int .i64 t111)).setCell ⟨gb102, 3, none⟩ (.int .i64 t112)).setCell ⟨gb103, 0, none⟩ (.int .i64 t113)).setCell ⟨gb103, 1, none⟩ (.int .i64 t114)).setCell ⟨gb103, 2, none⟩ (.int .i64 t115)).setCell ⟨gb103, 3, none⟩ (.int .i64 t116)) = w35 at n0_ n1_ n2_ n3_ ⊢
          have BK101 := n0_
          have BK102 := n1_
          have BK103 := n2_
          have HB := n3_
          clear n0_ n1_ n2_ n3_
          have n0_ := Aside0.mk (blk_drew BK101.out)
          have n1_ := Aside0.mk (blk_drew BK102.out)
          have n2_ := Aside0.mk (blk_drew BK103.out)
          have n3_ := Aside0.mk (below_drew1 HB.out)
          clear BK101
          clear BK102
          clear BK103
          clear HB
          have BK101 := n0_
          have BK102 := n1_
          have BK103 := n2_
          have HB := n3_
          clear n0_ n1_ n2_ n3_
          refine start_ (n := 17) (S := fun w' => w'.cell? ⟨gb101, 0, none⟩ = some (.int .i64 t105) ∧ w'.cell? ⟨gb101, 1, none⟩ = some (.int .i64 t106) ∧ w'.cell? ⟨gb101, 2, none⟩ = some (.int .i64 t107) ∧ w'.cell? ⟨gb101, 3, none⟩ = some (.int .i64 t108) ∧ w'.cell? ⟨gb102, 0, none⟩ = some (.int .i64 t109) ∧ w'.cell? ⟨gb102, 1, none⟩ = some (.int .i64 t110) ∧ w'.cell? ⟨gb102, 2, none⟩ = some (.int .i64 t111) ∧ w'.cell? ⟨gb102, 3, none⟩ = some (.int .i64 t112)) (ds := []) #[false, false, false, false, false, false, false, false, false, false, false, false, false, false, false, false, false] (by kernel_rfl) rfl rfl ⟨(blk_cell BK101.out 0).trans rfl, (blk_cell BK101.out 1).trans rfl, (blk_cell BK101.out 2).trans rfl, (blk_cell BK101.out 3).trans rfl, (blk_cell BK102.out 0).trans rfl, (blk_cell BK102.out 1).trans rfl, (blk_cell BK102.out 2).trans rfl, (blk_cell BK102.out 3).trans rfl⟩ (fun hHeld => ?_); refine with_tabW donjonlaw4_LabelLess.tab4 donjonlaw4_LabelLess.bits4 (fun HT_ HW_ => ?_)
          generalize w35.drew = w36 at BK101 BK102 BK103 HB hHeld ⊢
          refine take_ (i := 0) (N := some 15) (v := ?_) (a' := ?_) #[true, false, false, false, false, false, false, false, false, false, false, false, false, false, false, false, false] rfl rfl (take_ofW HT_.out HW_.out (by kernel_rfl)) (fun _ _ _ h => h) (Or.inl ⟨by rfl, ?_⟩) hHeld ?_ ?_
          rotate_left
          · rintro w' ⟨s0, s1, s2, s3, s4, s5, s6, s7⟩
            go_simp
            with_reducible rfl
          rotate_left
          · simp only [Act.put, List.setIfInBounds_toArray, List.set_cons_zero, List.set_cons_succ, i64_w, i32_w]
            rfl
          refine take_ (i := 1) (N := some 16) (v := ?_) (a' := ?_) #[true, true, false, false, false, false, false, false, false, false, false, false, false, false, false, false, false] rfl rfl (take_ofW HT_.out HW_.out (by kernel_rfl)) (fun _ _ _ h => h) (Or.inl ⟨by rfl, ?_⟩) hHeld ?_ ?_
          rotate_left
          · rintro w' ⟨s0, s1, s2, s3, s4, s5, s6, s7⟩
            go_simp
            with_reducible rfl
          rotate_left
          · simp only [Act.put, List.setIfInBounds_toArray, List.set_cons_zero, List.set_cons_succ, i64_w, i32_w]
            rfl
          refine pure_ (i := 2) (N := some 17) (v := ?_) (a' := ?_) #[true, true, true, false, false, false, false, false, false, false, false, false, false, false, false, false, false] rfl rfl (any_of HT_.out (by kernel_rfl)) (fun _ _ _ h => h) (Or.inl ⟨by rfl, ?_⟩) ?_ ?_
          rotate_left
          · intro w'
            go_simp
            with_reducible rfl
          rotate_left
          · simp only [Act.put, List.setIfInBounds_toArray, List.set_cons_zero, List.set_cons_succ, i64_w, i32_w]
            rfl
          refine pure_ (i := 3) (N := some 18) (v := ?_) (a' := ?_) #[true, true, true, true, false, false, false, false, false, false, false, false, false, false, false, false, false] rfl rfl (any_of HT_.out (by kernel_rfl)) (fun _ _ _ h => h) (Or.inl ⟨by rfl, ?_⟩) ?_ ?_
          rotate_left
          · intro w'
            go_simp
            with_reducible rfl
          rotate_left
          · simp only [Act.put, List.setIfInBounds_toArray, List.set_cons_zero, List.set_cons_succ, i64_w, i32_w]
            rfl
          refine take_ (i := 4) (N := some 19) (v := ?_) (a' := ?_) #[true, true, true, true, true, false, false, false, false, false, false, false, false, false, false, false, false] rfl rfl (take_ofW HT_.out HW_.out (by kernel_rfl)) (fun _ _ _ h => h) (Or.inl ⟨by rfl, ?_⟩) hHeld ?_ ?_
          rotate_left
          · rintro w' ⟨s0, s1, s2, s3, s4, s5, s6, s7⟩
            go_simp
            with_reducible rfl
          rotate_left
          · simp only [Act.put, List.setIfInBounds_toArray, List.set_cons_zero, List.set_cons_succ, i64_w, i32_w]
            rfl
          refine take_ (i := 5) (N := some 20) (v := ?_) (a' := ?_) #[true, true, true, true, true, true, false, false, false, false, false, false, false, false, false, false, false] rfl rfl (take_ofW HT_.out HW_.out (by kernel_rfl)) (fun _ _ _ h => h) (Or.inl ⟨by rfl, ?_⟩) hHeld ?_ ?_
          rotate_left
          · rintro w' ⟨s0, s1, s2, s3, s4, s5, s6, s7⟩
            go_simp
            with_reducible rfl
          rotate_left
          · simp only [Act.put, List.setIfInBounds_toArray, List.set_cons_zero, List.set_cons_succ, i64_w, i32_w]
            rfl
          refine take_ (i := 7) (N := some 22) (v := ?_) (a' := ?_) #[true, true, true, true, true, true, false, true, false, false, false, false, false, false, false, false, false] rfl rfl (take_ofW HT_.out HW_.out (by kernel_rfl)) (fun _ _ _ h => h) (Or.inl ⟨by rfl, ?_⟩) hHeld ?_ ?_
          rotate_left
          · rintro w' ⟨s0, s1, s2, s3, s4, s5, s6, s7⟩
            go_simp
            with_reducible rfl
          rotate_left
          · simp only [Act.put, List.setIfInBounds_toArray, List.set_cons_zero, List.set_cons_succ, i64_w, i32_w]
            rfl
          refine take_ (i := 8) (N := some 23) (v := ?_) (a' := ?_) #[true, true, true, true, true, true, false, true, true, false, false, false, false, false, false, false, false] rfl rfl (take_ofW HT_.out HW_.out (by kernel_rfl)) (fun _ _ _ h => h) (Or.inl ⟨by rfl, ?_⟩) hHeld ?_ ?_
          rotate_left
          · rintro w' ⟨s0, s1, s2, s3, s4, s5, s6, s7⟩
            go_simp
            with_reducible rfl
          rotate_left
          · simp only [Act.put, List.setIfInBounds_toArray, List.set_cons_zero, List.set_cons_succ, i64_w, i32_w]
            rfl
          refine one_ (i := 6) (N := some 21) #[true, true, true, true, true, true, true, true, true, false, false, false, false, false, false, false, false] rfl rfl (one_of HT_.out (by kernel_rfl)) (by decide) (fun K hK => ?_)
          refine goes_ Tryd.func20 (by kernel_rfl) rfl #[.agg #[.int .i64 t105, .int .i64 t106, .int .i64 t107, .int .i64 t108], .agg #[.int .i64 t109, .int .i64 t110, .int .i64 t111, .int .i64 t112]] (by rfl) rfl rfl (by (try simp only [List.map_toArray, List.map_cons, List.map_nil]); first | done | rfl | (simp only [List.length_drop, List.length_take]; rfl)) ?_
          with_reducible refine (label_Less.calls t105 t106 t107 t108 t109 t110 t111 t112 t117 _ A31.out).mono ?_
          rintro e w37 ⟨rfl, hb⟩
          refine ⟨_, rfl, ?_⟩
          have n0_ := Aside0.mk (blk_below (g := gb101) (o := .cells #[.int .i64 t105, .int .i64 t106, .int .i64 t107, .int .i64 t108] 23 (0, 0)) (by (with_reducible repeat (first | refine blk_drewN ?_ _ | refine blk_drew ?_ | refine blk_alloc ?_ _)); exact BK101.out) hb)
          have n1_ := Aside0.mk (blk_below (g := gb102) (o := .cells #[.int .i64 t109, .int .i64 t110, .int .i64 t111, .int .i64 t112] 23 (0, 0)) (by (with_reducible repeat (first | refine blk_drewN ?_ _ | refine blk_drew ?_ | refine blk_alloc ?_ _)); exact BK102.out) hb)
          have n2_ := Aside0.mk (blk_below (g := gb103) (o := .cells #[.int .i64 t113, .int .i64 t114, .int .i64 t115, .int .i64 t116] 23 (0, 0)) (by (with_reducible repeat (first | refine blk_drewN ?_ _ | refine blk_drew ?_ | refine blk_alloc ?_ _)); exact BK103.out) hb)
          have n3_ := Aside0.mk (below_step (by repeat (first | (with_reducible first | exact HB.out | apply below_alloc | apply pw_below_drewN | apply below_drew1 | refine below_set ?_ GE101.out | refine below_set ?_ GE102.out | refine below_set ?_ GE103.out) | exact HB.out)) hb)
          clear BK101
          clear BK102
          clear BK103
          clear HB
          have BK101 := n0_
          have BK102 := n1_
          have BK103 := n2_
          have HB := n3_
          clear n0_ n1_ n2_ n3_
          (try clear hb)
          (try clear hb2)
          (try clear hk)
          (try clear hi)
          refine hK.out _ _ ⟨(blk_cell BK101.out 0).trans rfl, (blk_cell BK101.out 1).trans rfl, (blk_cell BK101.out 2).trans rfl, (blk_cell BK101.out 3).trans rfl, (blk_cell BK102.out 0).trans rfl, (blk_cell BK102.out 1).trans rfl, (blk_cell BK102.out 2).trans rfl, (blk_cell BK102.out 3).trans rfl⟩ (fun hHeld => ?_)
          clear hK K
          refine norm_ (a' := ?_) ?_ ?_
          rotate_left
          · show Act.put _ (some 21) _ = _
            simp only [Act.put, List.setIfInBounds_toArray, List.set_cons_zero, List.set_cons_succ, i64_w, i32_w]
            rfl
          refine one_ (i := 9) (N := some 24) #[true, true, true, true, true, true, true, true, true, true, false, false, false, false, false, false, false] rfl rfl (one_of HT_.out (by kernel_rfl)) (by decide) (fun K hK => ?_)
          refine goes_ Tryd.func20 (by kernel_rfl) rfl #[.agg #[.int .i64 t109, .int .i64 t110, .int .i64 t111, .int .i64 t112], .agg #[.int .i64 t105, .int .i64 t106, .int .i64 t107, .int .i64 t108]] (by rfl) rfl rfl (by (try simp only [List.map_toArray, List.map_cons, List.map_nil]); first | done | rfl | (simp only [List.length_drop, List.length_take]; rfl)) ?_
          with_reducible refine (label_Less.calls t109 t110 t111 t112 t105 t106 t107 t108 t118 _ A32.out).mono ?_
          rintro e w38 ⟨rfl, hb⟩
          refine ⟨_, rfl, ?_⟩
          have n0_ := Aside0.mk (blk_below (g := gb101) (o := .cells #[.int .i64 t105, .int .i64 t106, .int .i64 t107, .int .i64 t108] 23 (0, 0)) (by (with_reducible repeat (first | refine blk_drewN ?_ _ | refine blk_drew ?_ | refine blk_alloc ?_ _)); exact BK101.out) hb)
          have n1_ := Aside0.mk (blk_below (g := gb102) (o := .cells #[.int .i64 t109, .int .i64 t110, .int .i64 t111, .int .i64 t112] 23 (0, 0)) (by (with_reducible repeat (first | refine blk_drewN ?_ _ | refine blk_drew ?_ | refine blk_alloc ?_ _)); exact BK102.out) hb)
          have n2_ := Aside0.mk (blk_below (g := gb103) (o := .cells #[.int .i64 t113, .int .i64 t114, .int .i64 t115, .int .i64 t116] 23 (0, 0)) (by (with_reducible repeat (first | refine blk_drewN ?_ _ | refine blk_drew ?_ | refine blk_alloc ?_ _)); exact BK103.out) hb)
          have n3_ := Aside0.mk (below_step (by repeat (first | (with_reducible first | exact HB.out | apply below_alloc | apply pw_below_drewN | apply below_drew1 | refine below_set ?_ GE101.out | refine below_set ?_ GE102.out | refine below_set ?_ GE103.out) | exact HB.out)) hb)
          clear BK101
          clear BK102
          clear BK103
          clear HB
          have BK101 := n0_
          have BK102 := n1_
          have BK103 := n2_
          have HB := n3_
          clear n0_ n1_ n2_ n3_
          (try clear hb)
          (try clear hb2)
          (try clear hk)
          (try clear hi)
          refine hK.out _ _ ⟨(blk_cell BK101.out 0).trans rfl, (blk_cell BK101.out 1).trans rfl, (blk_cell BK101.out 2).trans rfl, (blk_cell BK101.out 3).trans rfl, (blk_cell BK102.out 0).trans rfl, (blk_cell BK102.out 1).trans rfl, (blk_cell BK102.out 2).trans rfl, (blk_cell BK102.out 3).trans rfl⟩ (fun hHeld => ?_)
          clear hK K
          refine norm_ (a' := ?_) ?_ ?_
          rotate_left
          · show Act.put _ (some 24) _ = _
            simp only [Act.put, List.setIfInBounds_toArray, List.set_cons_zero, List.set_cons_succ, i64_w, i32_w]
            rfl
          refine pure_ (i := 10) (N := some 25) (v := ?_) (a' := ?_) #[true, true, true, true, true, true, true, true, true, true, true, false, false, false, false, false, false] rfl rfl (any_of HT_.out (by kernel_rfl)) (fun _ _ _ h => h) (Or.inl ⟨by rfl, ?_⟩) ?_ ?_
          rotate_left
          · intro w'
            go_simp
            with_reducible rfl
          rotate_left
          · simp only [Act.put, List.setIfInBounds_toArray, List.set_cons_zero, List.set_cons_succ, i64_w, i32_w]
            rfl
          refine pure_ (i := 11) (N := some 26) (v := ?_) (a' := ?_) #[true, true, true, true, true, true, true, true, true, true, true, true, false, false, false, false, false] rfl rfl (any_of HT_.out (by kernel_rfl)) (fun _ _ _ h => h) (Or.inl ⟨by rfl, ?_⟩) ?_ ?_
          rotate_left
          · intro w'
            go_simp
            with_reducible rfl
          rotate_left
          · simp only [Act.put, List.setIfInBounds_toArray, List.set_cons_zero, List.set_cons_succ, i64_w, i32_w]
            rfl
          refine pure_ (i := 12) (N := some 27) (v := ?_) (a' := ?_) #[true, true, true, true, true, true, true, true, true, true, true, true, true, false, false, false, false] rfl rfl (any_of HT_.out (by kernel_rfl)) (fun _ _ _ h => h) (Or.inl ⟨by rfl, ?_⟩) ?_ ?_
          rotate_left
          · intro w'
            go_simp
            with_reducible rfl
          rotate_left
          · simp only [Act.put, List.setIfInBounds_toArray, List.set_cons_zero, List.set_cons_succ, i64_w, i32_w]
            rfl
          refine take_ (i := 13) (N := some 28) (v := ?_) (a' := ?_) #[true, true, true, true, true, true, true, true, true, true, true, true, true, true, false, false, false] rfl rfl (take_ofW HT_.out HW_.out (by kernel_rfl)) (fun _ _ _ h => h) (Or.inl ⟨by rfl, ?_⟩) hHeld ?_ ?_
          rotate_left
          · rintro w' ⟨s0, s1, s2, s3, s4, s5, s6, s7⟩
            go_simp
            with_reducible rfl
          rotate_left
          · simp only [Act.put, List.setIfInBounds_toArray, List.set_cons_zero, List.set_cons_succ, i64_w, i32_w]
            rfl
          refine take_ (i := 14) (N := some 29) (v := ?_) (a' := ?_) #[true, true, true, true, true, true, true, true, true, true, true, true, true, true, true, false, false] rfl rfl (take_ofW HT_.out HW_.out (by kernel_rfl)) (fun _ _ _ h => h) (Or.inl ⟨by rfl, ?_⟩) hHeld ?_ ?_
          rotate_left
          · rintro w' ⟨s0, s1, s2, s3, s4, s5, s6, s7⟩
            go_simp
            with_reducible rfl
          rotate_left
          · simp only [Act.put, List.setIfInBounds_toArray, List.set_cons_zero, List.set_cons_succ, i64_w, i32_w]
            rfl
          refine one_ (i := 15) (N := some 30) #[true, true, true, true, true, true, true, true, true, true, true, true, true, true, true, true, false] rfl rfl (one_of HT_.out (by kernel_rfl)) (by decide) (fun K hK => ?_)
          refine goes_ Tryd.func20 (by kernel_rfl) rfl #[.agg #[.int .i64 t105, .int .i64 t106, .int .i64 t107, .int .i64 t108], .agg #[.int .i64 t105, .int .i64 t106, .int .i64 t107, .int .i64 t108]] (by rfl) rfl rfl (by (try simp only [List.map_toArray, List.map_cons, List.map_nil]); first | done | rfl | (simp only [List.length_drop, List.length_take]; rfl)) ?_
          with_reducible refine (label_Less.calls t105 t106 t107 t108 t105 t106 t107 t108 t119 _ A34.out).mono ?_
          rintro e w39 ⟨rfl, hb⟩
          refine ⟨_, rfl, ?_⟩
          have n0_ := Aside0.mk (blk_below (g := gb101) (o := .cells #[.int .i64 t105, .int .i64 t106, .int .i64 t107, .int .i64 t108] 23 (0, 0)) (by (with_reducible repeat (first | refine blk_drewN ?_ _ | refine blk_drew ?_ | refine blk_alloc ?_ _)); exact BK101.out) hb)
          have n1_ := Aside0.mk (blk_below (g := gb102) (o := .cells #[.int .i64 t109, .int .i64 t110, .int .i64 t111, .int .i64 t112] 23 (0, 0)) (by (with_reducible repeat (first | refine blk_drewN ?_ _ | refine blk_drew ?_ | refine blk_alloc ?_ _)); exact BK102.out) hb)
          have n2_ := Aside0.mk (blk_below (g := gb103) (o := .cells #[.int .i64 t113, .int .i64 t114, .int .i64 t115, .int .i64 t116] 23 (0, 0)) (by (with_reducible repeat (first | refine blk_drewN ?_ _ | refine blk_drew ?_ | refine blk_alloc ?_ _)); exact BK103.out) hb)
          have n3_ := Aside0.mk (below_step (by repeat (first | (with_reducible first | exact HB.out | apply below_alloc | apply pw_below_drewN | apply below_drew1 | refine below_set ?_ GE101.out | refine below_set ?_ GE102.out | refine below_set ?_ GE103.out) | exact HB.out)) hb)
          clear BK101
          clear BK102
          clear BK103
          clear HB
          have BK101 := n0_
          have BK102 := n1_
          have BK103 := n2_
          have HB := n3_
          clear n0_ n1_ n2_ n3_
          (try clear hb)
          (try clear hb2)
          (try clear hk)
          (try clear hi)
          refine hK.out _ _ ⟨(blk_cell BK101.out 0).trans rfl, (blk_cell BK101.out 1).trans rfl, (blk_cell BK101.out 2).trans rfl, (blk_cell BK101.out 3).trans rfl, (blk_cell BK102.out 0).trans rfl, (blk_cell BK102.out 1).trans rfl, (blk_cell BK102.out 2).trans rfl, (blk_cell BK102.out 3).trans rfl⟩ (fun hHeld => ?_)
          clear hK K
          refine norm_ (a' := ?_) ?_ ?_
          rotate_left
          · show Act.put _ (some 30) _ = _
            simp only [Act.put, List.setIfInBounds_toArray, List.set_cons_zero, List.set_cons_succ, i64_w, i32_w]
            rfl
          refine pure_ (i := 16) (N := some 31) (v := ?_) (a' := ?_) #[true, true, true, true, true, true, true, true, true, true, true, true, true, true, true, true, true] rfl rfl (any_of HT_.out (by kernel_rfl)) (fun _ _ _ h => h) (Or.inl ⟨by rfl, ?_⟩) ?_ ?_
          rotate_left
          · intro w'
            go_simp
            with_reducible rfl
          rotate_left
          · simp only [Act.put, List.setIfInBounds_toArray, List.set_cons_zero, List.set_cons_succ, i64_w, i32_w]
            rfl
          refine done_ (done_of HT_.out (by kernel_rfl)) ?_
          try go_wp2
          go_meet
          case rel => exact ⟨_, (t119), (by first | rfl | (simp; done) | (simp [*]; done)), H', ⟨by first | omega | exact Nat.le_refl _⟩, ⟨by (with_reducible repeat (first | refine blk_drewN ?_ _ | refine blk_drew ?_ | refine blk_alloc ?_ _)); exact BK101.out⟩, ⟨by (with_reducible repeat (first | refine blk_drewN ?_ _ | refine blk_drew ?_ | refine blk_alloc ?_ _)); exact BK102.out⟩, ⟨by (with_reducible repeat (first | refine blk_drewN ?_ _ | refine blk_drew ?_ | refine blk_alloc ?_ _)); exact BK103.out⟩, ⟨by repeat (first | (with_reducible first | exact HB.out | apply below_alloc | apply pw_below_drewN | apply below_drew1 | refine below_set ?_ GE101.out | refine below_set ?_ GE102.out | refine below_set ?_ GE103.out) | exact HB.out)⟩⟩
      · rw [if_neg c30] at H
        have c30b0 : (!(t105 == t109) || (!(t106 == t110) || (!(t107 == t111) || (!(t108 == t112))))) = false := by simpa using c30
        clear c30
        (first | rw [c30b0] | (simp only [i64_w, i32_w]; rw [c30b0]) | skip)
        replace H := Option.bind_eq_some_iff.mp H
        obtain ⟨t120, A400, H⟩ := H
        replace H : (donjonlaw4_LabelLess.j0 k t120 t105 t106 t107 t108 t109 t110 t111 t112 t113 t114 t115 t116) = some r := H
        have A40 := Aside0.mk A400
        clear A400
        have H' := Aside0.mk H
        clear H
        try go_wp2
        have n0_ : Aside0 (((((((((((((w17.setCell ⟨gb101, 0, none⟩ (.int .i64 t105)).setCell ⟨gb101, 1, none⟩ (.int .i64 t106)).setCell ⟨gb101, 2, none⟩ (.int .i64 t107)).setCell ⟨gb101, 3, none⟩ (.int .i64 t108)).setCell ⟨gb102, 0, none⟩ (.int .i64 t109)).setCell ⟨gb102, 1, none⟩ (.int .i64 t110)).setCell ⟨gb102, 2, none⟩ (.int .i64 t111)).setCell ⟨gb102, 3, none⟩ (.int .i64 t112)).setCell ⟨gb103, 0, none⟩ (.int .i64 t113)).setCell ⟨gb103, 1, none⟩ (.int .i64 t114)).setCell ⟨gb103, 2, none⟩ (.int .i64 t115)).setCell ⟨gb103, 3, none⟩ (.int .i64 t116)).heap[gb101]? = some (.cells #[.int .i64 t105, .int .i64 t106, .int .i64 t107, .int .i64 t108] 23 (0, 0))) := ⟨by (with_reducible repeat (first | refine blk_drewN ?_ _ | refine blk_drew ?_ | refine blk_alloc ?_ _)); refine blk_far ?_ NB101_103.out _; (with_reducible repeat (first | refine blk_drewN ?_ _ | refine blk_drew ?_ | refine blk_alloc ?_ _)); refine blk_far ?_ NB101_103.out _; (with_reducible repeat (first | refine blk_drewN ?_ _ | refine blk_drew ?_ | refine blk_alloc ?_ _)); refine blk_far ?_ NB101_103.out _; (with_reducible repeat (first | refine blk_drewN ?_ _ | refine blk_drew ?_ | refine blk_alloc ?_ _)); refine blk_far ?_ NB101_103.out _; (with_reducible repeat (first | refine blk_drewN ?_ _ | refine blk_drew ?_ | refine blk_alloc ?_ _)); refine blk_far ?_ NB101_102.out _; (with_reducible repeat (first | refine blk_drewN ?_ _ | refine blk_drew ?_ | refine blk_alloc ?_ _)); refine blk_far ?_ NB101_102.out _; (with_reducible repeat (first | refine blk_drewN ?_ _ | refine blk_drew ?_ | refine blk_alloc ?_ _)); refine blk_far ?_ NB101_102.out _; (with_reducible repeat (first | refine blk_drewN ?_ _ | refine blk_drew ?_ | refine blk_alloc ?_ _)); refine blk_far ?_ NB101_102.out _; (with_reducible repeat (first | refine blk_drewN ?_ _ | refine blk_drew ?_ | refine blk_alloc ?_ _)); refine blk_put (cs := #[.int .i64 t105, .int .i64 t106, .int .i64 t107, .int .i64 a0_3]) ?_ 3 _ rfl; (with_reducible repeat (first | refine blk_drewN ?_ _ | refine blk_drew ?_ | refine blk_alloc ?_ _)); refine blk_put (cs := #[.int .i64 t105, .int .i64 t106, .int .i64 a0_2, .int .i64 a0_3]) ?_ 2 _ rfl; (with_reducible repeat (first | refine blk_drewN ?_ _ | refine blk_drew ?_ | refine blk_alloc ?_ _)); refine blk_put (cs := #[.int .i64 t105, .int .i64 a0_1, .int .i64 a0_2, .int .i64 a0_3]) ?_ 1 _ rfl; (with_reducible repeat (first | refine blk_drewN ?_ _ | refine blk_drew ?_ | refine blk_alloc ?_ _)); refine blk_put (cs := #[.int .i64 a0_0, .int .i64 a0_1, .int .i64 a0_2, .int .i64 a0_3]) ?_ 0 _ rfl; (with_reducible repeat (first | refine blk_drewN ?_ _ | refine blk_drew ?_ | refine blk_alloc ?_ _)); exact BK101.out⟩
        have n1_ : Aside0 (((((((((((((w17.setCell ⟨gb101, 0, none⟩ (.int .i64 t105)).setCell ⟨gb101, 1, none⟩ (.int .i64 t106)).setCell ⟨gb101, 2, none⟩ (.int .i64 t107)).setCell ⟨gb101, 3, none⟩ (.int .i64 t108)).setCell ⟨gb102, 0, none⟩ (.int .i64 t109)).setCell ⟨gb102, 1, none⟩ (.int .i64 t110)).setCell ⟨gb102, 2, none⟩ (.int .i64 t111)).setCell ⟨gb102, 3, none⟩ (.int .i64 t112)).setCell ⟨gb103, 0, none⟩ (.int .i64 t113)).setCell ⟨gb103, 1, none⟩ (.int .i64 t114)).setCell ⟨gb103, 2, none⟩ (.int .i64 t115)).setCell ⟨gb103, 3, none⟩ (.int .i64 t116)).heap[gb102]? = some (.cells #[.int .i64 t109, .int .i64 t110, .int .i64 t111, .int .i64 t112] 23 (0, 0))) := ⟨by (with_reducible repeat (first | refine blk_drewN ?_ _ | refine blk_drew ?_ | refine blk_alloc ?_ _)); refine blk_far ?_ NB102_103.out _; (with_reducible repeat (first | refine blk_drewN ?_ _ | refine blk_drew ?_ | refine blk_alloc ?_ _)); refine blk_far ?_ NB102_103.out _; (with_reducible repeat (first | refine blk_drewN ?_ _ | refine blk_drew ?_ | refine blk_alloc ?_ _)); refine blk_far ?_ NB102_103.out _; (with_reducible repeat (first | refine blk_drewN ?_ _ | refine blk_drew ?_ | refine blk_alloc ?_ _)); refine blk_far ?_ NB102_103.out _; (with_reducible repeat (first | refine blk_drewN ?_ _ | refine blk_drew ?_ | refine blk_alloc ?_ _)); refine blk_put (cs := #[.int .i64 t109, .int .i64 t110, .int .i64 t111, .int .i64 a1_3]) ?_ 3 _ rfl; (with_reducible repeat (first | refine blk_drewN ?_ _ | refine blk_drew ?_ | refine blk_alloc ?_ _)); refine blk_put (cs := #[.int .i64 t109, .int .i64 t110, .int .i64 a1_2, .int .i64 a1_3]) ?_ 2 _ rfl; (with_reducible repeat (first | refine blk_drewN ?_ _ | refine blk_drew ?_ | refine blk_alloc ?_ _)); refine blk_put (cs := #[.int .i64 t109, .int .i64 a1_1, .int .i64 a1_2, .int .i64 a1_3]) ?_ 1 _ rfl; (with_reducible repeat (first | refine blk_drewN ?_ _ | refine blk_drew ?_ | refine blk_alloc ?_ _)); refine blk_put (cs := #[.int .i64 a1_0, .int .i64 a1_1, .int .i64 a1_2, .int .i64 a1_3]) ?_ 0 _ rfl; (with_reducible repeat (first | refine blk_drewN ?_ _ | refine blk_drew ?_ | refine blk_alloc ?_ _)); refine blk_far ?_ NB102_101.out _; (with_reducible repeat (first | refine blk_drewN ?_ _ | refine blk_drew ?_ | refine blk_alloc ?_ _)); refine blk_far ?_ NB102_101.out _; (with_reducible repeat (first | refine blk_drewN ?_ _ | refine blk_drew ?_ | refine blk_alloc ?_ _)); refine blk_far ?_ NB102_101.out _; (with_reducible repeat (first | refine blk_drewN ?_ _ | refine blk_drew ?_ | refine blk_alloc ?_ _)); refine blk_far ?_ NB102_101.out _; (with_reducible repeat (first | refine blk_drewN ?_ _ | refine blk_drew ?_ | refine blk_alloc ?_ _)); exact BK102.out⟩
        have n2_ : Aside0 (((((((((((((w17.setCell ⟨gb101, 0, none⟩ (.int .i64 t105)).setCell ⟨gb101, 1, none⟩ (.int .i64 t106)).setCell ⟨gb101, 2, none⟩ (.int .i64 t107)).setCell ⟨gb101, 3, none⟩ (.int .i64 t108)).setCell ⟨gb102, 0, none⟩ (.int .i64 t109)).setCell ⟨gb102, 1, none⟩ (.int .i64 t110)).setCell ⟨gb102, 2, none⟩ (.int .i64 t111)).setCell ⟨gb102, 3, none⟩ (.int .i64 t112)).setCell ⟨gb103, 0, none⟩ (.int .i64 t113)).setCell ⟨gb103, 1, none⟩ (.int .i64 t114)).setCell ⟨gb103, 2, none⟩ (.int .i64 t115)).setCell ⟨gb103, 3, none⟩ (.int .i64 t116)).heap[gb103]? = some (.cells #[.int .i64 t113, .int .i64 t114, .int .i64 t115, .int .i64 t116] 23 (0, 0))) := ⟨by (with_reducible repeat (first | refine blk_drewN ?_ _ | refine blk_drew ?_ | refine blk_alloc ?_ _)); refine blk_put (cs := #[.int .i64 t113, .int .i64 t114, .int .i64 t115, .int .i64 a2_3]) ?_ 3 _ rfl; (with_reducible repeat (first | refine blk_drewN ?_ _ | refine blk_drew ?_ | refine blk_alloc ?_ _)); refine blk_put (cs := #[.int .i64 t113, .int .i64 t114, .int .i64 a2_2, .int .i64 a2_3]) ?_ 2 _ rfl; (with_reducible repeat (first | refine blk_drewN ?_ _ | refine blk_drew ?_ | refine blk_alloc ?_ _)); refine blk_put (cs := #[.int .i64 t113, .int .i64 a2_1, .int .i64 a2_2, .int .i64 a2_3]) ?_ 1 _ rfl; (with_reducible repeat (first | refine blk_drewN ?_ _ | refine blk_drew ?_ | refine blk_alloc ?_ _)); refine blk_put (cs := #[.int .i64 a2_0, .int .i64 a2_1, .int .i64 a2_2, .int .i64 a2_3]) ?_ 0 _ rfl; (with_reducible repeat (first | refine blk_drewN ?_ _ | refine blk_drew ?_ | refine blk_alloc ?_ _)); refine blk_far ?_ NB103_102.out _; (with_reducible repeat (first | refine blk_drewN ?_ _ | refine blk_drew ?_ | refine blk_alloc ?_ _)); refine blk_far ?_ NB103_102.out _; (with_reducible repeat (first | refine blk_drewN ?_ _ | refine blk_drew ?_ | refine blk_alloc ?_ _)); refine blk_far ?_ NB103_102.out _; (with_reducible repeat (first | refine blk_drewN ?_ _ | refine blk_drew ?_ | refine blk_alloc ?_ _)); refine blk_far ?_ NB103_102.out _; (with_reducible repeat (first | refine blk_drewN ?_ _ | refine blk_drew ?_ | refine blk_alloc ?_ _)); refine blk_far ?_ NB103_101.out _; (with_reducible repeat (first | refine blk_drewN ?_ _ | refine blk_drew ?_ | refine blk_alloc ?_ _)); refine blk_far ?_ NB103_101.out _; (with_reducible repeat (first | refine blk_drewN ?_ _ | refine blk_drew ?_ | refine blk_alloc ?_ _)); refine blk_far ?_ NB103_101.out _; (with_reducible repeat (first | refine blk_drewN ?_ _ | refine blk_drew ?_ | refine blk_alloc ?_ _)); refine blk_far ?_ NB103_101.out _; (with_reducible repeat (first | refine blk_drewN ?_ _ | refine blk_drew ?_ | refine blk_alloc ?_ _)); exact BK103.out⟩
        have n3_ : Aside0 (Below w.heap.size w ((((((((((((w17.setCell ⟨gb101, 0, none⟩ (.int .i64 t105)).setCell ⟨gb101, 1, none⟩ (.int .i64 t106)).setCell ⟨gb101, 2, none⟩ (.int .i64 t107)).setCell ⟨gb101, 3, none⟩ (.int .i64 t108)).setCell ⟨gb102, 0, none⟩ (.int .i64 t109)).setCell ⟨gb102, 1, none⟩ (.int .i64 t110)).setCell ⟨gb102, 2, none⟩ (.int .i64 t111)).setCell ⟨gb102, 3, none⟩ (.int .i64 t112)).setCell ⟨gb103, 0, none⟩ (.int .i64 t113)).setCell ⟨gb103, 1, none⟩ (.int .i64 t114)).setCell ⟨gb103, 2, none⟩ (.int .i64 t115)).setCell ⟨gb103, 3, none⟩ (.int .i64 t116))) := ⟨by repeat (first | (with_reducible first | exact HB.out | apply below_alloc | apply pw_below_drewN | apply below_drew1 | refine below_set ?_ GE101.out | refine below_set ?_ GE102.out | refine below_set ?_ GE103.out) | exact HB.out)⟩
        (try clear BK101)
        (try clear BK102)
        (try clear BK103)
        (try clear HB)
        generalize ((((((((((((w17.setCell ⟨gb101, 0, none⟩ (.int .i64 t105)).setCell ⟨gb101, 1, none⟩ (.int .i64 t106)).setCell ⟨gb101, 2, none⟩ (.int .i64 t107)).setCell ⟨gb101, 3, none⟩ (.int .i64 t108)).setCell ⟨gb102, 0, none⟩ (.int .i64 t109)).setCell ⟨gb102, 1, none⟩ (.int .i64 t110)).setCell ⟨gb102, 2, none⟩ (.int .i64 t111)).setCell ⟨gb102, 3, none⟩ (.int .i64 t112)).setCell ⟨gb103, 0, none⟩ (.int .i64 t113)).setCell ⟨gb103, 1, none⟩ (.int .i64 t114)).setCell ⟨gb103, 2, none⟩ (.int .i64 t115)).setCell ⟨gb103, 3, none⟩ (.int .i64 t116)) = w41 at n0_ n1_ n2_ n3_ ⊢
        have BK101 := n0_
        have BK102 := n1_
        have BK103 := n2_
        have HB := n3_
        clear n0_ n1_ n2_ n3_
        have n0_ := Aside0.mk (blk_drew BK101.out)
        have n1_ := Aside0.mk (blk_drew BK102.out)
        have n2_ := Aside0.mk (blk_drew BK103.out)
        have n3_ := Aside0.mk (below_drew1 HB.out)
        clear BK101
        clear BK102
        clear BK103
        clear HB
        have BK101 := n0_
        have BK102 := n1_
        have BK103 := n2_
        have HB := n3_
        clear n0_ n1_ n2_ n3_
        refine start_ (n := 17) (S := fun w' => w'.cell? ⟨gb101, 0, none⟩ = some (.int .i64 t105) ∧ w'.cell? ⟨gb101, 1, none⟩ = some (.int .i64 t106) ∧ w'.cell? ⟨gb101, 2, none⟩ = some (.int .i64 t107) ∧ w'.cell? ⟨gb101, 3, none⟩ = some (.int .i64 t108) ∧ w'.cell? ⟨gb102, 0, none⟩ = some (.int .i64 t109) ∧ w'.cell? ⟨gb102, 1, none⟩ = some (.int .i64 t110) ∧ w'.cell? ⟨gb102, 2, none⟩ = some (.int .i64 t111) ∧ w'.cell? ⟨gb102, 3, none⟩ = some (.int .i64 t112)) (ds := []) #[false, false, false, false, false, false, false, false, false, false, false, false, false, false, false, false, false] (by kernel_rfl) rfl rfl ⟨(blk_cell BK101.out 0).trans rfl, (blk_cell BK101.out 1).trans rfl, (blk_cell BK101.out 2).trans rfl, (blk_cell BK101.out 3).trans rfl, (blk_cell BK102.out 0).trans rfl, (blk_cell BK102.out 1).trans rfl, (blk_cell BK102.out 2).trans rfl, (blk_cell BK102.out 3).trans rfl⟩ (fun hHeld => ?_); refine with_tabW donjonlaw4_LabelLess.tab4 donjonlaw4_LabelLess.bits4 (fun HT_ HW_ => ?_)
        generalize w41.drew = w42 at BK101 BK102 BK103 HB hHeld ⊢
        refine take_ (i := 0) (N := some 15) (v := ?_) (a' := ?_) #[true, false, false, false, false, false, false, false, false, false, false, false, false, false, false, false, false] rfl rfl (take_ofW HT_.out HW_.out (by kernel_rfl)) (fun _ _ _ h => h) (Or.inl ⟨by rfl, ?_⟩) hHeld ?_ ?_
        rotate_left
        · rintro w' ⟨s0, s1, s2, s3, s4, s5, s6, s7⟩
          go_simp
          with_reducible rfl
        rotate_left
        · simp only [Act.put, List.setIfInBounds_toArray, List.set_cons_zero, List.set_cons_succ, i64_w, i32_w]
          rfl
        refine take_ (i := 1) (N := some 16) (v := ?_) (a' := ?_) #[true, true, false, false, false, false, false, false, false, false, false, false, false, false, false, false, false] rfl rfl (take_ofW HT_.out HW_.out (by kernel_rfl)) (fun _ _ _ h => h) (Or.inl ⟨by rfl, ?_⟩) hHeld ?_ ?_
        rotate_left
        · rintro w' ⟨s0, s1, s2, s3, s4, s5, s6, s7⟩
          go_simp
          with_reducible rfl
        rotate_left
        · simp only [Act.put, List.setIfInBounds_toArray, List.set_cons_zero, List.set_cons_succ, i64_w, i32_w]
          rfl
        refine pure_ (i := 2) (N := some 17) (v := ?_) (a' := ?_) #[true, true, true, false, false, false, false, false, false, false, false, false, false, false, false, false, false] rfl rfl (any_of HT_.out (by kernel_rfl)) (fun _ _ _ h => h) (Or.inl ⟨by rfl, ?_⟩) ?_ ?_
        rotate_left
        · intro w'
          go_simp
          with_reducible rfl
        rotate_left
        · simp only [Act.put, List.setIfInBounds_toArray, List.set_cons_zero, List.set_cons_succ, i64_w, i32_w]
          rfl
        refine pure_ (i := 3) (N := some 18) (v := ?_) (a' := ?_) #[true, true, true, true, false, false, false, false, false, false, false, false, false, false, false, false, false] rfl rfl (any_of HT_.out (by kernel_rfl)) (fun _ _ _ h => h) (Or.inl ⟨by rfl, ?_⟩) ?_ ?_
        rotate_left
        · intro w'
          go_simp
          with_reducible rfl
        rotate_left
        · simp only [Act.put, List.setIfInBounds_toArray, List.set_cons_zero, List.set_cons_succ, i64_w, i32_w]
          rfl
        refine pure_ (i := 4) (N := some 19) (v := undef) (a' := ?_) #[true, true, true, true, true, false, false, false, false, false, false, false, false, false, false, false, false] rfl rfl (any_of HT_.out (by kernel_rfl)) (fun _ _ _ h => h) (Or.inr ⟨by rfl, rfl⟩) ?_ ?_
        rotate_left
        · simp only [Act.put, List.setIfInBounds_toArray, List.set_cons_zero, List.set_cons_succ, i64_w, i32_w]
          rfl
        refine pure_ (i := 5) (N := some 20) (v := undef) (a' := ?_) #[true, true, true, true, true, true, false, false, false, false, false, false, false, false, false, false, false] rfl rfl (any_of HT_.out (by kernel_rfl)) (fun _ _ _ h => h) (Or.inr ⟨by rfl, rfl⟩) ?_ ?_
        rotate_left
        · simp only [Act.put, List.setIfInBounds_toArray, List.set_cons_zero, List.set_cons_succ, i64_w, i32_w]
          rfl
        refine pure_ (i := 6) (N := some 21) (v := undef) (a' := ?_) #[true, true, true, true, true, true, true, false, false, false, false, false, false, false, false, false, false] rfl rfl (any_of HT_.out (by kernel_rfl)) (fun _ _ _ h => h) (Or.inr ⟨by rfl, rfl⟩) ?_ ?_
        rotate_left
        · simp only [Act.put, List.setIfInBounds_toArray, List.set_cons_zero, List.set_cons_succ, i64_w, i32_w]
          rfl
        refine pure_ (i := 7) (N := some 22) (v := undef) (a' := ?_) #[true, true, true, true, true, true, true, true, false, false, false, false, false, false, false, false, false] rfl rfl (any_of HT_.out (by kernel_rfl)) (fun _ _ _ h => h) (Or.inr ⟨by rfl, rfl⟩) ?_ ?_
        rotate_left
        · simp only [Act.put, List.setIfInBounds_toArray, List.set_cons_zero, List.set_cons_succ, i64_w, i32_w]
          rfl
        refine pure_ (i := 8) (N := some 23) (v := undef) (a' := ?_) #[true, true, true, true, true, true, true, true, true, false, false, false, false, false, false, false, false] rfl rfl (any_of HT_.out (by kernel_rfl)) (fun _ _ _ h => h) (Or.inr ⟨by rfl, rfl⟩) ?_ ?_
        rotate_left
        · simp only [Act.put, List.setIfInBounds_toArray, List.set_cons_zero, List.set_cons_succ, i64_w, i32_w]
          rfl
        refine pure_ (i := 9) (N := some 24) (v := undef) (a' := ?_) #[true, true, true, true, true, true, true, true, true, true, false, false, false, false, false, false, false] rfl rfl (any_of HT_.out (by kernel_rfl)) (fun _ _ _ h => h) (Or.inr ⟨by rfl, rfl⟩) ?_ ?_
        rotate_left
        · simp only [Act.put, List.setIfInBounds_toArray, List.set_cons_zero, List.set_cons_succ, i64_w, i32_w]
          rfl
        refine pure_ (i := 10) (N := some 25) (v := undef) (a' := ?_) #[true, true, true, true, true, true, true, true, true, true, true, false, false, false, false, false, false] rfl rfl (any_of HT_.out (by kernel_rfl)) (fun _ _ _ h => h) (Or.inr ⟨by rfl, rfl⟩) ?_ ?_
        rotate_left
        · simp only [Act.put, List.setIfInBounds_toArray, List.set_cons_zero, List.set_cons_succ, i64_w, i32_w]
          rfl
        refine pure_ (i := 11) (N := some 26) (v := ?_) (a' := ?_) #[true, true, true, true, true, true, true, true, true, true, true, true, false, false, false, false, false] rfl rfl (any_of HT_.out (by kernel_rfl)) (fun _ _ _ h => h) (Or.inl ⟨by rfl, ?_⟩) ?_ ?_
        rotate_left
        · intro w'
          go_simp
          with_reducible rfl
        rotate_left
        · simp only [Act.put, List.setIfInBounds_toArray, List.set_cons_zero, List.set_cons_succ, i64_w, i32_w]
          rfl
        refine pure_ (i := 12) (N := some 27) (v := ?_) (a' := ?_) #[true, true, true, true, true, true, true, true, true, true, true, true, true, false, false, false, false] rfl rfl (any_of HT_.out (by kernel_rfl)) (fun _ _ _ h => h) (Or.inl ⟨by rfl, ?_⟩) ?_ ?_
        rotate_left
        · intro w'
          go_simp
          with_reducible rfl
        rotate_left
        · simp only [Act.put, List.setIfInBounds_toArray, List.set_cons_zero, List.set_cons_succ, i64_w, i32_w]
          rfl
        refine take_ (i := 13) (N := some 28) (v := ?_) (a' := ?_) #[true, true, true, true, true, true, true, true, true, true, true, true, true, true, false, false, false] rfl rfl (take_ofW HT_.out HW_.out (by kernel_rfl)) (fun _ _ _ h => h) (Or.inl ⟨by rfl, ?_⟩) hHeld ?_ ?_
        rotate_left
        · rintro w' ⟨s0, s1, s2, s3, s4, s5, s6, s7⟩
          go_simp
          with_reducible rfl
        rotate_left
        · simp only [Act.put, List.setIfInBounds_toArray, List.set_cons_zero, List.set_cons_succ, i64_w, i32_w]
          rfl
        refine take_ (i := 14) (N := some 29) (v := ?_) (a' := ?_) #[true, true, true, true, true, true, true, true, true, true, true, true, true, true, true, false, false] rfl rfl (take_ofW HT_.out HW_.out (by kernel_rfl)) (fun _ _ _ h => h) (Or.inl ⟨by rfl, ?_⟩) hHeld ?_ ?_
        rotate_left
        · rintro w' ⟨s0, s1, s2, s3, s4, s5, s6, s7⟩
          go_simp
          with_reducible rfl
        rotate_left
        · simp only [Act.put, List.setIfInBounds_toArray, List.set_cons_zero, List.set_cons_succ, i64_w, i32_w]
          rfl
        refine one_ (i := 15) (N := some 30) #[true, true, true, true, true, true, true, true, true, true, true, true, true, true, true, true, false] rfl rfl (one_of HT_.out (by kernel_rfl)) (by decide) (fun K hK => ?_)
        refine goes_ Tryd.func20 (by kernel_rfl) rfl #[.agg #[.int .i64 t105, .int .i64 t106, .int .i64 t107, .int .i64 t108], .agg #[.int .i64 t105, .int .i64 t106, .int .i64 t107, .int .i64 t108]] (by rfl) rfl rfl (by (try simp only [List.map_toArray, List.map_cons, List.map_nil]); first | done | rfl | (simp only [List.length_drop, List.length_take]; rfl)) ?_
        with_reducible refine (label_Less.calls t105 t106 t107 t108 t105 t106 t107 t108 t120 _ A40.out).mono ?_
        rintro e w43 ⟨rfl, hb⟩
        refine ⟨_, rfl, ?_⟩
        have n0_ := Aside0.mk (blk_below (g := gb101) (o := .cells #[.int .i64 t105, .int .i64 t106, .int .i64 t107, .int .i64 t108] 23 (0, 0)) (by (with_reducible repeat (first | refine blk_drewN ?_ _ | refine blk_drew ?_ | refine blk_alloc ?_ _)); exact BK101.out) hb)
        have n1_ := Aside0.mk (blk_below (g := gb102) (o := .cells #[.int .i64 t109, .int .i64 t110, .int .i64 t111, .int .i64 t112] 23 (0, 0)) (by (with_reducible repeat (first | refine blk_drewN ?_ _ | refine blk_drew ?_ | refine blk_alloc ?_ _)); exact BK102.out) hb)
        have n2_ := Aside0.mk (blk_below (g := gb103) (o := .cells #[.int .i64 t113, .int .i64 t114, .int .i64 t115, .int .i64 t116] 23 (0, 0)) (by (with_reducible repeat (first | refine blk_drewN ?_ _ | refine blk_drew ?_ | refine blk_alloc ?_ _)); exact BK103.out) hb)
        have n3_ := Aside0.mk (below_step (by repeat (first | (with_reducible first | exact HB.out | apply below_alloc | apply pw_below_drewN | apply below_drew1 | refine below_set ?_ GE101.out | refine below_set ?_ GE102.out | refine below_set ?_ GE103.out) | exact HB.out)) hb)
        clear BK101
        clear BK102
        clear BK103
        clear HB
        have BK101 := n0_
        have BK102 := n1_
        have BK103 := n2_
        have HB := n3_
        clear n0_ n1_ n2_ n3_
        (try clear hb)
        (try clear hb2)
        (try clear hk)
        (try clear hi)
        refine hK.out _ _ ⟨(blk_cell BK101.out 0).trans rfl, (blk_cell BK101.out 1).trans rfl, (blk_cell BK101.out 2).trans rfl, (blk_cell BK101.out 3).trans rfl, (blk_cell BK102.out 0).trans rfl, (blk_cell BK102.out 1).trans rfl, (blk_cell BK102.out 2).trans rfl, (blk_cell BK102.out 3).trans rfl⟩ (fun hHeld => ?_)
        clear hK K
        refine norm_ (a' := ?_) ?_ ?_
        rotate_left
        · show Act.put _ (some 30) _ = _
          simp only [Act.put, List.setIfInBounds_toArray, List.set_cons_zero, List.set_cons_succ, i64_w, i32_w]
          rfl
        refine pure_ (i := 16) (N := some 31) (v := ?_) (a' := ?_) #[true, true, true, true, true, true, true, true, true, true, true, true, true, true, true, true, true] rfl rfl (any_of HT_.out (by kernel_rfl)) (fun _ _ _ h => h) (Or.inl ⟨by rfl, ?_⟩) ?_ ?_
        rotate_left
        · intro w'
          go_simp
          with_reducible rfl
        rotate_left
        · simp only [Act.put, List.setIfInBounds_toArray, List.set_cons_zero, List.set_cons_succ, i64_w, i32_w]
          rfl
        refine done_ (done_of HT_.out (by kernel_rfl)) ?_
        try go_wp2
        go_meet
        case rel => exact ⟨_, (t120), (by first | rfl | (simp; done) | (simp [*]; done)), H', ⟨by first | omega | exact Nat.le_refl _⟩, ⟨by (with_reducible repeat (first | refine blk_drewN ?_ _ | refine blk_drew ?_ | refine blk_alloc ?_ _)); exact BK101.out⟩, ⟨by (with_reducible repeat (first | refine blk_drewN ?_ _ | refine blk_drew ?_ | refine blk_alloc ?_ _)); exact BK102.out⟩, ⟨by (with_reducible repeat (first | refine blk_drewN ?_ _ | refine blk_drew ?_ | refine blk_alloc ?_ _)); exact BK103.out⟩, ⟨by repeat (first | (with_reducible first | exact HB.out | apply below_alloc | apply pw_below_drewN | apply below_drew1 | refine below_set ?_ GE101.out | refine below_set ?_ GE102.out | refine below_set ?_ GE103.out) | exact HB.out)⟩⟩
    case rest =>
      clear HC9
      try clear c1
      try clear c2
      try clear p2
      try clear c3
      try clear c15
      try clear c20
      try clear c30
      try clear c30b0
      try clear c33
      try clear c33b0
      try clear c33b1
      try clear c33b2
      obtain ⟨kq, x31_8, rfl, HA, HJ8, BK101, BK102, BK103, HB⟩ := hcut
      cases kq with
      | zero => exact absurd HA.out (by simp [donjonlaw4_LabelLess.j0])
      | succ kj8 =>
        have H := HA.out
        clear HA
        simp only [donjonlaw4_LabelLess.j0] at H
        by_cases c44 : x31_8 = true
        · subst c44
          have H1 : (some false) = some r := by rw [if_pos rfl] at H; exact H
          clear H
          have H := H1
          clear H1
          obtain rfl := Option.some.inj H
          exact absurd HRT.out (by decide)
        · replace c44 := Bool.eq_false_iff.mpr c44
          subst c44
          have H1 : ((label_Less.f t105 t106 t107 t108 t109 t110 t111 t112).bind fun t121 => (if t121 = true then ((label_Less.f t109 t110 t111 t112 t113 t114 t115 t116).bind fun t122 => (if t122 = true then ((label_Less.f t105 t106 t107 t108 t113 t114 t115 t116).bind fun t123 => (some t123)) else (some true))) else (some true))) = some r := by rw [if_neg (show ¬ (false = true) by decide)] at H; exact H
          clear H
          have H := H1
          clear H1
          replace H := Option.bind_eq_some_iff.mp H
          obtain ⟨t121, A450, H⟩ := H
          replace H : (if t121 = true then ((label_Less.f t109 t110 t111 t112 t113 t114 t115 t116).bind fun t122 => (if t122 = true then ((label_Less.f t105 t106 t107 t108 t113 t114 t115 t116).bind fun t123 => (some t123)) else (some true))) else (some true)) = some r := H
          have A45 := Aside0.mk A450
          clear A450
          by_cases c46 : t121 = true
          · subst c46
            have H1 : ((label_Less.f t109 t110 t111 t112 t113 t114 t115 t116).bind fun t122 => (if t122 = true then ((label_Less.f t105 t106 t107 t108 t113 t114 t115 t116).bind fun t123 => (some t123)) else (some true))) = some r := by rw [if_pos rfl] at H; exact H
            clear H
            have H := H1
            clear H1
            replace H := Option.bind_eq_some_iff.mp H
            obtain ⟨t122, A470, H⟩ := H
            replace H : (if t122 = true then ((label_Less.f t105 t106 t107 t108 t113 t114 t115 t116).bind fun t123 => (some t123)) else (some true)) = some r := H
            have A47 := Aside0.mk A470
            clear A470
            by_cases c48 : t122 = true
            · subst c48
              have H1 : ((label_Less.f t105 t106 t107 t108 t113 t114 t115 t116).bind fun t123 => (some t123)) = some r := by rw [if_pos rfl] at H; exact H
              clear H
              have H := H1
              clear H1
              replace H := Option.bind_eq_some_iff.mp H
              obtain ⟨t123, A490, H⟩ := H
              replace H : (some t123) = some r := H
              have A49 := Aside0.mk A490
              clear A490
              obtain rfl := Option.some.inj H
              have hnb50 := NB101_102.out
              have hnc50 := NB102_101.out
              have hnb51 := NB101_103.out
              have hnc51 := NB103_101.out
              have hcz52_0 : wc.cell? ⟨gb101, 0, none⟩ = some (.int .i64 t105) := (blk_cell BK101.out 0).trans rfl
              have hcz52_1 : wc.cell? ⟨gb101, 1, none⟩ = some (.int .i64 t106) := (blk_cell BK101.out 1).trans rfl
              have hcz52_2 : wc.cell? ⟨gb101, 2, none⟩ = some (.int .i64 t107) := (blk_cell BK101.out 2).trans rfl
              have hcz52_3 : wc.cell? ⟨gb101, 3, none⟩ = some (.int .i64 t108) := (blk_cell BK101.out 3).trans rfl
              have hfz52_0 := blk_frozen BK101.out 0
              have hfz52_1 := blk_frozen BK101.out 1
              have hfz52_2 := blk_frozen BK101.out 2
              have hfz52_3 := blk_frozen BK101.out 3
              have hnb53 := NB102_103.out
              have hnc53 := NB103_102.out
              have hcz54_0 : wc.cell? ⟨gb102, 0, none⟩ = some (.int .i64 t109) := (blk_cell BK102.out 0).trans rfl
              have hcz54_1 : wc.cell? ⟨gb102, 1, none⟩ = some (.int .i64 t110) := (blk_cell BK102.out 1).trans rfl
              have hcz54_2 : wc.cell? ⟨gb102, 2, none⟩ = some (.int .i64 t111) := (blk_cell BK102.out 2).trans rfl
              have hcz54_3 : wc.cell? ⟨gb102, 3, none⟩ = some (.int .i64 t112) := (blk_cell BK102.out 3).trans rfl
              have hfz54_0 := blk_frozen BK102.out 0
              have hfz54_1 := blk_frozen BK102.out 1
              have hfz54_2 := blk_frozen BK102.out 2
              have hfz54_3 := blk_frozen BK102.out 3
              go_wp2_with (first | ((with_reducible refine gate_callee (f := 20) rfl ?_); refine goesL_ (some 34) rfl rfl Tryd.func20 (by kernel_rfl) rfl #[.agg #[.int .i64 t105, .int .i64 t106, .int .i64 t107, .int .i64 t108], .agg #[.int .i64 t109, .int .i64 t110, .int .i64 t111, .int .i64 t112]] rfl (by (try simp only [List.map_toArray, List.map_cons, List.map_nil]); first | done | rfl | (simp only [List.length_drop, List.length_take]; rfl)) ?_; (with_reducible refine (label_Less.calls t105 t106 t107 t108 t109 t110 t111 t112 true _ A45.out).mono ?_); rintro e w55 ⟨rfl, hb⟩; refine ⟨_, rfl, ?_⟩; have n0_ := Aside0.mk (blk_below (g := gb101) (o := .cells #[.int .i64 t105, .int .i64 t106, .int .i64 t107, .int .i64 t108] 23 (0, 0)) (by (with_reducible repeat (first | refine blk_drewN ?_ _ | refine blk_drew ?_ | refine blk_alloc ?_ _)); exact BK101.out) hb); have n1_ := Aside0.mk (blk_below (g := gb102) (o := .cells #[.int .i64 t109, .int .i64 t110, .int .i64 t111, .int .i64 t112] 23 (0, 0)) (by (with_reducible repeat (first | refine blk_drewN ?_ _ | refine blk_drew ?_ | refine blk_alloc ?_ _)); exact BK102.out) hb); have n2_ := Aside0.mk (blk_below (g := gb103) (o := .cells #[.int .i64 t113, .int .i64 t114, .int .i64 t115, .int .i64 t116] 23 (0, 0)) (by (with_reducible repeat (first | refine blk_drewN ?_ _ | refine blk_drew ?_ | refine blk_alloc ?_ _)); exact BK103.out) hb); have n3_ := Aside0.mk (below_step (by repeat (first | (with_reducible first | exact HB.out | apply below_alloc | apply pw_below_drewN | apply below_drew1 | refine below_set ?_ GE101.out | refine below_set ?_ GE102.out | refine below_set ?_ GE103.out) | exact HB.out)) hb); clear BK101; clear BK102; clear BK103; clear HB; have BK101 := n0_; have BK102 := n1_; have BK103 := n2_; have HB := n3_; clear n0_ n1_ n2_ n3_; (try clear hb); (try clear hb2); (try clear hk); (try clear hi); have hcz56_0 : w55.cell? ⟨gb102, 0, none⟩ = some (.int .i64 t109) := (blk_cell BK102.out 0).trans rfl; have hcz56_1 : w55.cell? ⟨gb102, 1, none⟩ = some (.int .i64 t110) := (blk_cell BK102.out 1).trans rfl; have hcz56_2 : w55.cell? ⟨gb102, 2, none⟩ = some (.int .i64 t111) := (blk_cell BK102.out 2).trans rfl; have hcz56_3 : w55.cell? ⟨gb102, 3, none⟩ = some (.int .i64 t112) := (blk_cell BK102.out 3).trans rfl; have hfz56_0 := blk_frozen BK102.out 0; have hfz56_1 := blk_frozen BK102.out 1; have hfz56_2 := blk_frozen BK102.out 2; have hfz56_3 := blk_frozen BK102.out 3; have hcz57_0 : w55.cell? ⟨gb103, 0, none⟩ = some (.int .i64 t113) := (blk_cell BK103.out 0).trans rfl; have hcz57_1 : w55.cell? ⟨gb103, 1, none⟩ = some (.int .i64 t114) := (blk_cell BK103.out 1).trans rfl; have hcz57_2 : w55.cell? ⟨gb103, 2, none⟩ = some (.int .i64 t115) := (blk_cell BK103.out 2).trans rfl; have hcz57_3 : w55.cell? ⟨gb103, 3, none⟩ = some (.int .i64 t116) := (blk_cell BK103.out 3).trans rfl; have hfz57_0 := blk_frozen BK103.out 0; have hfz57_1 := blk_frozen BK103.out 1; have hfz57_2 := blk_frozen BK103.out 2; have hfz57_3 := blk_frozen BK103.out 3) | (go_at_call 20; (with_reducible refine (label_Less.calls t109 t110 t111 t112 t113 t114 t115 t116 true _ A47.out).mono ?_); rintro e w58 ⟨rfl, hb⟩; have n0_ := Aside0.mk (blk_below (g := gb101) (o := .cells #[.int .i64 t105, .int .i64 t106, .int .i64 t107, .int .i64 t108] 23 (0, 0)) (by (with_reducible repeat (first | refine blk_drewN ?_ _ | refine blk_drew ?_ | refine blk_alloc ?_ _)); exact BK101.out) hb); have n1_ := Aside0.mk (blk_below (g := gb102) (o := .cells #[.int .i64 t109, .int .i64 t110, .int .i64 t111, .int .i64 t112] 23 (0, 0)) (by (with_reducible repeat (first | refine blk_drewN ?_ _ | refine blk_drew ?_ | refine blk_alloc ?_ _)); exact BK102.out) hb); have n2_ := Aside0.mk (blk_below (g := gb103) (o := .cells #[.int .i64 t113, .int .i64 t114, .int .i64 t115, .int .i64 t116] 23 (0, 0)) (by (with_reducible repeat (first | refine blk_drewN ?_ _ | refine blk_drew ?_ | refine blk_alloc ?_ _)); exact BK103.out) hb); have n3_ := Aside0.mk (below_step (by repeat (first | (with_reducible first | exact HB.out | apply below_alloc | apply pw_below_drewN | apply below_drew1 | refine below_set ?_ GE101.out | refine below_set ?_ GE102.out | refine below_set ?_ GE103.out) | exact HB.out)) hb); clear BK101; clear BK102; clear BK103; clear HB; have BK101 := n0_; have BK102 := n1_; have BK103 := n2_; have HB := n3_; clear n0_ n1_ n2_ n3_; (try clear hb); (try clear hb2); (try clear hk); (try clear hi); have hcz59_0 : w58.cell? ⟨gb101, 0, none⟩ = some (.int .i64 t105) := (blk_cell BK101.out 0).trans rfl; have hcz59_1 : w58.cell? ⟨gb101, 1, none⟩ = some (.int .i64 t106) := (blk_cell BK101.out 1).trans rfl; have hcz59_2 : w58.cell? ⟨gb101, 2, none⟩ = some (.int .i64 t107) := (blk_cell BK101.out 2).trans rfl; have hcz59_3 : w58.cell? ⟨gb101, 3, none⟩ = some (.int .i64 t108) := (blk_cell BK101.out 3).trans rfl; have hfz59_0 := blk_frozen BK101.out 0; have hfz59_1 := blk_frozen BK101.out 1; have hfz59_2 := blk_frozen BK101.out 2; have hfz59_3 := blk_frozen BK101.out 3; have hcz60_0 : w58.cell? ⟨gb103, 0, none⟩ = some (.int .i64 t113) := (blk_cell BK103.out 0).trans rfl; have hcz60_1 : w58.cell? ⟨gb103, 1, none⟩ = some (.int .i64 t114) := (blk_cell BK103.out 1).trans rfl; have hcz60_2 : w58.cell? ⟨gb103, 2, none⟩ = some (.int .i64 t115) := (blk_cell BK103.out 2).trans rfl; have hcz60_3 : w58.cell? ⟨gb103, 3, none⟩ = some (.int .i64 t116) := (blk_cell BK103.out 3).trans rfl; have hfz60_0 := blk_frozen BK103.out 0; have hfz60_1 := blk_frozen BK103.out 1; have hfz60_2 := blk_frozen BK103.out 2; have hfz60_3 := blk_frozen BK103.out 3) | (go_at_call 20; (with_reducible refine (label_Less.calls t105 t106 t107 t108 t113 t114 t115 t116 t123 _ A49.out).mono ?_); rintro e w61 ⟨rfl, hb⟩; have n0_ := Aside0.mk (blk_below (g := gb101) (o := .cells #[.int .i64 t105, .int .i64 t106, .int .i64 t107, .int .i64 t108] 23 (0, 0)) (by (with_reducible repeat (first | refine blk_drewN ?_ _ | refine blk_drew ?_ | refine blk_alloc ?_ _)); exact BK101.out) hb); have n1_ := Aside0.mk (blk_below (g := gb102) (o := .cells #[.int .i64 t109, .int .i64 t110, .int .i64 t111, .int .i64 t112] 23 (0, 0)) (by (with_reducible repeat (first | refine blk_drewN ?_ _ | refine blk_drew ?_ | refine blk_alloc ?_ _)); exact BK102.out) hb); have n2_ := Aside0.mk (blk_below (g := gb103) (o := .cells #[.int .i64 t113, .int .i64 t114, .int .i64 t115, .int .i64 t116] 23 (0, 0)) (by (with_reducible repeat (first | refine blk_drewN ?_ _ | refine blk_drew ?_ | refine blk_alloc ?_ _)); exact BK103.out) hb); have n3_ := Aside0.mk (below_step (by repeat (first | (with_reducible first | exact HB.out | apply below_alloc | apply pw_below_drewN | apply below_drew1 | refine below_set ?_ GE101.out | refine below_set ?_ GE102.out | refine below_set ?_ GE103.out) | exact HB.out)) hb); clear BK101; clear BK102; clear BK103; clear HB; have BK101 := n0_; have BK102 := n1_; have BK103 := n2_; have HB := n3_; clear n0_ n1_ n2_ n3_; (try clear hb); (try clear hb2); (try clear hk); (try clear hi)))
              go_ret
              exact ⟨by first | rfl | (simp [errW_none, errW_some] <;> rfl) | (simp [*, errW_none, errW_some] <;> rfl), by repeat (first | (with_reducible first | exact HB.out | apply below_alloc | apply pw_below_drewN | apply below_drew1 | refine below_set ?_ GE101.out | refine below_set ?_ GE102.out | refine below_set ?_ GE103.out) | exact HB.out)⟩
            · replace c48 := Bool.eq_false_iff.mpr c48
              subst c48
              have H1 : (some true) = some r := by rw [if_neg (show ¬ (false = true) by decide)] at H; exact H
              clear H
              have H := H1
              clear H1
              obtain rfl := Option.some.inj H
              have hnb62 := NB101_102.out
              have hnc62 := NB102_101.out
              have hnb63 := NB101_103.out
              have hnc63 := NB103_101.out
              have hcz64_0 : wc.cell? ⟨gb101, 0, none⟩ = some (.int .i64 t105) := (blk_cell BK101.out 0).trans rfl
              have hcz64_1 : wc.cell? ⟨gb101, 1, none⟩ = some (.int .i64 t106) := (blk_cell BK101.out 1).trans rfl
              have hcz64_2 : wc.cell? ⟨gb101, 2, none⟩ = some (.int .i64 t107) := (blk_cell BK101.out 2).trans rfl
              have hcz64_3 : wc.cell? ⟨gb101, 3, none⟩ = some (.int .i64 t108) := (blk_cell BK101.out 3).trans rfl
              have hfz64_0 := blk_frozen BK101.out 0
              have hfz64_1 := blk_frozen BK101.out 1
              have hfz64_2 := blk_frozen BK101.out 2
              have hfz64_3 := blk_frozen BK101.out 3
              have hnb65 := NB102_103.out
              have hnc65 := NB103_102.out
              have hcz66_0 : wc.cell? ⟨gb102, 0, none⟩ = some (.int .i64 t109) := (blk_cell BK102.out 0).trans rfl
              have hcz66_1 : wc.cell? ⟨gb102, 1, none⟩ = some (.int .i64 t110) := (blk_cell BK102.out 1).trans rfl
              have hcz66_2 : wc.cell? ⟨gb102, 2, none⟩ = some (.int .i64 t111) := (blk_cell BK102.out 2).trans rfl
              have hcz66_3 : wc.cell? ⟨gb102, 3, none⟩ = some (.int .i64 t112) := (blk_cell BK102.out 3).trans rfl
              have hfz66_0 := blk_frozen BK102.out 0
              have hfz66_1 := blk_frozen BK102.out 1
              have hfz66_2 := blk_frozen BK102.out 2
              have hfz66_3 := blk_frozen BK102.out 3
              go_wp2_with (first | ((with_reducible refine gate_callee (f := 20) rfl ?_); refine goesL_ (some 34) rfl rfl Tryd.func20 (by kernel_rfl) rfl #[.agg #[.int .i64 t105, .int .i64 t106, .int .i64 t107, .int .i64 t108], .agg #[.int .i64 t109, .int .i64 t110, .int .i64 t111, .int .i64 t112]] rfl (by (try simp only [List.map_toArray, List.map_cons, List.map_nil]); first | done | rfl | (simp only [List.length_drop, List.length_take]; rfl)) ?_; (with_reducible refine (label_Less.calls t105 t106 t107 t108 t109 t110 t111 t112 true _ A45.out).mono ?_); rintro e w67 ⟨rfl, hb⟩; refine ⟨_, rfl, ?_⟩; have n0_ := Aside0.mk (blk_below (g := gb101) (o := .cells #[.int .i64 t105, .int .i64 t106, .int .i64 t107, .int .i64 t108] 23 (0, 0)) (by (with_reducible repeat (first | refine blk_drewN ?_ _ | refine blk_drew ?_ | refine blk_alloc ?_ _)); exact BK101.out) hb); have n1_ := Aside0.mk (blk_below (g := gb102) (o := .cells #[.int .i64 t109, .int .i64 t110, .int .i64 t111, .int .i64 t112] 23 (0, 0)) (by (with_reducible repeat (first | refine blk_drewN ?_ _ | refine blk_drew ?_ | refine blk_alloc ?_ _)); exact BK102.out) hb); have n2_ := Aside0.mk (blk_below (g := gb103) (o := .cells #[.int .i64 t113, .int .i64 t114, .int .i64 t115, .int .i64 t116] 23 (0, 0)) (by (with_reducible repeat (first | refine blk_drewN ?_ _ | refine blk_drew ?_ | refine blk_alloc ?_ _)); exact BK103.out) hb); have n3_ := Aside0.mk (below_step (by repeat (first | (with_reducible first | exact HB.out | apply below_alloc | apply pw_below_drewN | apply below_drew1 | refine below_set ?_ GE101.out | refine below_set ?_ GE102.out | refine below_set ?_ GE103.out) | exact HB.out)) hb); clear BK101; clear BK102; clear BK103; clear HB; have BK101 := n0_; have BK102 := n1_; have BK103 := n2_; have HB := n3_; clear n0_ n1_ n2_ n3_; (try clear hb); (try clear hb2); (try clear hk); (try clear hi); have hcz68_0 : w67.cell? ⟨gb102, 0, none⟩ = some (.int .i64 t109) := (blk_cell BK102.out 0).trans rfl; have hcz68_1 : w67.cell? ⟨gb102, 1, none⟩ = some (.int .i64 t110) := (blk_cell BK102.out 1).trans rfl; have hcz68_2 : w67.cell? ⟨gb102, 2, none⟩ = some (.int .i64 t111) := (blk_cell BK102.out 2).trans rfl; have hcz68_3 : w67.cell? ⟨gb102, 3, none⟩ = some (.int .i64 t112) := (blk_cell BK102.out 3).trans rfl; have hfz68_0 := blk_frozen BK102.out 0; have hfz68_1 := blk_frozen BK102.out 1; have hfz68_2 := blk_frozen BK102.out 2; have hfz68_3 := blk_frozen BK102.out 3; have hcz69_0 : w67.cell? ⟨gb103, 0, none⟩ = some (.int .i64 t113) := (blk_cell BK103.out 0).trans rfl; have hcz69_1 : w67.cell? ⟨gb103, 1, none⟩ = some (.int .i64 t114) := (blk_cell BK103.out 1).trans rfl; have hcz69_2 : w67.cell? ⟨gb103, 2, none⟩ = some (.int .i64 t115) := (blk_cell BK103.out 2).trans rfl; have hcz69_3 : w67.cell? ⟨gb103, 3, none⟩ = some (.int .i64 t116) := (blk_cell BK103.out 3).trans rfl; have hfz69_0 := blk_frozen BK103.out 0; have hfz69_1 := blk_frozen BK103.out 1; have hfz69_2 := blk_frozen BK103.out 2; have hfz69_3 := blk_frozen BK103.out 3) | (go_at_call 20; (with_reducible refine (label_Less.calls t109 t110 t111 t112 t113 t114 t115 t116 false _ A47.out).mono ?_); rintro e w70 ⟨rfl, hb⟩; have n0_ := Aside0.mk (blk_below (g := gb101) (o := .cells #[.int .i64 t105, .int .i64 t106, .int .i64 t107, .int .i64 t108] 23 (0, 0)) (by (with_reducible repeat (first | refine blk_drewN ?_ _ | refine blk_drew ?_ | refine blk_alloc ?_ _)); exact BK101.out) hb); have n1_ := Aside0.mk (blk_below (g := gb102) (o := .cells #[.int .i64 t109, .int .i64 t110, .int .i64 t111, .int .i64 t112] 23 (0, 0)) (by (with_reducible repeat (first | refine blk_drewN ?_ _ | refine blk_drew ?_ | refine blk_alloc ?_ _)); exact BK102.out) hb); have n2_ := Aside0.mk (blk_below (g := gb103) (o := .cells #[.int .i64 t113, .int .i64 t114, .int .i64 t115, .int .i64 t116] 23 (0, 0)) (by (with_reducible repeat (first | refine blk_drewN ?_ _ | refine blk_drew ?_ | refine blk_alloc ?_ _)); exact BK103.out) hb); have n3_ := Aside0.mk (below_step (by repeat (first | (with_reducible first | exact HB.out | apply below_alloc | apply pw_below_drewN | apply below_drew1 | refine below_set ?_ GE101.out | refine below_set ?_ GE102.out | refine below_set ?_ GE103.out) | exact HB.out)) hb); clear BK101; clear BK102; clear BK103; clear HB; have BK101 := n0_; have BK102 := n1_; have BK103 := n2_; have HB := n3_; clear n0_ n1_ n2_ n3_; (try clear hb); (try clear hb2); (try clear hk); (try clear hi)))
              go_ret
              exact ⟨by first | rfl | (simp [errW_none, errW_some] <;> rfl) | (simp [*, errW_none, errW_some] <;> rfl), by repeat (first | (with_reducible first | exact HB.out | apply below_alloc | apply pw_below_drewN | apply below_drew1 | refine below_set ?_ GE101.out | refine below_set ?_ GE102.out | refine below_set ?_ GE103.out) | exact HB.out)⟩
          · replace c46 := Bool.eq_false_iff.mpr c46
            subst c46
            have H1 : (some true) = some r := by rw [if_neg (show ¬ (false = true) by decide)] at H; exact H
            clear H
            have H := H1
            clear H1
            obtain rfl := Option.some.inj H
            have hnb71 := NB101_102.out
            have hnc71 := NB102_101.out
            have hnb72 := NB101_103.out
            have hnc72 := NB103_101.out
            have hcz73_0 : wc.cell? ⟨gb101, 0, none⟩ = some (.int .i64 t105) := (blk_cell BK101.out 0).trans rfl
            have hcz73_1 : wc.cell? ⟨gb101, 1, none⟩ = some (.int .i64 t106) := (blk_cell BK101.out 1).trans rfl
            have hcz73_2 : wc.cell? ⟨gb101, 2, none⟩ = some (.int .i64 t107) := (blk_cell BK101.out 2).trans rfl
            have hcz73_3 : wc.cell? ⟨gb101, 3, none⟩ = some (.int .i64 t108) := (blk_cell BK101.out 3).trans rfl
            have hfz73_0 := blk_frozen BK101.out 0
            have hfz73_1 := blk_frozen BK101.out 1
            have hfz73_2 := blk_frozen BK101.out 2
            have hfz73_3 := blk_frozen BK101.out 3
            have hnb74 := NB102_103.out
            have hnc74 := NB103_102.out
            have hcz75_0 : wc.cell? ⟨gb102, 0, none⟩ = some (.int .i64 t109) := (blk_cell BK102.out 0).trans rfl
            have hcz75_1 : wc.cell? ⟨gb102, 1, none⟩ = some (.int .i64 t110) := (blk_cell BK102.out 1).trans rfl
            have hcz75_2 : wc.cell? ⟨gb102, 2, none⟩ = some (.int .i64 t111) := (blk_cell BK102.out 2).trans rfl
            have hcz75_3 : wc.cell? ⟨gb102, 3, none⟩ = some (.int .i64 t112) := (blk_cell BK102.out 3).trans rfl
            have hfz75_0 := blk_frozen BK102.out 0
            have hfz75_1 := blk_frozen BK102.out 1
            have hfz75_2 := blk_frozen BK102.out 2
            have hfz75_3 := blk_frozen BK102.out 3
            go_wp2_with (first | ((with_reducible refine gate_callee (f := 20) rfl ?_); refine goesL_ (some 34) rfl rfl Tryd.func20 (by kernel_rfl) rfl #[.agg #[.int .i64 t105, .int .i64 t106, .int .i64 t107, .int .i64 t108], .agg #[.int .i64 t109, .int .i64 t110, .int .i64 t111, .int .i64 t112]] rfl (by (try simp only [List.map_toArray, List.map_cons, List.map_nil]); first | done | rfl | (simp only [List.length_drop, List.length_take]; rfl)) ?_; (with_reducible refine (label_Less.calls t105 t106 t107 t108 t109 t110 t111 t112 false _ A45.out).mono ?_); rintro e w76 ⟨rfl, hb⟩; refine ⟨_, rfl, ?_⟩; have n0_ := Aside0.mk (blk_below (g := gb101) (o := .cells #[.int .i64 t105, .int .i64 t106, .int .i64 t107, .int .i64 t108] 23 (0, 0)) (by (with_reducible repeat (first | refine blk_drewN ?_ _ | refine blk_drew ?_ | refine blk_alloc ?_ _)); exact BK101.out) hb); have n1_ := Aside0.mk (blk_below (g := gb102) (o := .cells #[.int .i64 t109, .int .i64 t110, .int .i64 t111, .int .i64 t112] 23 (0, 0)) (by (with_reducible repeat (first | refine blk_drewN ?_ _ | refine blk_drew ?_ | refine blk_alloc ?_ _)); exact BK102.out) hb); have n2_ := Aside0.mk (blk_below (g := gb103) (o := .cells #[.int .i64 t113, .int .i64 t114, .int .i64 t115, .int .i64 t116] 23 (0, 0)) (by (with_reducible repeat (first | refine blk_drewN ?_ _ | refine blk_drew ?_ | refine blk_alloc ?_ _)); exact BK103.out) hb); have n3_ := Aside0.mk (below_step (by repeat (first | (with_reducible first | exact HB.out | apply below_alloc | apply pw_below_drewN | apply below_drew1 | refine below_set ?_ GE101.out | refine below_set ?_ GE102.out | refine below_set ?_ GE103.out) | exact HB.out)) hb); clear BK101; clear BK102; clear BK103; clear HB; have BK101 := n0_; have BK102 := n1_; have BK103 := n2_; have HB := n3_; clear n0_ n1_ n2_ n3_; (try clear hb); (try clear hb2); (try clear hk); (try clear hi)))
            go_ret
            exact ⟨by first | rfl | (simp [errW_none, errW_some] <;> rfl) | (simp [*, errW_none, errW_some] <;> rfl), by repeat (first | (with_reducible first | exact HB.out | apply below_alloc | apply pw_below_drewN | apply below_drew1 | refine below_set ?_ GE101.out | refine below_set ?_ GE102.out | refine below_set ?_ GE103.out) | exact HB.out)⟩
  · replace c5 := Bool.eq_false_iff.mpr c5
    subst c5
    have H1 : (some false) = some r := by rw [if_neg (show ¬ (false = true) by decide)] at H; exact H
    clear H
    have H := H1
    clear H1
    obtain rfl := Option.some.inj H
    exact absurd HRT.out (by decide)

end Go.Proofs.YtnepinkookbanaaDoor.X
