/- Written by a program of this session over the kit's print: YtophnhmlknbmeaaDoorF4. -/
import Derived.Test.YtophnhmlknbmeaaDoorH
import Derived.Test.YtophnhmlknbmeaaDoorE26
import Derived.Test.YtophnhmlknbmeaaDoorF5
import Derived.Test.YtophnhmlknbmeaaDoorF7
import Derived.Test.YtophnhmlknbmeaaDoorF9
import Derived.Test.YtophnhmlknbmeaaDoorF10
import Derived.Test.YtophnhmlknbmeaaDoorMaxAt
namespace Go.Proofs.YtophnhmlknbmeaaDoor.X
open Go.RowKit Go.Proofs.YtophnhmlknbmeaaDoorW.PrintWords Go.Proofs.YtophnhmlknbmeaaDoorW.PrintLast Go.Proofs.YtophnhmlknbmeaaDoorW.PrintMore Go.Proofs.YtophnhmlknbmeaaDoor.More
attribute [local go_sem] max2_int min2_int max_two min_two max_three min_three max_four min_four binOp_string_leq binOp_string_gtr   -- for this text's walks alone
set_option linter.unusedVariables false
set_option linter.unusedSimpArgs false

attribute [local go_sem high] eqA26
/-! ### donjonlaw10_NodeRules: function 4 -/
mutual
def donjonlaw10_NodeRules.j0 : Nat → Int → Bool → Bool → Int → Int → Int → Int → ByteArray → Bool → Int → Int → Int → Int → Int → Int → Int → Int → List Int → Int → Int → Int → Int → Option (Bool)
  | 0, _, _, _, _, _, _, _, _, _, _, _, _, _, _, _, _, _, _, _, _, _, _ => none
  | k + 1, x1, x2, x3, x102000, x102001, x102002, x102003, x112000, x112001, x112002, x112003, x112004, x112005, x112007, x112008, x112009, x112010, x112011, x112012, x112013, x112014, x112015 => if x3 = true then (donjonlaw10_NodeRules.j1 k x1 x2 0 (!x2) x102000 x102001 x102002 x102003 x112000 x112001 x112002 x112003 x112004 x112005 x112007 x112008 x112009 x112010 x112011 x112012 x112013 x112014 x112015) else (donjonlaw10_NodeRules.j1 k x1 x2 0 false x102000 x102001 x102002 x102003 x112000 x112001 x112002 x112003 x112004 x112005 x112007 x112008 x112009 x112010 x112011 x112012 x112013 x112014 x112015)
def donjonlaw10_NodeRules.j1 : Nat → Int → Bool → Int → Bool → Int → Int → Int → Int → ByteArray → Bool → Int → Int → Int → Int → Int → Int → Int → Int → List Int → Int → Int → Int → Int → Option (Bool)
  | 0, _, _, _, _, _, _, _, _, _, _, _, _, _, _, _, _, _, _, _, _, _, _, _ => none
  | k + 1, x1, x2, x10, x24, x102000, x102001, x102002, x102003, x112000, x112001, x112002, x112003, x112004, x112005, x112007, x112008, x112009, x112010, x112011, x112012, x112013, x112014, x112015 => if x24 = true then ((node_Check.f k x112000 x112001 x112002 x112003 x112004 x112005 ([] : List (S62)) x112007 x112008 x112009 x112010 x112011 x112012 x112013 x112014 x112015).bind fun t112 => (some (t112 == 3))) else (if x2 = true then (if (!(x102000 == 0) || (!(x102001 == 0) || (!(x102002 == 0) || (!(x102003 == 0))))) = true then (donjonlaw10_NodeRules.j2 k x1 x2 x10 true x112000 x112001 x112002 x112003 x112004 x112005 x112007 x112008 x112009 x112010 x112011 x112012 x112013 x112014 x112015) else (donjonlaw10_NodeRules.j2 k x1 x2 x10 (decide (x1 > 0)) x112000 x112001 x112002 x112003 x112004 x112005 x112007 x112008 x112009 x112010 x112011 x112012 x112013 x112014 x112015)) else (donjonlaw10_NodeRules.j2 k x1 x2 x10 false x112000 x112001 x112002 x112003 x112004 x112005 x112007 x112008 x112009 x112010 x112011 x112012 x112013 x112014 x112015))
def donjonlaw10_NodeRules.j2 : Nat → Int → Bool → Int → Bool → ByteArray → Bool → Int → Int → Int → Int → Int → Int → Int → Int → List Int → Int → Int → Int → Int → Option (Bool)
  | 0, _, _, _, _, _, _, _, _, _, _, _, _, _, _, _, _, _, _, _ => none
  | k + 1, x1, x2, x10, x30, x112000, x112001, x112002, x112003, x112004, x112005, x112007, x112008, x112009, x112010, x112011, x112012, x112013, x112014, x112015 => if x30 = true then ((node_Check.f k x112000 x112001 x112002 x112003 x112004 x112005 ([] : List (S62)) x112007 x112008 x112009 x112010 x112011 x112012 x112013 x112014 x112015).bind fun t113 => (some (t113 == 11))) else (if x2 = true then ((node_Check.f k x112000 x112001 x112002 x112003 x112004 x112005 ([] : List (S62)) x112007 x112008 x112009 x112010 x112011 x112012 x112013 x112014 x112015).bind fun t114 => (some (t114 == x10))) else (if x1 > 16 then ((node_Check.f k x112000 x112001 x112002 x112003 x112004 x112005 ([] : List (S62)) x112007 x112008 x112009 x112010 x112011 x112012 x112013 x112014 x112015).bind fun t115 => (some (t115 == 4))) else ((node_Check.f k x112000 x112001 x112002 x112003 x112004 x112005 ([] : List (S62)) x112007 x112008 x112009 x112010 x112011 x112012 x112013 x112014 x112015).bind fun t116 => (some (t116 == x10)))))
end
def donjonlaw10_NodeRules.f (k : Nat) (a0_0 : Int) (a0_1 : Int) (a0_2 : Int) (a0_3 : Int) (a1 : Int) (a2 : Bool) (a3 : Bool) : Option (Bool) := (donjonlaw10_known.f).bind fun t102 => (if t102 = true then ((donjonlaw6_Good.f a0_0 a0_1 a0_2 a0_3).bind fun bt103 => ((donjonlaw10_within.f a1 20).bind fun t107 => (if 0 ≤ t107 then (if (t107 : Int).toNat ≤ 35184372088832 then ((some (List.replicate (t107 : Int).toNat 0 : List Int)).bind fun y108 => (if a3 = true then (donjonlaw10_NodeRules.j0 k t107 a2 a3 bt103.1 bt103.2.1 bt103.2.2.1 bt103.2.2.2 (⟨#[47]⟩ : ByteArray) a2 0 0 0 0 bt103.1 bt103.2.1 bt103.2.2.1 bt103.2.2.2 y108 0 0 0 0) else (donjonlaw10_NodeRules.j0 k t107 a2 a3 bt103.1 bt103.2.1 bt103.2.2.1 bt103.2.2.2 (⟨#[47, 97]⟩ : ByteArray) a2 0 0 0 0 bt103.1 bt103.2.1 bt103.2.2.1 bt103.2.2.2 y108 0 0 0 0))) else (none)) else (none)))) else (some false))
theorem donjonlaw10_NodeRules.mono_l : ∀ k, (∀ y0 y1 y2 y3 y4 y5 y6 y7 y8 y9 y10 y11 y12 y13 y14 y15 y16 y17 y18 y19 y20 y21, LeO (donjonlaw10_NodeRules.j0 k y0 y1 y2 y3 y4 y5 y6 y7 y8 y9 y10 y11 y12 y13 y14 y15 y16 y17 y18 y19 y20 y21) (donjonlaw10_NodeRules.j0 (k + 1) y0 y1 y2 y3 y4 y5 y6 y7 y8 y9 y10 y11 y12 y13 y14 y15 y16 y17 y18 y19 y20 y21)) ∧ (∀ y0 y1 y2 y3 y4 y5 y6 y7 y8 y9 y10 y11 y12 y13 y14 y15 y16 y17 y18 y19 y20 y21 y22, LeO (donjonlaw10_NodeRules.j1 k y0 y1 y2 y3 y4 y5 y6 y7 y8 y9 y10 y11 y12 y13 y14 y15 y16 y17 y18 y19 y20 y21 y22) (donjonlaw10_NodeRules.j1 (k + 1) y0 y1 y2 y3 y4 y5 y6 y7 y8 y9 y10 y11 y12 y13 y14 y15 y16 y17 y18 y19 y20 y21 y22)) ∧ (∀ y0 y1 y2 y3 y4 y5 y6 y7 y8 y9 y10 y11 y12 y13 y14 y15 y16 y17 y18, LeO (donjonlaw10_NodeRules.j2 k y0 y1 y2 y3 y4 y5 y6 y7 y8 y9 y10 y11 y12 y13 y14 y15 y16 y17 y18) (donjonlaw10_NodeRules.j2 (k + 1) y0 y1 y2 y3 y4 y5 y6 y7 y8 y9 y10 y11 y12 y13 y14 y15 y16 y17 y18))
  | 0 => ⟨fun _ _ _ _ _ _ _ _ _ _ _ _ _ _ _ _ _ _ _ _ _ _ r h => by simp [donjonlaw10_NodeRules.j0] at h, fun _ _ _ _ _ _ _ _ _ _ _ _ _ _ _ _ _ _ _ _ _ _ _ r h => by simp [donjonlaw10_NodeRules.j1] at h, fun _ _ _ _ _ _ _ _ _ _ _ _ _ _ _ _ _ _ _ r h => by simp [donjonlaw10_NodeRules.j2] at h⟩
  | k + 1 => by
    obtain ⟨ih0, ih1, ih2⟩ := donjonlaw10_NodeRules.mono_l k
    refine ⟨?_, ?_, ?_⟩
    · intro y0 y1 y2 y3 y4 y5 y6 y7 y8 y9 y10 y11 y12 y13 y14 y15 y16 y17 y18 y19 y20 y21
      unfold donjonlaw10_NodeRules.j0
      repeat' first
      | (with_reducible exact ih0 _ _ _ _ _ _ _ _ _ _ _ _ _ _ _ _ _ _ _ _ _ _)
      | (with_reducible exact ih1 _ _ _ _ _ _ _ _ _ _ _ _ _ _ _ _ _ _ _ _ _ _ _)
      | (with_reducible exact ih2 _ _ _ _ _ _ _ _ _ _ _ _ _ _ _ _ _ _ _)
      | (with_reducible exact node_Check.mono _ _ _ _ _ _ _ _ _ _ _ _ _ _ _ _ _)
      | (with_reducible exact LeO.refl _)
      | (with_reducible exact LeO.none _)
      | (with_reducible refine LeO.ite ?_ ?_)
      | (with_reducible refine LeO.bind ?_ (fun _ => ?_))
      | exact ih0 _ _ _ _ _ _ _ _ _ _ _ _ _ _ _ _ _ _ _ _ _ _
      | exact ih1 _ _ _ _ _ _ _ _ _ _ _ _ _ _ _ _ _ _ _ _ _ _ _
      | exact ih2 _ _ _ _ _ _ _ _ _ _ _ _ _ _ _ _ _ _ _
      | exact node_Check.mono _ _ _ _ _ _ _ _ _ _ _ _ _ _ _ _ _
      | exact LeO.none _
      | refine LeO.ite ?_ ?_
      | refine LeO.bind ?_ (fun _ => ?_)
    · intro y0 y1 y2 y3 y4 y5 y6 y7 y8 y9 y10 y11 y12 y13 y14 y15 y16 y17 y18 y19 y20 y21 y22
      unfold donjonlaw10_NodeRules.j1
      repeat' first
      | (with_reducible exact ih0 _ _ _ _ _ _ _ _ _ _ _ _ _ _ _ _ _ _ _ _ _ _)
      | (with_reducible exact ih1 _ _ _ _ _ _ _ _ _ _ _ _ _ _ _ _ _ _ _ _ _ _ _)
      | (with_reducible exact ih2 _ _ _ _ _ _ _ _ _ _ _ _ _ _ _ _ _ _ _)
      | (with_reducible exact node_Check.mono _ _ _ _ _ _ _ _ _ _ _ _ _ _ _ _ _)
      | (with_reducible exact LeO.refl _)
      | (with_reducible exact LeO.none _)
      | (with_reducible refine LeO.ite ?_ ?_)
      | (with_reducible refine LeO.bind ?_ (fun _ => ?_))
      | exact ih0 _ _ _ _ _ _ _ _ _ _ _ _ _ _ _ _ _ _ _ _ _ _
      | exact ih1 _ _ _ _ _ _ _ _ _ _ _ _ _ _ _ _ _ _ _ _ _ _ _
      | exact ih2 _ _ _ _ _ _ _ _ _ _ _ _ _ _ _ _ _ _ _
      | exact node_Check.mono _ _ _ _ _ _ _ _ _ _ _ _ _ _ _ _ _
      | exact LeO.none _
      | refine LeO.ite ?_ ?_
      | refine LeO.bind ?_ (fun _ => ?_)
    · intro y0 y1 y2 y3 y4 y5 y6 y7 y8 y9 y10 y11 y12 y13 y14 y15 y16 y17 y18
      unfold donjonlaw10_NodeRules.j2
      repeat' first
      | (with_reducible exact ih0 _ _ _ _ _ _ _ _ _ _ _ _ _ _ _ _ _ _ _ _ _ _)
      | (with_reducible exact ih1 _ _ _ _ _ _ _ _ _ _ _ _ _ _ _ _ _ _ _ _ _ _ _)
      | (with_reducible exact ih2 _ _ _ _ _ _ _ _ _ _ _ _ _ _ _ _ _ _ _)
      | (with_reducible exact node_Check.mono _ _ _ _ _ _ _ _ _ _ _ _ _ _ _ _ _)
      | (with_reducible exact LeO.refl _)
      | (with_reducible exact LeO.none _)
      | (with_reducible refine LeO.ite ?_ ?_)
      | (with_reducible refine LeO.bind ?_ (fun _ => ?_))
      | exact ih0 _ _ _ _ _ _ _ _ _ _ _ _ _ _ _ _ _ _ _ _ _ _
      | exact ih1 _ _ _ _ _ _ _ _ _ _ _ _ _ _ _ _ _ _ _ _ _ _ _
      | exact ih2 _ _ _ _ _ _ _ _ _ _ _ _ _ _ _ _ _ _ _
      | exact node_Check.mono _ _ _ _ _ _ _ _ _ _ _ _ _ _ _ _ _
      | exact LeO.none _
      | refine LeO.ite ?_ ?_
      | refine LeO.bind ?_ (fun _ => ?_)
theorem donjonlaw10_NodeRules.mono : ∀ a0 a1 a2 a3 a4 a5 a6 k, LeO (donjonlaw10_NodeRules.f k a0 a1 a2 a3 a4 a5 a6) (donjonlaw10_NodeRules.f (k + 1) a0 a1 a2 a3 a4 a5 a6) := by
  intro a0 a1 a2 a3 a4 a5 a6 k
  obtain ⟨ih0, ih1, ih2⟩ := donjonlaw10_NodeRules.mono_l k
  unfold donjonlaw10_NodeRules.f
  repeat' first
      | (with_reducible exact ih0 _ _ _ _ _ _ _ _ _ _ _ _ _ _ _ _ _ _ _ _ _ _)
      | (with_reducible exact ih1 _ _ _ _ _ _ _ _ _ _ _ _ _ _ _ _ _ _ _ _ _ _ _)
      | (with_reducible exact ih2 _ _ _ _ _ _ _ _ _ _ _ _ _ _ _ _ _ _ _)
      | (with_reducible exact node_Check.mono _ _ _ _ _ _ _ _ _ _ _ _ _ _ _ _ _)
      | (with_reducible exact LeO.refl _)
      | (with_reducible exact LeO.none _)
      | (with_reducible refine LeO.ite ?_ ?_)
      | (with_reducible refine LeO.bind ?_ (fun _ => ?_))
      | exact ih0 _ _ _ _ _ _ _ _ _ _ _ _ _ _ _ _ _ _ _ _ _ _
      | exact ih1 _ _ _ _ _ _ _ _ _ _ _ _ _ _ _ _ _ _ _ _ _ _ _
      | exact ih2 _ _ _ _ _ _ _ _ _ _ _ _ _ _ _ _ _ _ _
      | exact node_Check.mono _ _ _ _ _ _ _ _ _ _ _ _ _ _ _ _ _
      | exact LeO.none _
      | refine LeO.ite ?_ ?_
      | refine LeO.bind ?_ (fun _ => ?_)
set_option maxHeartbeats 8000000 in
set_option maxRecDepth 100000 in
theorem donjonlaw10_NodeRules.calls (k : Nat) (a0_0 : Int) (a0_1 : Int) (a0_2 : Int) (a0_3 : Int) (a1 : Int) (a2 : Bool) (a3 : Bool) (r : Bool) (w : World) (hrt0 : r = true) (hG0 : MaxAt w) (h : donjonlaw10_NodeRules.f k a0_0 a0_1 a0_2 a0_3 a1 a2 a3 = some r) :
    Calls Tryd.prog 4 #[.agg #[.int .i64 a0_0, .int .i64 a0_1, .int .i64 a0_2, .int .i64 a0_3], .int .i64 a1, .bool a2, .bool a3] w fun e w' => e = .returned (.bool r) ∧ Below w.heap.size w w' := by
  have HRT := Aside0.mk hrt0
  clear hrt0
  have HG := Aside0.mk hG0
  clear hG0
  have hu26 := Tryd.underlying26
  have hu29 := Tryd.underlying29
  have HB := Aside0.mk (Below.refl w.heap.size w)
  have H : ((donjonlaw10_known.f).bind fun t102 => (if t102 = true then ((donjonlaw6_Good.f a0_0 a0_1 a0_2 a0_3).bind fun bt103 => ((donjonlaw10_within.f a1 20).bind fun t107 => (if 0 ≤ t107 then (if (t107 : Int).toNat ≤ 35184372088832 then ((some (List.replicate (t107 : Int).toNat 0 : List Int)).bind fun y108 => (if a3 = true then (donjonlaw10_NodeRules.j0 k t107 a2 a3 bt103.1 bt103.2.1 bt103.2.2.1 bt103.2.2.2 (⟨#[47]⟩ : ByteArray) a2 0 0 0 0 bt103.1 bt103.2.1 bt103.2.2.1 bt103.2.2.2 y108 0 0 0 0) else (donjonlaw10_NodeRules.j0 k t107 a2 a3 bt103.1 bt103.2.1 bt103.2.2.1 bt103.2.2.2 (⟨#[47, 97]⟩ : ByteArray) a2 0 0 0 0 bt103.1 bt103.2.1 bt103.2.2.1 bt103.2.2.2 y108 0 0 0 0))) else (none)) else (none)))) else (some false))) = some r := h
  clear h
  replace H := Option.bind_eq_some_iff.mp H
  obtain ⟨t102, A50, H⟩ := H
  replace H : (if t102 = true then ((donjonlaw6_Good.f a0_0 a0_1 a0_2 a0_3).bind fun bt103 => ((donjonlaw10_within.f a1 20).bind fun t107 => (if 0 ≤ t107 then (if (t107 : Int).toNat ≤ 35184372088832 then ((some (List.replicate (t107 : Int).toNat 0 : List Int)).bind fun y108 => (if a3 = true then (donjonlaw10_NodeRules.j0 k t107 a2 a3 bt103.1 bt103.2.1 bt103.2.2.1 bt103.2.2.2 (⟨#[47]⟩ : ByteArray) a2 0 0 0 0 bt103.1 bt103.2.1 bt103.2.2.1 bt103.2.2.2 y108 0 0 0 0) else (donjonlaw10_NodeRules.j0 k t107 a2 a3 bt103.1 bt103.2.1 bt103.2.2.1 bt103.2.2.2 (⟨#[47, 97]⟩ : ByteArray) a2 0 0 0 0 bt103.1 bt103.2.1 bt103.2.2.1 bt103.2.2.2 y108 0 0 0 0))) else (none)) else (none)))) else (some false)) = some r := H
  have A5 := Aside0.mk A50
  clear A50
  by_cases c6 : t102 = true
  · subst c6
    have H1 : ((donjonlaw6_Good.f a0_0 a0_1 a0_2 a0_3).bind fun bt103 => ((donjonlaw10_within.f a1 20).bind fun t107 => (if 0 ≤ t107 then (if (t107 : Int).toNat ≤ 35184372088832 then ((some (List.replicate (t107 : Int).toNat 0 : List Int)).bind fun y108 => (if a3 = true then (donjonlaw10_NodeRules.j0 k t107 a2 a3 bt103.1 bt103.2.1 bt103.2.2.1 bt103.2.2.2 (⟨#[47]⟩ : ByteArray) a2 0 0 0 0 bt103.1 bt103.2.1 bt103.2.2.1 bt103.2.2.2 y108 0 0 0 0) else (donjonlaw10_NodeRules.j0 k t107 a2 a3 bt103.1 bt103.2.1 bt103.2.2.1 bt103.2.2.2 (⟨#[47, 97]⟩ : ByteArray) a2 0 0 0 0 bt103.1 bt103.2.1 bt103.2.2.1 bt103.2.2.2 y108 0 0 0 0))) else (none)) else (none)))) = some r := by rw [if_pos rfl] at H; exact H
    clear H
    have H := H1
    clear H1
    replace H := Option.bind_eq_some_iff.mp H
    obtain ⟨⟨t103, t104, t105, t106⟩, A70, H⟩ := H
    replace H : ((donjonlaw10_within.f a1 20).bind fun t107 => (if 0 ≤ t107 then (if (t107 : Int).toNat ≤ 35184372088832 then ((some (List.replicate (t107 : Int).toNat 0 : List Int)).bind fun y108 => (if a3 = true then (donjonlaw10_NodeRules.j0 k t107 a2 a3 t103 t104 t105 t106 (⟨#[47]⟩ : ByteArray) a2 0 0 0 0 t103 t104 t105 t106 y108 0 0 0 0) else (donjonlaw10_NodeRules.j0 k t107 a2 a3 t103 t104 t105 t106 (⟨#[47, 97]⟩ : ByteArray) a2 0 0 0 0 t103 t104 t105 t106 y108 0 0 0 0))) else (none)) else (none))) = some r := H
    have A7 := Aside0.mk A70
    clear A70
    replace H := Option.bind_eq_some_iff.mp H
    obtain ⟨t107, A80, H⟩ := H
    replace H : (if 0 ≤ t107 then (if (t107 : Int).toNat ≤ 35184372088832 then ((some (List.replicate (t107 : Int).toNat 0 : List Int)).bind fun y108 => (if a3 = true then (donjonlaw10_NodeRules.j0 k t107 a2 a3 t103 t104 t105 t106 (⟨#[47]⟩ : ByteArray) a2 0 0 0 0 t103 t104 t105 t106 y108 0 0 0 0) else (donjonlaw10_NodeRules.j0 k t107 a2 a3 t103 t104 t105 t106 (⟨#[47, 97]⟩ : ByteArray) a2 0 0 0 0 t103 t104 t105 t106 y108 0 0 0 0))) else (none)) else (none)) = some r := H
    have A8 := Aside0.mk A80
    clear A80
    by_cases c9 : 0 ≤ t107
    · rw [if_pos c9] at H
      have c9b0 := eq_true c9
      have c9b1 : decide (0 ≤ t107) = true := decide_eq_true c9
      clear c9
      by_cases c10 : (t107 : Int).toNat ≤ 35184372088832
      · rw [if_pos c10] at H
        have c10b0 := eq_true c10
        have c10b1 : decide ((t107 : Int).toNat ≤ 35184372088832) = true := decide_eq_true c10
        clear c10
        obtain ⟨y108, hy108⟩ : ∃ y_ : List Int, y_ = (List.replicate (t107 : Int).toNat 0) := ⟨_, rfl⟩
        replace H : (if a3 = true then (donjonlaw10_NodeRules.j0 k t107 a2 a3 t103 t104 t105 t106 (⟨#[47]⟩ : ByteArray) a2 0 0 0 0 t103 t104 t105 t106 y108 0 0 0 0) else (donjonlaw10_NodeRules.j0 k t107 a2 a3 t103 t104 t105 t106 (⟨#[47, 97]⟩ : ByteArray) a2 0 0 0 0 t103 t104 t105 t106 y108 0 0 0 0)) = some r := by first | (rw [hy108]; with_reducible exact H) | (have H2_ := (Option.bind_some _ _).symm.trans H; rw [hy108]; with_reducible exact H2_) | (have H2_ := (Option.bind_some _ _).symm.trans H; with_reducible exact H2_) | with_reducible exact H | (rw [hy108]; exact H) | exact H
        have Ny108 := Aside0.mk hy108
        clear hy108
        have HC11 := Aside0.mk H
        clear H
        go_enter Tryd.func4, Tryd.ntmps4
        try go_wp2_with (first | ((with_reducible refine gate_dst (N := 4) rfl ?_); refine box_event ?hg (N := 4) ?hd (cs := #[.int .i64 a0_0, .int .i64 a0_1, .int .i64 a0_2, .int .i64 a0_3]) (t := 26) ?hr ?_; (case hd => rfl); (case hg => rfl); (case hr => first | (go_simp; done) | (go_simp; rfl)); intro gb101 hg w12 hbox hb; have n0_ := Aside0.mk (below_step (by repeat (first | (with_reducible first | exact HB.out | apply below_alloc | apply pw_below_drewN | apply below_drew1) | exact HB.out)) hb); have n1_ := Aside0.mk (hbox); have n2_ := Aside0.mk ((by rw [hg]; exact (below_size (by repeat (first | (with_reducible first | exact HB.out | apply below_alloc | apply pw_below_drewN | apply below_drew1) | exact HB.out))) : w.heap.size ≤ gb101)); have n3_ := Aside0.mk ((by rw [hg]; exact (below_size (by repeat (first | (with_reducible first | exact HB.out | apply below_alloc | apply pw_below_drewN | apply below_drew1) | exact HB.out))) : w.heap.size ≤ gb101)); clear HB; have HB := n0_; have BK101 := n1_; have GW101 := n2_; have GE101 := n3_; clear n0_ n1_ n2_ n3_; clear hb hbox hg) | ((with_reducible refine gate_callee (f := 5) rfl ?_); refine goesL_ (some 11) rfl rfl Tryd.func5 (by kernel_rfl) rfl #[] rfl (by (try simp only [List.map_toArray, List.map_cons, List.map_nil]); first | done | rfl | (simp only [List.length_drop, List.length_take]; rfl)) ?_; (with_reducible refine (donjonlaw10_known.calls  true _ A5.out).mono ?_); rintro e w13 ⟨rfl, hb⟩; refine ⟨_, rfl, ?_⟩; have n0_ := Aside0.mk (blk_below (g := gb101) (o := .cells #[.int .i64 a0_0, .int .i64 a0_1, .int .i64 a0_2, .int .i64 a0_3] 26 (0, 0)) (by (with_reducible repeat (first | refine blk_drewN ?_ _ | refine blk_drew ?_ | refine blk_alloc ?_ _)); exact BK101.out) hb); have n1_ := Aside0.mk (below_step (by repeat (first | (with_reducible first | exact HB.out | apply below_alloc | apply pw_below_drewN | apply below_drew1 | refine below_set ?_ GE101.out) | exact HB.out)) hb); clear BK101; clear HB; have BK101 := n0_; have HB := n1_; clear n0_ n1_; (try clear hb); (try clear hb2); (try clear hk); (try clear hi); have hcz14_0 : w13.cell? ⟨gb101, 0, none⟩ = some (.int .i64 a0_0) := (blk_cell BK101.out 0).trans rfl; have hcz14_1 : w13.cell? ⟨gb101, 1, none⟩ = some (.int .i64 a0_1) := (blk_cell BK101.out 1).trans rfl; have hcz14_2 : w13.cell? ⟨gb101, 2, none⟩ = some (.int .i64 a0_2) := (blk_cell BK101.out 2).trans rfl; have hcz14_3 : w13.cell? ⟨gb101, 3, none⟩ = some (.int .i64 a0_3) := (blk_cell BK101.out 3).trans rfl; have hfz14_0 := blk_frozen BK101.out 0; have hfz14_1 := blk_frozen BK101.out 1; have hfz14_2 := blk_frozen BK101.out 2; have hfz14_3 := blk_frozen BK101.out 3) | ((with_reducible refine gate_callee (f := 9) rfl ?_); refine goesL_ (some 14) rfl rfl Tryd.func9 (by kernel_rfl) rfl #[.agg #[.int .i64 a0_0, .int .i64 a0_1, .int .i64 a0_2, .int .i64 a0_3]] rfl (by (try simp only [List.map_toArray, List.map_cons, List.map_nil]); first | done | rfl | (simp only [List.length_drop, List.length_take]; rfl)) ?_; (with_reducible refine (donjonlaw6_Good.calls a0_0 a0_1 a0_2 a0_3 t103 t104 t105 t106 _ A7.out).mono ?_); rintro e w15 ⟨rfl, hb⟩; refine ⟨_, rfl, ?_⟩; have n0_ := Aside0.mk (blk_below (g := gb101) (o := .cells #[.int .i64 a0_0, .int .i64 a0_1, .int .i64 a0_2, .int .i64 a0_3] 26 (0, 0)) (by (with_reducible repeat (first | refine blk_drewN ?_ _ | refine blk_drew ?_ | refine blk_alloc ?_ _)); exact BK101.out) hb); have n1_ := Aside0.mk (below_step (by repeat (first | (with_reducible first | exact HB.out | apply below_alloc | apply pw_below_drewN | apply below_drew1 | refine below_set ?_ GE101.out) | exact HB.out)) hb); clear BK101; clear HB; have BK101 := n0_; have HB := n1_; clear n0_ n1_; (try clear hb); (try clear hb2); (try clear hk); (try clear hi)) | ((with_reducible refine gate_callee (f := 10) rfl ?_); refine goesL_ (some 16) rfl rfl Tryd.func10 (by kernel_rfl) rfl #[.int .i64 a1, .int .i64 20] rfl (by (try simp only [List.map_toArray, List.map_cons, List.map_nil]); first | done | rfl | (simp only [List.length_drop, List.length_take]; rfl)) ?_; (with_reducible refine (donjonlaw10_within.calls a1 20 t107 _ A8.out).mono ?_); rintro e w' ⟨rfl, ⟨nd, rfl⟩⟩; refine ⟨_, rfl, ?_⟩; (try (rw [drewN_self w15]; generalize hq_ : World.drewN w15 _ = w15; have n0_ : Aside0 (w15.heap[gb101]? = some (.cells #[.int .i64 a0_0, .int .i64 a0_1, .int .i64 a0_2, .int .i64 a0_3] 26 (0, 0))) := ⟨by rw [← hq_]; exact (by (with_reducible repeat (first | refine blk_drewN ?_ _ | refine blk_drew ?_ | refine blk_alloc ?_ _)); exact BK101.out)⟩; have n1_ : Aside0 (Below w.heap.size w w15) := ⟨by rw [← hq_]; exact (by repeat (first | (with_reducible first | exact HB.out | apply below_alloc | apply pw_below_drewN | apply below_drew1 | refine below_set ?_ GE101.out) | exact HB.out))⟩; clear BK101 HB hq_; have BK101 := n0_; have HB := n1_; clear n0_ n1_)); have hcz16_0 : w15.cell? ⟨gb101, 0, none⟩ = some (.int .i64 a0_0) := (blk_cell BK101.out 0).trans rfl; have hcz16_1 : w15.cell? ⟨gb101, 1, none⟩ = some (.int .i64 a0_1) := (blk_cell BK101.out 1).trans rfl; have hcz16_2 : w15.cell? ⟨gb101, 2, none⟩ = some (.int .i64 a0_2) := (blk_cell BK101.out 2).trans rfl; have hcz16_3 : w15.cell? ⟨gb101, 3, none⟩ = some (.int .i64 a0_3) := (blk_cell BK101.out 3).trans rfl; have hfz16_0 := blk_frozen BK101.out 0; have hfz16_1 := blk_frozen BK101.out 1; have hfz16_2 := blk_frozen BK101.out 2; have hfz16_3 := blk_frozen BK101.out 3))
        have n0_ : Aside0 (((((w15.setCell ⟨gb101, 0, none⟩ (.int .i64 t103)).setCell ⟨gb101, 1, none⟩ (.int .i64 t104)).setCell ⟨gb101, 2, none⟩ (.int .i64 t105)).setCell ⟨gb101, 3, none⟩ (.int .i64 t106)).heap[gb101]? = some (.cells #[.int .i64 t103, .int .i64 t104, .int .i64 t105, .int .i64 t106] 26 (0, 0))) := ⟨by (with_reducible repeat (first | refine blk_drewN ?_ _ | refine blk_drew ?_ | refine blk_alloc ?_ _)); refine blk_put (cs := #[.int .i64 t103, .int .i64 t104, .int .i64 t105, .int .i64 a0_3]) ?_ 3 _ rfl; (with_reducible repeat (first | refine blk_drewN ?_ _ | refine blk_drew ?_ | refine blk_alloc ?_ _)); refine blk_put (cs := #[.int .i64 t103, .int .i64 t104, .int .i64 a0_2, .int .i64 a0_3]) ?_ 2 _ rfl; (with_reducible repeat (first | refine blk_drewN ?_ _ | refine blk_drew ?_ | refine blk_alloc ?_ _)); refine blk_put (cs := #[.int .i64 t103, .int .i64 a0_1, .int .i64 a0_2, .int .i64 a0_3]) ?_ 1 _ rfl; (with_reducible repeat (first | refine blk_drewN ?_ _ | refine blk_drew ?_ | refine blk_alloc ?_ _)); refine blk_put (cs := #[.int .i64 a0_0, .int .i64 a0_1, .int .i64 a0_2, .int .i64 a0_3]) ?_ 0 _ rfl; (with_reducible repeat (first | refine blk_drewN ?_ _ | refine blk_drew ?_ | refine blk_alloc ?_ _)); exact BK101.out⟩
        have n1_ : Aside0 (Below w.heap.size w ((((w15.setCell ⟨gb101, 0, none⟩ (.int .i64 t103)).setCell ⟨gb101, 1, none⟩ (.int .i64 t104)).setCell ⟨gb101, 2, none⟩ (.int .i64 t105)).setCell ⟨gb101, 3, none⟩ (.int .i64 t106))) := ⟨by repeat (first | (with_reducible first | exact HB.out | apply below_alloc | apply pw_below_drewN | apply below_drew1 | refine below_set ?_ GE101.out) | exact HB.out)⟩
        (try clear BK101)
        (try clear HB)
        generalize ((((w15.setCell ⟨gb101, 0, none⟩ (.int .i64 t103)).setCell ⟨gb101, 1, none⟩ (.int .i64 t104)).setCell ⟨gb101, 2, none⟩ (.int .i64 t105)).setCell ⟨gb101, 3, none⟩ (.int .i64 t106)) = w17 at n0_ n1_ ⊢
        have BK101 := n0_
        have HB := n1_
        clear n0_ n1_
        have n0_ := Aside0.mk (blk_drew BK101.out)
        have n1_ := Aside0.mk (below_drew1 HB.out)
        clear BK101
        clear HB
        have BK101 := n0_
        have HB := n1_
        clear n0_ n1_
        refine start_ (n := 7) (S := fun w' => w'.cell? ⟨gb101, 0, none⟩ = some (.int .i64 t103) ∧ w'.cell? ⟨gb101, 1, none⟩ = some (.int .i64 t104) ∧ w'.cell? ⟨gb101, 2, none⟩ = some (.int .i64 t105) ∧ w'.cell? ⟨gb101, 3, none⟩ = some (.int .i64 t106)) (ds := []) #[false, false, false, false, false, false, false] (by kernel_rfl) rfl rfl ⟨(blk_cell BK101.out 0).trans rfl, (blk_cell BK101.out 1).trans rfl, (blk_cell BK101.out 2).trans rfl, (blk_cell BK101.out 3).trans rfl⟩ (fun hHeld => ?_)
        generalize w17.drew = w18 at BK101 HB hHeld ⊢
        refine pure_ (i := 0) (N := some 17) (v := ?_) (a' := ?_) #[true, false, false, false, false, false, false] rfl rfl (by kernel_rfl) (fun _ _ _ h => h) (Or.inl ⟨by rfl, ?_⟩) ?_ ?_
        rotate_left
        · intro w'
          go_simp
          with_reducible rfl
        rotate_left
        · simp only [Act.put, List.setIfInBounds_toArray, List.set_cons_zero, List.set_cons_succ, i64_w, i32_w]
          rfl
        refine pure_ (i := 2) (N := some 19) (v := ?_) (a' := ?_) #[true, false, true, false, false, false, false] rfl rfl (by kernel_rfl) (fun _ _ _ h => h) (Or.inl ⟨by rfl, ?_⟩) ?_ ?_
        rotate_left
        · intro w'
          go_simp
          with_reducible rfl
        rotate_left
        · simp only [Act.put, List.setIfInBounds_toArray, List.set_cons_zero, List.set_cons_succ, i64_w, i32_w]
          rfl
        refine take_ (i := 1) (N := some 18) (v := ?_) (a' := ?_) #[true, true, true, false, false, false, false] rfl rfl (by kernel_rfl) (fun _ _ _ h => h) (Or.inl ⟨by rfl, ?_⟩) hHeld ?_ ?_
        rotate_left
        · rintro w' ⟨s0, s1, s2, s3⟩
          go_simp
          with_reducible rfl
        rotate_left
        · simp only [Act.put, List.setIfInBounds_toArray, List.set_cons_zero, List.set_cons_succ, i64_w, i32_w]
          rfl
        refine join_ (σ := Value × Nat) 1 #[true, true, true, true, true, true, false] (fun s_ => [(20, s_.1), (9, .pointer (some ⟨s_.2, 0, none⟩)), (21, .agg #[.string (⟨#[47, 97]⟩ : ByteArray), .bool a2, .int .i64 0, .int .i64 0, .int .i64 0, .int .i64 0, .slice none 0 0, .int .i64 t103, .int .i64 t104, .int .i64 t105, .int .i64 t106, s_.1, .int .i64 0, .int .i64 0, .int .i64 0, .int .i64 0])]) (fun s_ w' => (w'.cell? ⟨gb101, 0, none⟩ = some (.int .i64 t103) ∧ w'.cell? ⟨gb101, 1, none⟩ = some (.int .i64 t104) ∧ w'.cell? ⟨gb101, 2, none⟩ = some (.int .i64 t105) ∧ w'.cell? ⟨gb101, 3, none⟩ = some (.int .i64 t106)) ∧ (Kd.R (Kd.int .i64) 2 w' w.heap.size (fun _ => True) s_.1 y108) ∧ (w'.heap[gb101]? = some (.cells #[.int .i64 t103, .int .i64 t104, .int .i64 t105, .int .i64 t106] 26 (0, 0))) ∧ (w'.heap[s_.2]? = some (.cells #[.string (⟨#[]⟩ : ByteArray), .bool false, .int .i64 0, .int .i64 0, .int .i64 0, .int .i64 0, .slice none 0 0, .int .i64 0, .int .i64 0, .int .i64 0, .int .i64 0, .slice none 0 0, .int .i64 0, .int .i64 0, .int .i64 0, .int .i64 0] 29 (0, 0))) ∧ (w.heap.size ≤ s_.2) ∧ (w.heap.size ≤ s_.2) ∧ (gb101 ≠ s_.2) ∧ (s_.2 ≠ gb101) ∧ (Below w.heap.size w w')) ?_ ?_
        rotate_left
        · intro hCont
          refine two_ (i := 3) (j := 5) (Ni := some 20) (Nj := some 9) #[true, true, true, true, false, false, false] #[true, true, true, false, false, true, false] rfl rfl rfl rfl (by kernel_rfl) (by decide) (by decide) (fun K hK => ?_) (fun K hK => ?_)
          · skip
            refine Kd.R_make_step (Kd.int .i64) _ 2 (by rfl) (N := 20) rfl 27 _ _ rfl t107 rfl rfl Tryd.underlying27 (.int .i64 0) 8 info2 rfl (by decide) (by omega) 0 (ok := fun _ => True) (okp := fun _ => True) rfl (fun _ hk => hk) trivial (of_decide_eq_true (by first | (with_reducible assumption) | assumption)) (Nat.le_trans (Nat.mul_le_mul_right _ (of_decide_eq_true (by first | (with_reducible assumption) | assumption) : t107.toNat ≤ 35184372088832)) (by omega)) (Below.refl _ _) (Nat.le_refl _) ?_
            intro v109 w19 ho20 hb hg_ hnew_
            clear hg_ hnew_
            (first | rw [← Ny108.out] at ho20 | (simp only [Int.reduceToNat] at ho20; rw [← Ny108.out] at ho20))
            have n0_ := Aside0.mk (Kd.R_lower ho20 (below_size (by repeat (first | (with_reducible first | exact HB.out | apply below_alloc | apply pw_below_drewN | apply below_drew1 | refine below_set ?_ GE101.out) | exact HB.out))))
            have n1_ := Aside0.mk (blk_below (g := gb101) (o := .cells #[.int .i64 t103, .int .i64 t104, .int .i64 t105, .int .i64 t106] 26 (0, 0)) (by (with_reducible repeat (first | refine blk_drewN ?_ _ | refine blk_drew ?_ | refine blk_alloc ?_ _)); exact BK101.out) hb)
            have n2_ := Aside0.mk (below_step (by repeat (first | (with_reducible first | exact HB.out | apply below_alloc | apply pw_below_drewN | apply below_drew1 | refine below_set ?_ GE101.out) | exact HB.out)) hb)
            clear BK101
            clear HB
            have HO110 := n0_
            have BK101 := n1_
            have HB := n2_
            clear n0_ n1_ n2_
            clear hb ho20
            obtain ⟨Ao21, co21, eo21⟩ := Kd.R_slice HO110.out
            (first | subst eo21 | (injection eo21 with f1_ f2_ f3_; have f4_ := f1_.symm; have f5_ := f3_.symm; clear f1_ f2_ f3_; subst f4_; subst f5_))
            refine hK.out _ _ ⟨(blk_cell BK101.out 0).trans rfl, (blk_cell BK101.out 1).trans rfl, (blk_cell BK101.out 2).trans rfl, (blk_cell BK101.out 3).trans rfl⟩ (fun hHeld => ?_)
            clear hK K
            refine norm_ (a' := ?_) ?_ ?_
            rotate_left
            · show Act.put _ (some 20) _ = _
              simp only [Act.put, List.setIfInBounds_toArray, List.set_cons_zero, List.set_cons_succ, i64_w, i32_w]
              rfl
            refine pure_ (i := 4) (N := some 21) (v := ?_) (a' := ?_) #[true, true, true, true, true, false, false] rfl rfl (by kernel_rfl) (fun _ _ _ h => h) (Or.inl ⟨by rfl, ?_⟩) ?_ ?_
            rotate_left
            · intro w'
              go_simp
              with_reducible rfl
            rotate_left
            · simp only [Act.put, List.setIfInBounds_toArray, List.set_cons_zero, List.set_cons_succ, i64_w, i32_w]
              rfl
            refine one_ (i := 5) (N := some 9) #[true, true, true, true, true, true, false] rfl rfl (by kernel_rfl) (by decide) (fun K hK => ?_)
            refine box_step ?hg (N := 9) ?hd (cs := #[.string (⟨#[]⟩ : ByteArray), .bool false, .int .i64 0, .int .i64 0, .int .i64 0, .int .i64 0, .slice none 0 0, .int .i64 0, .int .i64 0, .int .i64 0, .int .i64 0, .slice none 0 0, .int .i64 0, .int .i64 0, .int .i64 0, .int .i64 0]) (t := 29) ?hr ?_; (case hd => rfl); (case hg => rfl); (case hr => first | (go_simp; done) | (go_simp; rfl))
            intro gb111 hg w22 hbox hb
            have n0_ := Aside0.mk (Kd.R_below (by (with_reducible repeat (first | apply Kd.R_alloc | apply Kd.R_drewN | apply Kd.R_drew)); exact HO110.out) hb)
            have n1_ := Aside0.mk (blk_below (g := gb101) (o := .cells #[.int .i64 t103, .int .i64 t104, .int .i64 t105, .int .i64 t106] 26 (0, 0)) (by (with_reducible repeat (first | refine blk_drewN ?_ _ | refine blk_drew ?_ | refine blk_alloc ?_ _)); exact BK101.out) hb)
            have n2_ := Aside0.mk (below_step (by repeat (first | (with_reducible first | exact HB.out | apply below_alloc | apply pw_below_drewN | apply below_drew1 | refine below_set ?_ GE101.out) | exact HB.out)) hb)
            have n3_ := Aside0.mk (hbox)
            have n4_ := Aside0.mk ((by rw [hg]; exact (below_size (by repeat (first | (with_reducible first | exact HB.out | apply below_alloc | apply pw_below_drewN | apply below_drew1 | refine below_set ?_ GE101.out) | exact HB.out))) : w.heap.size ≤ gb111))
            have n5_ := Aside0.mk ((by rw [hg]; exact (below_size (by repeat (first | (with_reducible first | exact HB.out | apply below_alloc | apply pw_below_drewN | apply below_drew1 | refine below_set ?_ GE101.out) | exact HB.out))) : w.heap.size ≤ gb111))
            have n6_ := Aside0.mk ((by rw [hg]; exact Nat.ne_of_lt (blk_lt (g := gb101) (o := .cells #[.int .i64 t103, .int .i64 t104, .int .i64 t105, .int .i64 t106] 26 (0, 0)) (by (with_reducible repeat (first | refine blk_drewN ?_ _ | refine blk_drew ?_ | refine blk_alloc ?_ _)); exact BK101.out)) : gb101 ≠ gb111))
            have n7_ := Aside0.mk ((by rw [hg]; exact Nat.ne_of_gt (blk_lt (g := gb101) (o := .cells #[.int .i64 t103, .int .i64 t104, .int .i64 t105, .int .i64 t106] 26 (0, 0)) (by (with_reducible repeat (first | refine blk_drewN ?_ _ | refine blk_drew ?_ | refine blk_alloc ?_ _)); exact BK101.out)) : gb111 ≠ gb101))
            clear HO110
            clear BK101
            clear HB
            have HO110 := n0_
            have BK101 := n1_
            have HB := n2_
            have BK111 := n3_
            have GW111 := n4_
            have GE111 := n5_
            have NB101_111 := n6_
            have NB111_101 := n7_
            clear n0_ n1_ n2_ n3_ n4_ n5_ n6_ n7_
            clear hb hbox hg
            refine hK.out _ _ ⟨(blk_cell BK101.out 0).trans rfl, (blk_cell BK101.out 1).trans rfl, (blk_cell BK101.out 2).trans rfl, (blk_cell BK101.out 3).trans rfl⟩ (fun hHeld => ?_)
            clear hK K
            refine norm_ (a' := ?_) ?_ ?_
            rotate_left
            · show Act.put _ (some 9) _ = _
              simp only [Act.put, List.setIfInBounds_toArray, List.set_cons_zero, List.set_cons_succ, i64_w, i32_w]
              rfl
            exact norm_ (by simp only [putAll, Act.put, List.setIfInBounds_toArray, List.set_cons_zero, List.set_cons_succ]) (hCont (.slice Ao21 y108.length co21, gb111) _ ⟨hHeld, (by (with_reducible repeat (first | apply Kd.R_alloc | apply Kd.R_drewN | apply Kd.R_drew)); exact HO110.out), (by (with_reducible repeat (first | refine blk_drewN ?_ _ | refine blk_drew ?_ | refine blk_alloc ?_ _)); exact BK101.out), (by (with_reducible repeat (first | refine blk_drewN ?_ _ | refine blk_drew ?_ | refine blk_alloc ?_ _)); exact BK111.out), GW111.out, GE111.out, NB101_111.out, NB111_101.out, (by repeat (first | (with_reducible first | exact HB.out | apply below_alloc | apply pw_below_drewN | apply below_drew1 | refine below_set ?_ GE101.out | refine below_set ?_ GE111.out) | exact HB.out))⟩)
          · skip
            refine box_step ?hg (N := 9) ?hd (cs := #[.string (⟨#[]⟩ : ByteArray), .bool false, .int .i64 0, .int .i64 0, .int .i64 0, .int .i64 0, .slice none 0 0, .int .i64 0, .int .i64 0, .int .i64 0, .int .i64 0, .slice none 0 0, .int .i64 0, .int .i64 0, .int .i64 0, .int .i64 0]) (t := 29) ?hr ?_; (case hd => rfl); (case hg => rfl); (case hr => first | (go_simp; done) | (go_simp; rfl))
            intro gb111 hg w19 hbox hb
            have n0_ := Aside0.mk (blk_below (g := gb101) (o := .cells #[.int .i64 t103, .int .i64 t104, .int .i64 t105, .int .i64 t106] 26 (0, 0)) (by (with_reducible repeat (first | refine blk_drewN ?_ _ | refine blk_drew ?_ | refine blk_alloc ?_ _)); exact BK101.out) hb)
            have n1_ := Aside0.mk (below_step (by repeat (first | (with_reducible first | exact HB.out | apply below_alloc | apply pw_below_drewN | apply below_drew1 | refine below_set ?_ GE101.out) | exact HB.out)) hb)
            have n2_ := Aside0.mk (hbox)
            have n3_ := Aside0.mk ((by rw [hg]; exact (below_size (by repeat (first | (with_reducible first | exact HB.out | apply below_alloc | apply pw_below_drewN | apply below_drew1 | refine below_set ?_ GE101.out) | exact HB.out))) : w.heap.size ≤ gb111))
            have n4_ := Aside0.mk ((by rw [hg]; exact (below_size (by repeat (first | (with_reducible first | exact HB.out | apply below_alloc | apply pw_below_drewN | apply below_drew1 | refine below_set ?_ GE101.out) | exact HB.out))) : w.heap.size ≤ gb111))
            have n5_ := Aside0.mk ((by rw [hg]; exact Nat.ne_of_lt (blk_lt (g := gb101) (o := .cells #[.int .i64 t103, .int .i64 t104, .int .i64 t105, .int .i64 t106] 26 (0, 0)) (by (with_reducible repeat (first | refine blk_drewN ?_ _ | refine blk_drew ?_ | refine blk_alloc ?_ _)); exact BK101.out)) : gb101 ≠ gb111))
            have n6_ := Aside0.mk ((by rw [hg]; exact Nat.ne_of_gt (blk_lt (g := gb101) (o := .cells #[.int .i64 t103, .int .i64 t104, .int .i64 t105, .int .i64 t106] 26 (0, 0)) (by (with_reducible repeat (first | refine blk_drewN ?_ _ | refine blk_drew ?_ | refine blk_alloc ?_ _)); exact BK101.out)) : gb111 ≠ gb101))
            clear BK101
            clear HB
            have BK101 := n0_
            have HB := n1_
            have BK111 := n2_
            have GW111 := n3_
            have GE111 := n4_
            have NB101_111 := n5_
            have NB111_101 := n6_
            clear n0_ n1_ n2_ n3_ n4_ n5_ n6_
            clear hb hbox hg
            refine hK.out _ _ ⟨(blk_cell BK101.out 0).trans rfl, (blk_cell BK101.out 1).trans rfl, (blk_cell BK101.out 2).trans rfl, (blk_cell BK101.out 3).trans rfl⟩ (fun hHeld => ?_)
            clear hK K
            refine norm_ (a' := ?_) ?_ ?_
            rotate_left
            · show Act.put _ (some 9) _ = _
              simp only [Act.put, List.setIfInBounds_toArray, List.set_cons_zero, List.set_cons_succ, i64_w, i32_w]
              rfl
            refine one_ (i := 3) (N := some 20) #[true, true, true, true, false, true, false] rfl rfl (by kernel_rfl) (by decide) (fun K hK => ?_)
            refine Kd.R_make_step (Kd.int .i64) _ 2 (by rfl) (N := 20) rfl 27 _ _ rfl t107 rfl rfl Tryd.underlying27 (.int .i64 0) 8 info2 rfl (by decide) (by omega) 0 (ok := fun _ => True) (okp := fun _ => True) rfl (fun _ hk => hk) trivial (of_decide_eq_true (by first | (with_reducible assumption) | assumption)) (Nat.le_trans (Nat.mul_le_mul_right _ (of_decide_eq_true (by first | (with_reducible assumption) | assumption) : t107.toNat ≤ 35184372088832)) (by omega)) (Below.refl _ _) (Nat.le_refl _) ?_
            intro v109 w20 ho21 hb hg_ hnew_
            clear hg_ hnew_
            (first | rw [← Ny108.out] at ho21 | (simp only [Int.reduceToNat] at ho21; rw [← Ny108.out] at ho21))
            have n0_ := Aside0.mk (Kd.R_lower ho21 (below_size (by repeat (first | (with_reducible first | exact HB.out | apply below_alloc | apply pw_below_drewN | apply below_drew1 | refine below_set ?_ GE101.out | refine below_set ?_ GE111.out) | exact HB.out))))
            have n1_ := Aside0.mk (blk_below (g := gb101) (o := .cells #[.int .i64 t103, .int .i64 t104, .int .i64 t105, .int .i64 t106] 26 (0, 0)) (by (with_reducible repeat (first | refine blk_drewN ?_ _ | refine blk_drew ?_ | refine blk_alloc ?_ _)); exact BK101.out) hb)
            have n2_ := Aside0.mk (blk_below (g := gb111) (o := .cells #[.string (⟨#[]⟩ : ByteArray), .bool false, .int .i64 0, .int .i64 0, .int .i64 0, .int .i64 0, .slice none 0 0, .int .i64 0, .int .i64 0, .int .i64 0, .int .i64 0, .slice none 0 0, .int .i64 0, .int .i64 0, .int .i64 0, .int .i64 0] 29 (0, 0)) (by (with_reducible repeat (first | refine blk_drewN ?_ _ | refine blk_drew ?_ | refine blk_alloc ?_ _)); exact BK111.out) hb)
            have n3_ := Aside0.mk (below_step (by repeat (first | (with_reducible first | exact HB.out | apply below_alloc | apply pw_below_drewN | apply below_drew1 | refine below_set ?_ GE101.out | refine below_set ?_ GE111.out) | exact HB.out)) hb)
            clear BK101
            clear BK111
            clear HB
            have HO110 := n0_
            have BK101 := n1_
            have BK111 := n2_
            have HB := n3_
            clear n0_ n1_ n2_ n3_
            clear hb ho21
            obtain ⟨Ao22, co22, eo22⟩ := Kd.R_slice HO110.out
            (first | subst eo22 | (injection eo22 with f1_ f2_ f3_; have f4_ := f1_.symm; have f5_ := f3_.symm; clear f1_ f2_ f3_; subst f4_; subst f5_))
            refine hK.out _ _ ⟨(blk_cell BK101.out 0).trans rfl, (blk_cell BK101.out 1).trans rfl, (blk_cell BK101.out 2).trans rfl, (blk_cell BK101.out 3).trans rfl⟩ (fun hHeld => ?_)
            clear hK K
            refine norm_ (a' := ?_) ?_ ?_
            rotate_left
            · show Act.put _ (some 20) _ = _
              simp only [Act.put, List.setIfInBounds_toArray, List.set_cons_zero, List.set_cons_succ, i64_w, i32_w]
              rfl
            refine pure_ (i := 4) (N := some 21) (v := ?_) (a' := ?_) #[true, true, true, true, true, true, false] rfl rfl (by kernel_rfl) (fun _ _ _ h => h) (Or.inl ⟨by rfl, ?_⟩) ?_ ?_
            rotate_left
            · intro w'
              go_simp
              with_reducible rfl
            rotate_left
            · simp only [Act.put, List.setIfInBounds_toArray, List.set_cons_zero, List.set_cons_succ, i64_w, i32_w]
              rfl
            exact norm_ (by simp only [putAll, Act.put, List.setIfInBounds_toArray, List.set_cons_zero, List.set_cons_succ]) (hCont (.slice Ao22 y108.length co22, gb111) _ ⟨hHeld, (by (with_reducible repeat (first | apply Kd.R_alloc | apply Kd.R_drewN | apply Kd.R_drew)); exact HO110.out), (by (with_reducible repeat (first | refine blk_drewN ?_ _ | refine blk_drew ?_ | refine blk_alloc ?_ _)); exact BK101.out), (by (with_reducible repeat (first | refine blk_drewN ?_ _ | refine blk_drew ?_ | refine blk_alloc ?_ _)); exact BK111.out), GW111.out, GE111.out, NB101_111.out, NB111_101.out, (by repeat (first | (with_reducible first | exact HB.out | apply below_alloc | apply pw_below_drewN | apply below_drew1 | refine below_set ?_ GE101.out | refine below_set ?_ GE111.out) | exact HB.out))⟩)
        rintro ⟨v109, gb111⟩ w23 ⟨hS_, h0_, h1_, h2_, h3_, h4_, h5_, h6_, h7_⟩
        have n0_ : Aside0 (Kd.R (Kd.int .i64) 2 w23 w.heap.size (fun _ => True) v109 y108) := ⟨h0_⟩
        have n1_ : Aside0 (w23.heap[gb101]? = some (.cells #[.int .i64 t103, .int .i64 t104, .int .i64 t105, .int .i64 t106] 26 (0, 0))) := ⟨h1_⟩
        have n2_ : Aside0 (w23.heap[gb111]? = some (.cells #[.string (⟨#[]⟩ : ByteArray), .bool false, .int .i64 0, .int .i64 0, .int .i64 0, .int .i64 0, .slice none 0 0, .int .i64 0, .int .i64 0, .int .i64 0, .int .i64 0, .slice none 0 0, .int .i64 0, .int .i64 0, .int .i64 0, .int .i64 0] 29 (0, 0))) := ⟨h2_⟩
        have n3_ : Aside0 (w.heap.size ≤ gb111) := ⟨h3_⟩
        have n4_ : Aside0 (w.heap.size ≤ gb111) := ⟨h4_⟩
        have n5_ : Aside0 (gb101 ≠ gb111) := ⟨h5_⟩
        have n6_ : Aside0 (gb111 ≠ gb101) := ⟨h6_⟩
        have n7_ : Aside0 (Below w.heap.size w w23) := ⟨h7_⟩
        clear BK101
        clear HB
        clear h0_ h1_ h2_ h3_ h4_ h5_ h6_ h7_
        have HO110 := n0_
        have BK101 := n1_
        have BK111 := n2_
        have GW111 := n3_
        have GE111 := n4_
        have NB101_111 := n5_
        have NB111_101 := n6_
        have HB := n7_
        clear n0_ n1_ n2_ n3_ n4_ n5_ n6_ n7_
        have hHeld : w23.cell? ⟨gb101, 0, none⟩ = some (.int .i64 t103) ∧ w23.cell? ⟨gb101, 1, none⟩ = some (.int .i64 t104) ∧ w23.cell? ⟨gb101, 2, none⟩ = some (.int .i64 t105) ∧ w23.cell? ⟨gb101, 3, none⟩ = some (.int .i64 t106) := hS_
        obtain ⟨Ao24, co24, eo24⟩ := Kd.R_slice HO110.out
        (first | subst eo24 | (injection eo24 with f1_ f2_ f3_; have f4_ := f1_.symm; have f5_ := f3_.symm; clear f1_ f2_ f3_; subst f4_; subst f5_))
        refine norm_ (a' := ?_) ?_ ?_
        rotate_left
        · simp only [putAll, Act.put, List.setIfInBounds_toArray, List.set_cons_zero, List.set_cons_succ]
          rfl
        refine one_ (i := 6) (N := none) #[true, true, true, true, true, true, true] rfl rfl (by kernel_rfl) (by decide) (fun K hK => ?_)
        have hs25 : w23.cell? ⟨gb111, 0, none⟩ = some (.string (⟨#[]⟩ : ByteArray)) := (blk_cell BK111.out 0).trans rfl
        have hfs25 := blk_frozen BK111.out 0
        have hns25_0 := NB101_111.out
        have hms25_0 := NB111_101.out
        have hs26 : w23.cell? ⟨gb111, 1, none⟩ = some (.bool false) := (blk_cell BK111.out 1).trans rfl
        have hfs26 := blk_frozen BK111.out 1
        have hns26_0 := NB101_111.out
        have hms26_0 := NB111_101.out
        have hs27 : w23.cell? ⟨gb111, 2, none⟩ = some (.int .i64 0) := (blk_cell BK111.out 2).trans rfl
        have hfs27 := blk_frozen BK111.out 2
        have hns27_0 := NB101_111.out
        have hms27_0 := NB111_101.out
        have hs28 : w23.cell? ⟨gb111, 3, none⟩ = some (.int .i64 0) := (blk_cell BK111.out 3).trans rfl
        have hfs28 := blk_frozen BK111.out 3
        have hns28_0 := NB101_111.out
        have hms28_0 := NB111_101.out
        have hs29 : w23.cell? ⟨gb111, 4, none⟩ = some (.int .i64 0) := (blk_cell BK111.out 4).trans rfl
        have hfs29 := blk_frozen BK111.out 4
        have hns29_0 := NB101_111.out
        have hms29_0 := NB111_101.out
        have hs30 : w23.cell? ⟨gb111, 5, none⟩ = some (.int .i64 0) := (blk_cell BK111.out 5).trans rfl
        have hfs30 := blk_frozen BK111.out 5
        have hns30_0 := NB101_111.out
        have hms30_0 := NB111_101.out
        have hs31 : w23.cell? ⟨gb111, 6, none⟩ = some (.slice none 0 0) := (blk_cell BK111.out 6).trans rfl
        have hfs31 := blk_frozen BK111.out 6
        have hns31_0 := NB101_111.out
        have hms31_0 := NB111_101.out
        have hs32 : w23.cell? ⟨gb111, 7, none⟩ = some (.int .i64 0) := (blk_cell BK111.out 7).trans rfl
        have hfs32 := blk_frozen BK111.out 7
        have hns32_0 := NB101_111.out
        have hms32_0 := NB111_101.out
        have hs33 : w23.cell? ⟨gb111, 8, none⟩ = some (.int .i64 0) := (blk_cell BK111.out 8).trans rfl
        have hfs33 := blk_frozen BK111.out 8
        have hns33_0 := NB101_111.out
        have hms33_0 := NB111_101.out
        have hs34 : w23.cell? ⟨gb111, 9, none⟩ = some (.int .i64 0) := (blk_cell BK111.out 9).trans rfl
        have hfs34 := blk_frozen BK111.out 9
        have hns34_0 := NB101_111.out
        have hms34_0 := NB111_101.out
        have hs35 : w23.cell? ⟨gb111, 10, none⟩ = some (.int .i64 0) := (blk_cell BK111.out 10).trans rfl
        have hfs35 := blk_frozen BK111.out 10
        have hns35_0 := NB101_111.out
        have hms35_0 := NB111_101.out
        have hs36 : w23.cell? ⟨gb111, 11, none⟩ = some (.slice none 0 0) := (blk_cell BK111.out 11).trans rfl
        have hfs36 := blk_frozen BK111.out 11
        have hns36_0 := NB101_111.out
        have hms36_0 := NB111_101.out
        have hs37 : w23.cell? ⟨gb111, 12, none⟩ = some (.int .i64 0) := (blk_cell BK111.out 12).trans rfl
        have hfs37 := blk_frozen BK111.out 12
        have hns37_0 := NB101_111.out
        have hms37_0 := NB111_101.out
        have hs38 : w23.cell? ⟨gb111, 13, none⟩ = some (.int .i64 0) := (blk_cell BK111.out 13).trans rfl
        have hfs38 := blk_frozen BK111.out 13
        have hns38_0 := NB101_111.out
        have hms38_0 := NB111_101.out
        have hs39 : w23.cell? ⟨gb111, 14, none⟩ = some (.int .i64 0) := (blk_cell BK111.out 14).trans rfl
        have hfs39 := blk_frozen BK111.out 14
        have hns39_0 := NB101_111.out
        have hms39_0 := NB111_101.out
        have hs40 : w23.cell? ⟨gb111, 15, none⟩ = some (.int .i64 0) := (blk_cell BK111.out 15).trans rfl
        have hfs40 := blk_frozen BK111.out 15
        have hns40_0 := NB101_111.out
        have hms40_0 := NB111_101.out
        with_reducible refine skip_ (w1 := ?_) ?_ rfl ?_ ?_
        rotate_left
        · rfl
        · go_simp
          rfl
        refine hK.out _ _ ⟨((cell_far (p := ⟨gb111, _, none⟩) NB101_111.out _).trans (((cell_far (p := ⟨gb111, _, none⟩) NB101_111.out _).trans (((cell_far (p := ⟨gb111, _, none⟩) NB101_111.out _).trans (((cell_far (p := ⟨gb111, _, none⟩) NB101_111.out _).trans (((cell_far (p := ⟨gb111, _, none⟩) NB101_111.out _).trans (((cell_far (p := ⟨gb111, _, none⟩) NB101_111.out _).trans (((cell_far (p := ⟨gb111, _, none⟩) NB101_111.out _).trans (((cell_far (p := ⟨gb111, _, none⟩) NB101_111.out _).trans (((cell_far (p := ⟨gb111, _, none⟩) NB101_111.out _).trans (((cell_far (p := ⟨gb111, _, none⟩) NB101_111.out _).trans (((cell_far (p := ⟨gb111, _, none⟩) NB101_111.out _).trans (((cell_far (p := ⟨gb111, _, none⟩) NB101_111.out _).trans (((cell_far (p := ⟨gb111, _, none⟩) NB101_111.out _).trans (((cell_far (p := ⟨gb111, _, none⟩) NB101_111.out _).trans (((cell_far (p := ⟨gb111, _, none⟩) NB101_111.out _).trans (((cell_far (p := ⟨gb111, _, none⟩) NB101_111.out _).trans (hHeld.1)))))))))))))))))))))))))))))))), ((cell_far (p := ⟨gb111, _, none⟩) NB101_111.out _).trans (((cell_far (p := ⟨gb111, _, none⟩) NB101_111.out _).trans (((cell_far (p := ⟨gb111, _, none⟩) NB101_111.out _).trans (((cell_far (p := ⟨gb111, _, none⟩) NB101_111.out _).trans (((cell_far (p := ⟨gb111, _, none⟩) NB101_111.out _).trans (((cell_far (p := ⟨gb111, _, none⟩) NB101_111.out _).trans (((cell_far (p := ⟨gb111, _, none⟩) NB101_111.out _).trans (((cell_far (p := ⟨gb111, _, none⟩) NB101_111.out _).trans (((cell_far (p := ⟨gb111, _, none⟩) NB101_111.out _).trans (((cell_far (p := ⟨gb111, _, none⟩) NB101_111.out _).trans (((cell_far (p := ⟨gb111, _, none⟩) NB101_111.out _).trans (((cell_far (p := ⟨gb111, _, none⟩) NB101_111.out _).trans (((cell_far (p := ⟨gb111, _, none⟩) NB101_111.out _).trans (((cell_far (p := ⟨gb111, _, none⟩) NB101_111.out _).trans (((cell_far (p := ⟨gb111, _, none⟩) NB101_111.out _).trans (((cell_far (p := ⟨gb111, _, none⟩) NB101_111.out _).trans (hHeld.2.1)))))))))))))))))))))))))))))))), ((cell_far (p := ⟨gb111, _, none⟩) NB101_111.out _).trans (((cell_far (p := ⟨gb111, _, none⟩) NB101_111.out _).trans (((cell_far (p := ⟨gb111, _, none⟩) NB101_111.out _).trans (((cell_far (p := ⟨gb111, _, none⟩) NB101_111.out _).trans (((cell_far (p := ⟨gb111, _, none⟩) NB101_111.out _).trans (((cell_far (p := ⟨gb111, _, none⟩) NB101_111.out _).trans (((cell_far (p := ⟨gb111, _, none⟩) NB101_111.out _).trans (((cell_far (p := ⟨gb111, _, none⟩) NB101_111.out _).trans (((cell_far (p := ⟨gb111, _, none⟩) NB101_111.out _).trans (((cell_far (p := ⟨gb111, _, none⟩) NB101_111.out _).trans (((cell_far (p := ⟨gb111, _, none⟩) NB101_111.out _).trans (((cell_far (p := ⟨gb111, _, none⟩) NB101_111.out _).trans (((cell_far (p := ⟨gb111, _, none⟩) NB101_111.out _).trans (((cell_far (p := ⟨gb111, _, none⟩) NB101_111.out _).trans (((cell_far (p := ⟨gb111, _, none⟩) NB101_111.out _).trans (((cell_far (p := ⟨gb111, _, none⟩) NB101_111.out _).trans (hHeld.2.2.1)))))))))))))))))))))))))))))))), ((cell_far (p := ⟨gb111, _, none⟩) NB101_111.out _).trans (((cell_far (p := ⟨gb111, _, none⟩) NB101_111.out _).trans (((cell_far (p := ⟨gb111, _, none⟩) NB101_111.out _).trans (((cell_far (p := ⟨gb111, _, none⟩) NB101_111.out _).trans (((cell_far (p := ⟨gb111, _, none⟩) NB101_111.out _).trans (((cell_far (p := ⟨gb111, _, none⟩) NB101_111.out _).trans (((cell_far (p := ⟨gb111, _, none⟩) NB101_111.out _).trans (((cell_far (p := ⟨gb111, _, none⟩) NB101_111.out _).trans (((cell_far (p := ⟨gb111, _, none⟩) NB101_111.out _).trans (((cell_far (p := ⟨gb111, _, none⟩) NB101_111.out _).trans (((cell_far (p := ⟨gb111, _, none⟩) NB101_111.out _).trans (((cell_far (p := ⟨gb111, _, none⟩) NB101_111.out _).trans (((cell_far (p := ⟨gb111, _, none⟩) NB101_111.out _).trans (((cell_far (p := ⟨gb111, _, none⟩) NB101_111.out _).trans (((cell_far (p := ⟨gb111, _, none⟩) NB101_111.out _).trans (((cell_far (p := ⟨gb111, _, none⟩) NB101_111.out _).trans (hHeld.2.2.2))))))))))))))))))))))))))))))))⟩ (fun hHeld => ?_)
        clear hK K
        refine done_ (by kernel_rfl) ?_
        go_upto_if 22 with (fail)
        go_cut [] (fun wc => ∃ (kq : Nat) (x112000_10 : ByteArray), Aside0 (donjonlaw10_NodeRules.j0 kq t107 a2 a3 t103 t104 t105 t106 x112000_10 a2 0 0 0 0 t103 t104 t105 t106 y108 0 0 0 0 = some r) ∧ Aside0 (kq ≤ k) ∧ Aside0 (Kd.R (Kd.int .i64) 2 wc w.heap.size (fun _ => True) (.slice Ao24 y108.length co24) y108) ∧ Aside0 (wc.heap[gb101]? = some (.cells #[.int .i64 t103, .int .i64 t104, .int .i64 t105, .int .i64 t106] 26 (0, 0))) ∧ Aside0 (wc.heap[gb111]? = some (.cells #[.string x112000_10, .bool a2, .int .i64 0, .int .i64 0, .int .i64 0, .int .i64 0, (.slice none 0 0), .int .i64 t103, .int .i64 t104, .int .i64 t105, .int .i64 t106, (.slice Ao24 y108.length co24), .int .i64 0, .int .i64 0, .int .i64 0, .int .i64 0] 29 (0, 0))) ∧ Aside0 (Below w.heap.size w wc))
        case first =>
          have H := HC11.out
          clear HC11
          by_cases c41 : a3 = true
          · subst c41
            have H1 : (donjonlaw10_NodeRules.j0 k t107 a2 true t103 t104 t105 t106 (⟨#[47]⟩ : ByteArray) a2 0 0 0 0 t103 t104 t105 t106 y108 0 0 0 0) = some r := by rw [if_pos rfl] at H; exact H
            clear H
            have H := H1
            clear H1
            have H' := Aside0.mk H
            clear H
            have hnb42 := NB111_101.out
            have hnc42 := NB101_111.out
            have hcz43_0 : w23.cell? ⟨gb111, 0, none⟩ = some (.string (⟨#[]⟩ : ByteArray)) := (blk_cell BK111.out 0).trans rfl
            have hcz43_1 : w23.cell? ⟨gb111, 1, none⟩ = some (.bool false) := (blk_cell BK111.out 1).trans rfl
            have hcz43_2 : w23.cell? ⟨gb111, 2, none⟩ = some (.int .i64 0) := (blk_cell BK111.out 2).trans rfl
            have hcz43_3 : w23.cell? ⟨gb111, 3, none⟩ = some (.int .i64 0) := (blk_cell BK111.out 3).trans rfl
            have hcz43_4 : w23.cell? ⟨gb111, 4, none⟩ = some (.int .i64 0) := (blk_cell BK111.out 4).trans rfl
            have hcz43_5 : w23.cell? ⟨gb111, 5, none⟩ = some (.int .i64 0) := (blk_cell BK111.out 5).trans rfl
            have hcz43_6 : w23.cell? ⟨gb111, 6, none⟩ = some (.slice none 0 0) := (blk_cell BK111.out 6).trans rfl
            have hcz43_7 : w23.cell? ⟨gb111, 7, none⟩ = some (.int .i64 0) := (blk_cell BK111.out 7).trans rfl
            have hcz43_8 : w23.cell? ⟨gb111, 8, none⟩ = some (.int .i64 0) := (blk_cell BK111.out 8).trans rfl
            have hcz43_9 : w23.cell? ⟨gb111, 9, none⟩ = some (.int .i64 0) := (blk_cell BK111.out 9).trans rfl
            have hcz43_10 : w23.cell? ⟨gb111, 10, none⟩ = some (.int .i64 0) := (blk_cell BK111.out 10).trans rfl
            have hcz43_11 : w23.cell? ⟨gb111, 11, none⟩ = some (.slice none 0 0) := (blk_cell BK111.out 11).trans rfl
            have hcz43_12 : w23.cell? ⟨gb111, 12, none⟩ = some (.int .i64 0) := (blk_cell BK111.out 12).trans rfl
            have hcz43_13 : w23.cell? ⟨gb111, 13, none⟩ = some (.int .i64 0) := (blk_cell BK111.out 13).trans rfl
            have hcz43_14 : w23.cell? ⟨gb111, 14, none⟩ = some (.int .i64 0) := (blk_cell BK111.out 14).trans rfl
            have hcz43_15 : w23.cell? ⟨gb111, 15, none⟩ = some (.int .i64 0) := (blk_cell BK111.out 15).trans rfl
            have hfz43_0 := blk_frozen BK111.out 0
            have hfz43_1 := blk_frozen BK111.out 1
            have hfz43_2 := blk_frozen BK111.out 2
            have hfz43_3 := blk_frozen BK111.out 3
            have hfz43_4 := blk_frozen BK111.out 4
            have hfz43_5 := blk_frozen BK111.out 5
            have hfz43_6 := blk_frozen BK111.out 6
            have hfz43_7 := blk_frozen BK111.out 7
            have hfz43_8 := blk_frozen BK111.out 8
            have hfz43_9 := blk_frozen BK111.out 9
            have hfz43_10 := blk_frozen BK111.out 10
            have hfz43_11 := blk_frozen BK111.out 11
            have hfz43_12 := blk_frozen BK111.out 12
            have hfz43_13 := blk_frozen BK111.out 13
            have hfz43_14 := blk_frozen BK111.out 14
            have hfz43_15 := blk_frozen BK111.out 15
            go_wp2
            go_meet
            case rel => exact ⟨_, ((⟨#[47]⟩ : ByteArray)), H', ⟨by first | omega | exact Nat.le_refl _⟩, ⟨by (with_reducible repeat (first | apply Kd.R_alloc | apply Kd.R_drewN | apply Kd.R_drew)); exact Kd.R_mono (Kd.R_far (p := ⟨gb111, 0, none⟩) (Kd.R_far (p := ⟨gb111, 15, none⟩) (Kd.R_far (p := ⟨gb111, 14, none⟩) (Kd.R_far (p := ⟨gb111, 13, none⟩) (Kd.R_far (p := ⟨gb111, 12, none⟩) (Kd.R_far (p := ⟨gb111, 11, none⟩) (Kd.R_far (p := ⟨gb111, 10, none⟩) (Kd.R_far (p := ⟨gb111, 9, none⟩) (Kd.R_far (p := ⟨gb111, 8, none⟩) (Kd.R_far (p := ⟨gb111, 7, none⟩) (Kd.R_far (p := ⟨gb111, 6, none⟩) (Kd.R_far (p := ⟨gb111, 5, none⟩) (Kd.R_far (p := ⟨gb111, 4, none⟩) (Kd.R_far (p := ⟨gb111, 3, none⟩) (Kd.R_far (p := ⟨gb111, 2, none⟩) (Kd.R_far (p := ⟨gb111, 1, none⟩) (Kd.R_far (p := ⟨gb111, 0, none⟩) (Kd.R_types HO110.out BK111.out (by decide)) (fun _ hk => hk.2) (.string (⟨#[47, 97]⟩ : ByteArray))) (fun _ hk => hk.2) (.bool a2)) (fun _ hk => hk.2) (.int .i64 0)) (fun _ hk => hk.2) (.int .i64 0)) (fun _ hk => hk.2) (.int .i64 0)) (fun _ hk => hk.2) (.int .i64 0)) (fun _ hk => hk.2) (.slice none 0 0)) (fun _ hk => hk.2) (.int .i64 t103)) (fun _ hk => hk.2) (.int .i64 t104)) (fun _ hk => hk.2) (.int .i64 t105)) (fun _ hk => hk.2) (.int .i64 t106)) (fun _ hk => hk.2) (.slice Ao24 y108.length co24)) (fun _ hk => hk.2) (.int .i64 0)) (fun _ hk => hk.2) (.int .i64 0)) (fun _ hk => hk.2) (.int .i64 0)) (fun _ hk => hk.2) (.int .i64 0)) (fun _ hk => hk.2) (.string (⟨#[47]⟩ : ByteArray))) (fun _ hk => trivial)⟩, ⟨by (with_reducible repeat (first | refine blk_drewN ?_ _ | refine blk_drew ?_ | refine blk_alloc ?_ _)); refine blk_far ?_ NB101_111.out _; (with_reducible repeat (first | refine blk_drewN ?_ _ | refine blk_drew ?_ | refine blk_alloc ?_ _)); refine blk_far ?_ NB101_111.out _; (with_reducible repeat (first | refine blk_drewN ?_ _ | refine blk_drew ?_ | refine blk_alloc ?_ _)); refine blk_far ?_ NB101_111.out _; (with_reducible repeat (first | refine blk_drewN ?_ _ | refine blk_drew ?_ | refine blk_alloc ?_ _)); refine blk_far ?_ NB101_111.out _; (with_reducible repeat (first | refine blk_drewN ?_ _ | refine blk_drew ?_ | refine blk_alloc ?_ _)); refine blk_far ?_ NB101_111.out _; (with_reducible repeat (first | refine blk_drewN ?_ _ | refine blk_drew ?_ | refine blk_alloc ?_ _)); refine blk_far ?_ NB101_111.out _; (with_reducible repeat (first | refine blk_drewN ?_ _ | refine blk_drew ?_ | refine blk_alloc ?_ _)); refine blk_far ?_ NB101_111.out _; (with_reducible repeat (first | refine blk_drewN ?_ _ | refine blk_drew ?_ | refine blk_alloc ?_ _)); refine blk_far ?_ NB101_111.out _; (with_reducible repeat (first | refine blk_drewN ?_ _ | refine blk_drew ?_ | refine blk_alloc ?_ _)); refine blk_far ?_ NB101_111.out _; (with_reducible repeat (first | refine blk_drewN ?_ _ | refine blk_drew ?_ | refine blk_alloc ?_ _)); refine blk_far ?_ NB101_111.out _; (with_reducible repeat (first | refine blk_drewN ?_ _ | refine blk_drew ?_ | refine blk_alloc ?_ _)); refine blk_far ?_ NB101_111.out _; (with_reducible repeat (first | refine blk_drewN ?_ _ | refine blk_drew ?_ | refine blk_alloc ?_ _)); refine blk_far ?_ NB101_111.out _; (with_reducible repeat (first | refine blk_drewN ?_ _ | refine blk_drew ?_ | refine blk_alloc ?_ _)); refine blk_far ?_ NB101_111.out _; (with_reducible repeat (first | refine blk_drewN ?_ _ | refine blk_drew ?_ | refine blk_alloc ?_ _)); refine blk_far ?_ NB101_111.out _; (with_reducible repeat (first | refine blk_drewN ?_ _ | refine blk_drew ?_ | refine blk_alloc ?_ _)); refine blk_far ?_ NB101_111.out _; (with_reducible repeat (first | refine blk_drewN ?_ _ | refine blk_drew ?_ | refine blk_alloc ?_ _)); refine blk_far ?_ NB101_111.out _; (with_reducible repeat (first | refine blk_drewN ?_ _ | refine blk_drew ?_ | refine blk_alloc ?_ _)); refine blk_far ?_ NB101_111.out _; (with_reducible repeat (first | refine blk_drewN ?_ _ | refine blk_drew ?_ | refine blk_alloc ?_ _)); exact BK101.out⟩, ⟨by (with_reducible repeat (first | refine blk_drewN ?_ _ | refine blk_drew ?_ | refine blk_alloc ?_ _)); refine blk_put (cs := #[.string (⟨#[47, 97]⟩ : ByteArray), .bool a2, .int .i64 0, .int .i64 0, .int .i64 0, .int .i64 0, .slice none 0 0, .int .i64 t103, .int .i64 t104, .int .i64 t105, .int .i64 t106, .slice Ao24 y108.length co24, .int .i64 0, .int .i64 0, .int .i64 0, .int .i64 0]) ?_ 0 _ rfl; (with_reducible repeat (first | refine blk_drewN ?_ _ | refine blk_drew ?_ | refine blk_alloc ?_ _)); refine blk_put (cs := #[.string (⟨#[47, 97]⟩ : ByteArray), .bool a2, .int .i64 0, .int .i64 0, .int .i64 0, .int .i64 0, .slice none 0 0, .int .i64 t103, .int .i64 t104, .int .i64 t105, .int .i64 t106, .slice Ao24 y108.length co24, .int .i64 0, .int .i64 0, .int .i64 0, .int .i64 0]) ?_ 15 _ rfl; (with_reducible repeat (first | refine blk_drewN ?_ _ | refine blk_drew ?_ | refine blk_alloc ?_ _)); refine blk_put (cs := #[.string (⟨#[47, 97]⟩ : ByteArray), .bool a2, .int .i64 0, .int .i64 0, .int .i64 0, .int .i64 0, .slice none 0 0, .int .i64 t103, .int .i64 t104, .int .i64 t105, .int .i64 t106, .slice Ao24 y108.length co24, .int .i64 0, .int .i64 0, .int .i64 0, .int .i64 0]) ?_ 14 _ rfl; (with_reducible repeat (first | refine blk_drewN ?_ _ | refine blk_drew ?_ | refine blk_alloc ?_ _)); refine blk_put (cs := #[.string (⟨#[47, 97]⟩ : ByteArray), .bool a2, .int .i64 0, .int .i64 0, .int .i64 0, .int .i64 0, .slice none 0 0, .int .i64 t103, .int .i64 t104, .int .i64 t105, .int .i64 t106, .slice Ao24 y108.length co24, .int .i64 0, .int .i64 0, .int .i64 0, .int .i64 0]) ?_ 13 _ rfl; (with_reducible repeat (first | refine blk_drewN ?_ _ | refine blk_drew ?_ | refine blk_alloc ?_ _)); refine blk_put (cs := #[.string (⟨#[47, 97]⟩ : ByteArray), .bool a2, .int .i64 0, .int .i64 0, .int .i64 0, .int .i64 0, .slice none 0 0, .int .i64 t103, .int .i64 t104, .int .i64 t105, .int .i64 t106, .slice Ao24 y108.length co24, .int .i64 0, .int .i64 0, .int .i64 0, .int .i64 0]) ?_ 12 _ rfl; (with_reducible repeat (first | refine blk_drewN ?_ _ | refine blk_drew ?_ | refine blk_alloc ?_ _)); refine blk_put (cs := #[.string (⟨#[47, 97]⟩ : ByteArray), .bool a2, .int .i64 0, .int .i64 0, .int .i64 0, .int .i64 0, .slice none 0 0, .int .i64 t103, .int .i64 t104, .int .i64 t105, .int .i64 t106, .slice none 0 0, .int .i64 0, .int .i64 0, .int .i64 0, .int .i64 0]) ?_ 11 _ rfl; (with_reducible repeat (first | refine blk_drewN ?_ _ | refine blk_drew ?_ | refine blk_alloc ?_ _)); refine blk_put (cs := #[.string (⟨#[47, 97]⟩ : ByteArray), .bool a2, .int .i64 0, .int .i64 0, .int .i64 0, .int .i64 0, .slice none 0 0, .int .i64 t103, .int .i64 t104, .int .i64 t105, .int .i64 0, .slice none 0 0, .int .i64 0, .int .i64 0, .int .i64 0, .int .i64 0]) ?_ 10 _ rfl; (with_reducible repeat (first | refine blk_drewN ?_ _ | refine blk_drew ?_ | refine blk_alloc ?_ _)); refine blk_put (cs := #[.string (⟨#[47, 97]⟩ : ByteArray), .bool a2, .int .i64 0, .int .i64 0, .int .i64 0, .int .i64 0, .slice none 0 0, .int .i64 t103, .int .i64 t104, .int .i64 0, .int .i64 0, .slice none 0 0, .int .i64 0, .int .i64 0, .int .i64 0, .int .i64 0]) ?_ 9 _ rfl; (with_reducible repeat (first | refine blk_drewN ?_ _ | refine blk_drew ?_ | refine blk_alloc ?_ _)); refine blk_put (cs := #[.string (⟨#[47, 97]⟩ : ByteArray), .bool a2, .int .i64 0, .int .i64 0, .int .i64 0, .int .i64 0, .slice none 0 0, .int .i64 t103, .int .i64 0, .int .i64 0, .int .i64 0, .slice none 0 0, .int .i64 0, .int .i64 0, .int .i64 0, .int .i64 0]) ?_ 8 _ rfl; (with_reducible repeat (first | refine blk_drewN ?_ _ | refine blk_drew ?_ | refine blk_alloc ?_ _)); refine blk_put (cs := #[.string (⟨#[47, 97]⟩ : ByteArray), .bool a2, .int .i64 0, .int .i64 0, .int .i64 0, .int .i64 0, .slice none 0 0, .int .i64 0, .int .i64 0, .int .i64 0, .int .i64 0, .slice none 0 0, .int .i64 0, .int .i64 0, .int .i64 0, .int .i64 0]) ?_ 7 _ rfl; (with_reducible repeat (first | refine blk_drewN ?_ _ | refine blk_drew ?_ | refine blk_alloc ?_ _)); refine blk_put (cs := #[.string (⟨#[47, 97]⟩ : ByteArray), .bool a2, .int .i64 0, .int .i64 0, .int .i64 0, .int .i64 0, .slice none 0 0, .int .i64 0, .int .i64 0, .int .i64 0, .int .i64 0, .slice none 0 0, .int .i64 0, .int .i64 0, .int .i64 0, .int .i64 0]) ?_ 6 _ rfl; (with_reducible repeat (first | refine blk_drewN ?_ _ | refine blk_drew ?_ | refine blk_alloc ?_ _)); refine blk_put (cs := #[.string (⟨#[47, 97]⟩ : ByteArray), .bool a2, .int .i64 0, .int .i64 0, .int .i64 0, .int .i64 0, .slice none 0 0, .int .i64 0, .int .i64 0, .int .i64 0, .int .i64 0, .slice none 0 0, .int .i64 0, .int .i64 0, .int .i64 0, .int .i64 0]) ?_ 5 _ rfl; (with_reducible repeat (first | refine blk_drewN ?_ _ | refine blk_drew ?_ | refine blk_alloc ?_ _)); refine blk_put (cs := #[.string (⟨#[47, 97]⟩ : ByteArray), .bool a2, .int .i64 0, .int .i64 0, .int .i64 0, .int .i64 0, .slice none 0 0, .int .i64 0, .int .i64 0, .int .i64 0, .int .i64 0, .slice none 0 0, .int .i64 0, .int .i64 0, .int .i64 0, .int .i64 0]) ?_ 4 _ rfl; (with_reducible repeat (first | refine blk_drewN ?_ _ | refine blk_drew ?_ | refine blk_alloc ?_ _)); refine blk_put (cs := #[.string (⟨#[47, 97]⟩ : ByteArray), .bool a2, .int .i64 0, .int .i64 0, .int .i64 0, .int .i64 0, .slice none 0 0, .int .i64 0, .int .i64 0, .int .i64 0, .int .i64 0, .slice none 0 0, .int .i64 0, .int .i64 0, .int .i64 0, .int .i64 0]) ?_ 3 _ rfl; (with_reducible repeat (first | refine blk_drewN ?_ _ | refine blk_drew ?_ | refine blk_alloc ?_ _)); refine blk_put (cs := #[.string (⟨#[47, 97]⟩ : ByteArray), .bool a2, .int .i64 0, .int .i64 0, .int .i64 0, .int .i64 0, .slice none 0 0, .int .i64 0, .int .i64 0, .int .i64 0, .int .i64 0, .slice none 0 0, .int .i64 0, .int .i64 0, .int .i64 0, .int .i64 0]) ?_ 2 _ rfl; (with_reducible repeat (first | refine blk_drewN ?_ _ | refine blk_drew ?_ | refine blk_alloc ?_ _)); refine blk_put (cs := #[.string (⟨#[47, 97]⟩ : ByteArray), .bool false, .int .i64 0, .int .i64 0, .int .i64 0, .int .i64 0, .slice none 0 0, .int .i64 0, .int .i64 0, .int .i64 0, .int .i64 0, .slice none 0 0, .int .i64 0, .int .i64 0, .int .i64 0, .int .i64 0]) ?_ 1 _ rfl; (with_reducible repeat (first | refine blk_drewN ?_ _ | refine blk_drew ?_ | refine blk_alloc ?_ _)); refine blk_put (cs := #[.string (⟨#[]⟩ : ByteArray), .bool false, .int .i64 0, .int .i64 0, .int .i64 0, .int .i64 0, .slice none 0 0, .int .i64 0, .int .i64 0, .int .i64 0, .int .i64 0, .slice none 0 0, .int .i64 0, .int .i64 0, .int .i64 0, .int .i64 0]) ?_ 0 _ rfl; (with_reducible repeat (first | refine blk_drewN ?_ _ | refine blk_drew ?_ | refine blk_alloc ?_ _)); exact BK111.out⟩, ⟨by repeat (first | (with_reducible first | exact HB.out | apply below_alloc | apply pw_below_drewN | apply below_drew1 | refine below_set ?_ GE101.out | refine below_set ?_ GE111.out) | exact HB.out)⟩⟩
          · replace c41 := Bool.eq_false_iff.mpr c41
            subst c41
            have H1 : (donjonlaw10_NodeRules.j0 k t107 a2 false t103 t104 t105 t106 (⟨#[47, 97]⟩ : ByteArray) a2 0 0 0 0 t103 t104 t105 t106 y108 0 0 0 0) = some r := by rw [if_neg (show ¬ (false = true) by decide)] at H; exact H
            clear H
            have H := H1
            clear H1
            have H' := Aside0.mk H
            clear H
            go_wp2
            go_meet
            case rel => exact ⟨_, ((⟨#[47, 97]⟩ : ByteArray)), H', ⟨by first | omega | exact Nat.le_refl _⟩, ⟨by (with_reducible repeat (first | apply Kd.R_alloc | apply Kd.R_drewN | apply Kd.R_drew)); exact Kd.R_mono (Kd.R_far (p := ⟨gb111, 15, none⟩) (Kd.R_far (p := ⟨gb111, 14, none⟩) (Kd.R_far (p := ⟨gb111, 13, none⟩) (Kd.R_far (p := ⟨gb111, 12, none⟩) (Kd.R_far (p := ⟨gb111, 11, none⟩) (Kd.R_far (p := ⟨gb111, 10, none⟩) (Kd.R_far (p := ⟨gb111, 9, none⟩) (Kd.R_far (p := ⟨gb111, 8, none⟩) (Kd.R_far (p := ⟨gb111, 7, none⟩) (Kd.R_far (p := ⟨gb111, 6, none⟩) (Kd.R_far (p := ⟨gb111, 5, none⟩) (Kd.R_far (p := ⟨gb111, 4, none⟩) (Kd.R_far (p := ⟨gb111, 3, none⟩) (Kd.R_far (p := ⟨gb111, 2, none⟩) (Kd.R_far (p := ⟨gb111, 1, none⟩) (Kd.R_far (p := ⟨gb111, 0, none⟩) (Kd.R_types HO110.out BK111.out (by decide)) (fun _ hk => hk.2) (.string (⟨#[47, 97]⟩ : ByteArray))) (fun _ hk => hk.2) (.bool a2)) (fun _ hk => hk.2) (.int .i64 0)) (fun _ hk => hk.2) (.int .i64 0)) (fun _ hk => hk.2) (.int .i64 0)) (fun _ hk => hk.2) (.int .i64 0)) (fun _ hk => hk.2) (.slice none 0 0)) (fun _ hk => hk.2) (.int .i64 t103)) (fun _ hk => hk.2) (.int .i64 t104)) (fun _ hk => hk.2) (.int .i64 t105)) (fun _ hk => hk.2) (.int .i64 t106)) (fun _ hk => hk.2) (.slice Ao24 y108.length co24)) (fun _ hk => hk.2) (.int .i64 0)) (fun _ hk => hk.2) (.int .i64 0)) (fun _ hk => hk.2) (.int .i64 0)) (fun _ hk => hk.2) (.int .i64 0)) (fun _ hk => trivial)⟩, ⟨by (with_reducible repeat (first | refine blk_drewN ?_ _ | refine blk_drew ?_ | refine blk_alloc ?_ _)); refine blk_far ?_ NB101_111.out _; (with_reducible repeat (first | refine blk_drewN ?_ _ | refine blk_drew ?_ | refine blk_alloc ?_ _)); refine blk_far ?_ NB101_111.out _; (with_reducible repeat (first | refine blk_drewN ?_ _ | refine blk_drew ?_ | refine blk_alloc ?_ _)); refine blk_far ?_ NB101_111.out _; (with_reducible repeat (first | refine blk_drewN ?_ _ | refine blk_drew ?_ | refine blk_alloc ?_ _)); refine blk_far ?_ NB101_111.out _; (with_reducible repeat (first | refine blk_drewN ?_ _ | refine blk_drew ?_ | refine blk_alloc ?_ _)); refine blk_far ?_ NB101_111.out _; (with_reducible repeat (first | refine blk_drewN ?_ _ | refine blk_drew ?_ | refine blk_alloc ?_ _)); refine blk_far ?_ NB101_111.out _; (with_reducible repeat (first | refine blk_drewN ?_ _ | refine blk_drew ?_ | refine blk_alloc ?_ _)); refine blk_far ?_ NB101_111.out _; (with_reducible repeat (first | refine blk_drewN ?_ _ | refine blk_drew ?_ | refine blk_alloc ?_ _)); refine blk_far ?_ NB101_111.out _; (with_reducible repeat (first | refine blk_drewN ?_ _ | refine blk_drew ?_ | refine blk_alloc ?_ _)); refine blk_far ?_ NB101_111.out _; (with_reducible repeat (first | refine blk_drewN ?_ _ | refine blk_drew ?_ | refine blk_alloc ?_ _)); refine blk_far ?_ NB101_111.out _; (with_reducible repeat (first | refine blk_drewN ?_ _ | refine blk_drew ?_ | refine blk_alloc ?_ _)); refine blk_far ?_ NB101_111.out _; (with_reducible repeat (first | refine blk_drewN ?_ _ | refine blk_drew ?_ | refine blk_alloc ?_ _)); refine blk_far ?_ NB101_111.out _; (with_reducible repeat (first | refine blk_drewN ?_ _ | refine blk_drew ?_ | refine blk_alloc ?_ _)); refine blk_far ?_ NB101_111.out _; (with_reducible repeat (first | refine blk_drewN ?_ _ | refine blk_drew ?_ | refine blk_alloc ?_ _)); refine blk_far ?_ NB101_111.out _; (with_reducible repeat (first | refine blk_drewN ?_ _ | refine blk_drew ?_ | refine blk_alloc ?_ _)); refine blk_far ?_ NB101_111.out _; (with_reducible repeat (first | refine blk_drewN ?_ _ | refine blk_drew ?_ | refine blk_alloc ?_ _)); refine blk_far ?_ NB101_111.out _; (with_reducible repeat (first | refine blk_drewN ?_ _ | refine blk_drew ?_ | refine blk_alloc ?_ _)); exact BK101.out⟩, ⟨by (with_reducible repeat (first | refine blk_drewN ?_ _ | refine blk_drew ?_ | refine blk_alloc ?_ _)); refine blk_put (cs := #[.string (⟨#[47, 97]⟩ : ByteArray), .bool a2, .int .i64 0, .int .i64 0, .int .i64 0, .int .i64 0, .slice none 0 0, .int .i64 t103, .int .i64 t104, .int .i64 t105, .int .i64 t106, .slice Ao24 y108.length co24, .int .i64 0, .int .i64 0, .int .i64 0, .int .i64 0]) ?_ 15 _ rfl; (with_reducible repeat (first | refine blk_drewN ?_ _ | refine blk_drew ?_ | refine blk_alloc ?_ _)); refine blk_put (cs := #[.string (⟨#[47, 97]⟩ : ByteArray), .bool a2, .int .i64 0, .int .i64 0, .int .i64 0, .int .i64 0, .slice none 0 0, .int .i64 t103, .int .i64 t104, .int .i64 t105, .int .i64 t106, .slice Ao24 y108.length co24, .int .i64 0, .int .i64 0, .int .i64 0, .int .i64 0]) ?_ 14 _ rfl; (with_reducible repeat (first | refine blk_drewN ?_ _ | refine blk_drew ?_ | refine blk_alloc ?_ _)); refine blk_put (cs := #[.string (⟨#[47, 97]⟩ : ByteArray), .bool a2, .int .i64 0, .int .i64 0, .int .i64 0, .int .i64 0, .slice none 0 0, .int .i64 t103, .int .i64 t104, .int .i64 t105, .int .i64 t106, .slice Ao24 y108.length co24, .int .i64 0, .int .i64 0, .int .i64 0, .int .i64 0]) ?_ 13 _ rfl; (with_reducible repeat (first | refine blk_drewN ?_ _ | refine blk_drew ?_ | refine blk_alloc ?_ _)); refine blk_put (cs := #[.string (⟨#[47, 97]⟩ : ByteArray), .bool a2, .int .i64 0, .int .i64 0, .int .i64 0, .int .i64 0, .slice none 0 0, .int .i64 t103, .int .i64 t104, .int .i64 t105, .int .i64 t106, .slice Ao24 y108.length co24, .int .i64 0, .int .i64 0, .int .i64 0, .int .i64 0]) ?_ 12 _ rfl; (with_reducible repeat (first | refine blk_drewN ?_ _ | refine blk_drew ?_ | refine blk_alloc ?_ _)); refine blk_put (cs := #[.string (⟨#[47, 97]⟩ : ByteArray), .bool a2, .int .i64 0, .int .i64 0, .int .i64 0, .int .i64 0, .slice none 0 0, .int .i64 t103, .int .i64 t104, .int .i64 t105, .int .i64 t106, .slice none 0 0, .int .i64 0, .int .i64 0, .int .i64 0, .int .i64 0]) ?_ 11 _ rfl; (with_reducible repeat (first | refine blk_drewN ?_ _ | refine blk_drew ?_ | refine blk_alloc ?_ _)); refine blk_put (cs := #[.string (⟨#[47, 97]⟩ : ByteArray), .bool a2, .int .i64 0, .int .i64 0, .int .i64 0, .int .i64 0, .slice none 0 0, .int .i64 t103, .int .i64 t104, .int .i64 t105, .int .i64 0, .slice none 0 0, .int .i64 0, .int .i64 0, .int .i64 0, .int .i64 0]) ?_ 10 _ rfl; (with_reducible repeat (first | refine blk_drewN ?_ _ | refine blk_drew ?_ | refine blk_alloc ?_ _)); refine blk_put (cs := #[.string (⟨#[47, 97]⟩ : ByteArray), .bool a2, .int .i64 0, .int .i64 0, .int .i64 0, .int .i64 0, .slice none 0 0, .int .i64 t103, .int .i64 t104, .int .i64 0, .int .i64 0, .slice none 0 0, .int .i64 0, .int .i64 0, .int .i64 0, .int .i64 0]) ?_ 9 _ rfl; (with_reducible repeat (first | refine blk_drewN ?_ _ | refine blk_drew ?_ | refine blk_alloc ?_ _)); refine blk_put (cs := #[.string (⟨#[47, 97]⟩ : ByteArray), .bool a2, .int .i64 0, .int .i64 0, .int .i64 0, .int .i64 0, .slice none 0 0, .int .i64 t103, .int .i64 0, .int .i64 0, .int .i64 0, .slice none 0 0, .int .i64 0, .int .i64 0, .int .i64 0, .int .i64 0]) ?_ 8 _ rfl; (with_reducible repeat (first | refine blk_drewN ?_ _ | refine blk_drew ?_ | refine blk_alloc ?_ _)); refine blk_put (cs := #[.string (⟨#[47, 97]⟩ : ByteArray), .bool a2, .int .i64 0, .int .i64 0, .int .i64 0, .int .i64 0, .slice none 0 0, .int .i64 0, .int .i64 0, .int .i64 0, .int .i64 0, .slice none 0 0, .int .i64 0, .int .i64 0, .int .i64 0, .int .i64 0]) ?_ 7 _ rfl; (with_reducible repeat (first | refine blk_drewN ?_ _ | refine blk_drew ?_ | refine blk_alloc ?_ _)); refine blk_put (cs := #[.string (⟨#[47, 97]⟩ : ByteArray), .bool a2, .int .i64 0, .int .i64 0, .int .i64 0, .int .i64 0, .slice none 0 0, .int .i64 0, .int .i64 0, .int .i64 0, .int .i64 0, .slice none 0 0, .int .i64 0, .int .i64 0, .int .i64 0, .int .i64 0]) ?_ 6 _ rfl; (with_reducible repeat (first | refine blk_drewN ?_ _ | refine blk_drew ?_ | refine blk_alloc ?_ _)); refine blk_put (cs := #[.string (⟨#[47, 97]⟩ : ByteArray), .bool a2, .int .i64 0, .int .i64 0, .int .i64 0, .int .i64 0, .slice none 0 0, .int .i64 0, .int .i64 0, .int .i64 0, .int .i64 0, .slice none 0 0, .int .i64 0, .int .i64 0, .int .i64 0, .int .i64 0]) ?_ 5 _ rfl; (with_reducible repeat (first | refine blk_drewN ?_ _ | refine blk_drew ?_ | refine blk_alloc ?_ _)); refine blk_put (cs := #[.string (⟨#[47, 97]⟩ : ByteArray), .bool a2, .int .i64 0, .int .i64 0, .int .i64 0, .int .i64 0, .slice none 0 0, .int .i64 0, .int .i64 0, .int .i64 0, .int .i64 0, .slice none 0 0, .int .i64 0, .int .i64 0, .int .i64 0, .int .i64 0]) ?_ 4 _ rfl; (with_reducible repeat (first | refine blk_drewN ?_ _ | refine blk_drew ?_ | refine blk_alloc ?_ _)); refine blk_put (cs := #[.string (⟨#[47, 97]⟩ : ByteArray), .bool a2, .int .i64 0, .int .i64 0, .int .i64 0, .int .i64 0, .slice none 0 0, .int .i64 0, .int .i64 0, .int .i64 0, .int .i64 0, .slice none 0 0, .int .i64 0, .int .i64 0, .int .i64 0, .int .i64 0]) ?_ 3 _ rfl; (with_reducible repeat (first | refine blk_drewN ?_ _ | refine blk_drew ?_ | refine blk_alloc ?_ _)); refine blk_put (cs := #[.string (⟨#[47, 97]⟩ : ByteArray), .bool a2, .int .i64 0, .int .i64 0, .int .i64 0, .int .i64 0, .slice none 0 0, .int .i64 0, .int .i64 0, .int .i64 0, .int .i64 0, .slice none 0 0, .int .i64 0, .int .i64 0, .int .i64 0, .int .i64 0]) ?_ 2 _ rfl; (with_reducible repeat (first | refine blk_drewN ?_ _ | refine blk_drew ?_ | refine blk_alloc ?_ _)); refine blk_put (cs := #[.string (⟨#[47, 97]⟩ : ByteArray), .bool false, .int .i64 0, .int .i64 0, .int .i64 0, .int .i64 0, .slice none 0 0, .int .i64 0, .int .i64 0, .int .i64 0, .int .i64 0, .slice none 0 0, .int .i64 0, .int .i64 0, .int .i64 0, .int .i64 0]) ?_ 1 _ rfl; (with_reducible repeat (first | refine blk_drewN ?_ _ | refine blk_drew ?_ | refine blk_alloc ?_ _)); refine blk_put (cs := #[.string (⟨#[]⟩ : ByteArray), .bool false, .int .i64 0, .int .i64 0, .int .i64 0, .int .i64 0, .slice none 0 0, .int .i64 0, .int .i64 0, .int .i64 0, .int .i64 0, .slice none 0 0, .int .i64 0, .int .i64 0, .int .i64 0, .int .i64 0]) ?_ 0 _ rfl; (with_reducible repeat (first | refine blk_drewN ?_ _ | refine blk_drew ?_ | refine blk_alloc ?_ _)); exact BK111.out⟩, ⟨by repeat (first | (with_reducible first | exact HB.out | apply below_alloc | apply pw_below_drewN | apply below_drew1 | refine below_set ?_ GE101.out | refine below_set ?_ GE111.out) | exact HB.out)⟩⟩
        case rest =>
          clear HC11
          try clear c1
          try clear p2
          try clear c4
          try clear c5
          try clear c6
          try clear c9
          try clear c9b0
          try clear c9b1
          try clear c10
          try clear c10b0
          try clear c10b1
          try clear c41
          try clear c42
          try clear hcz14_0
          try clear hcz14_1
          try clear hcz14_2
          try clear hcz14_3
          try clear hcz16_0
          try clear hcz16_1
          try clear hcz16_2
          try clear hcz16_3
          try clear hcz43_0
          try clear hcz43_1
          try clear hcz43_10
          try clear hcz43_11
          try clear hcz43_12
          try clear hcz43_13
          try clear hcz43_14
          try clear hcz43_15
          try clear hcz43_2
          try clear hcz43_3
          try clear hcz43_4
          try clear hcz43_5
          try clear hcz43_6
          try clear hcz43_7
          try clear hcz43_8
          try clear hcz43_9
          try clear hfz14_0
          try clear hfz14_1
          try clear hfz14_2
          try clear hfz14_3
          try clear hfz16_0
          try clear hfz16_1
          try clear hfz16_2
          try clear hfz16_3
          try clear hfz43_0
          try clear hfz43_1
          try clear hfz43_10
          try clear hfz43_11
          try clear hfz43_12
          try clear hfz43_13
          try clear hfz43_14
          try clear hfz43_15
          try clear hfz43_2
          try clear hfz43_3
          try clear hfz43_4
          try clear hfz43_5
          try clear hfz43_6
          try clear hfz43_7
          try clear hfz43_8
          try clear hfz43_9
          obtain ⟨kq, x112000_10, HA, HJ10, HO_112011, BK101, BK111, HB⟩ := hcut
          cases kq with
          | zero => exact absurd HA.out (by simp [donjonlaw10_NodeRules.j0])
          | succ kj10 =>
            have H := HA.out
            clear HA
            simp only [donjonlaw10_NodeRules.j0] at H
            have HC44 := Aside0.mk H
            clear H
            go_upto_region 8 with (fail)
            go_cut [24] (fun v24 wc => ∃ (kq : Nat) (x24_43 : Bool), v24 = .bool x24_43 ∧ Aside0 (donjonlaw10_NodeRules.j1 kq t107 a2 0 x24_43 t103 t104 t105 t106 x112000_10 a2 0 0 0 0 t103 t104 t105 t106 y108 0 0 0 0 = some r) ∧ Aside0 (kq ≤ kj10) ∧ Aside0 (Kd.R (Kd.int .i64) 2 wc w.heap.size (fun _ => True) (.slice Ao24 y108.length co24) y108) ∧ Aside0 (wc.heap[gb101]? = some (.cells #[.int .i64 t103, .int .i64 t104, .int .i64 t105, .int .i64 t106] 26 (0, 0))) ∧ Aside0 (wc.heap[gb111]? = some (.cells #[.string x112000_10, .bool a2, .int .i64 0, .int .i64 0, .int .i64 0, .int .i64 0, (.slice none 0 0), .int .i64 t103, .int .i64 t104, .int .i64 t105, .int .i64 t106, (.slice Ao24 y108.length co24), .int .i64 0, .int .i64 0, .int .i64 0, .int .i64 0] 29 (0, 0))) ∧ Aside0 (Below w.heap.size w wc))
            case first =>
              have H := HC44.out
              clear HC44
              by_cases c45 : a3 = true
              · subst c45
                have H1 : (donjonlaw10_NodeRules.j1 kj10 t107 a2 0 (!a2) t103 t104 t105 t106 x112000_10 a2 0 0 0 0 t103 t104 t105 t106 y108 0 0 0 0) = some r := by rw [if_pos rfl] at H; exact H
                clear H
                have H := H1
                clear H1
                have H' := Aside0.mk H
                clear H
                go_wp2
                go_meet
                case rel => exact ⟨_, (!a2), (by first | rfl | (simp; done) | (simp [*]; done)), H', ⟨by have := HJ10.out; first | omega | exact Nat.le_refl _⟩, ⟨by (with_reducible repeat (first | apply Kd.R_alloc | apply Kd.R_drewN | apply Kd.R_drew)); exact HO_112011.out⟩, ⟨by (with_reducible repeat (first | refine blk_drewN ?_ _ | refine blk_drew ?_ | refine blk_alloc ?_ _)); exact BK101.out⟩, ⟨by (with_reducible repeat (first | refine blk_drewN ?_ _ | refine blk_drew ?_ | refine blk_alloc ?_ _)); exact BK111.out⟩, ⟨by repeat (first | (with_reducible first | exact HB.out | apply below_alloc | apply pw_below_drewN | apply below_drew1 | refine below_set ?_ GE101.out | refine below_set ?_ GE111.out) | exact HB.out)⟩⟩
              · replace c45 := Bool.eq_false_iff.mpr c45
                subst c45
                have H1 : (donjonlaw10_NodeRules.j1 kj10 t107 a2 0 false t103 t104 t105 t106 x112000_10 a2 0 0 0 0 t103 t104 t105 t106 y108 0 0 0 0) = some r := by rw [if_neg (show ¬ (false = true) by decide)] at H; exact H
                clear H
                have H := H1
                clear H1
                have H' := Aside0.mk H
                clear H
                go_wp2
                go_meet
                case rel => exact ⟨_, (false), (by first | rfl | (simp; done) | (simp [*]; done)), H', ⟨by have := HJ10.out; first | omega | exact Nat.le_refl _⟩, ⟨by (with_reducible repeat (first | apply Kd.R_alloc | apply Kd.R_drewN | apply Kd.R_drew)); exact HO_112011.out⟩, ⟨by (with_reducible repeat (first | refine blk_drewN ?_ _ | refine blk_drew ?_ | refine blk_alloc ?_ _)); exact BK101.out⟩, ⟨by (with_reducible repeat (first | refine blk_drewN ?_ _ | refine blk_drew ?_ | refine blk_alloc ?_ _)); exact BK111.out⟩, ⟨by repeat (first | (with_reducible first | exact HB.out | apply below_alloc | apply pw_below_drewN | apply below_drew1 | refine below_set ?_ GE101.out | refine below_set ?_ GE111.out) | exact HB.out)⟩⟩
            case rest =>
              clear HC44
              try clear c1
              try clear p2
              try clear c4
              try clear c5
              try clear c6
              try clear c9
              try clear c9b0
              try clear c9b1
              try clear c10
              try clear c10b0
              try clear c10b1
              try clear c41
              try clear c42
              try clear c45
              try clear hcz14_0
              try clear hcz14_1
              try clear hcz14_2
              try clear hcz14_3
              try clear hcz16_0
              try clear hcz16_1
              try clear hcz16_2
              try clear hcz16_3
              try clear hcz43_0
              try clear hcz43_1
              try clear hcz43_10
              try clear hcz43_11
              try clear hcz43_12
              try clear hcz43_13
              try clear hcz43_14
              try clear hcz43_15
              try clear hcz43_2
              try clear hcz43_3
              try clear hcz43_4
              try clear hcz43_5
              try clear hcz43_6
              try clear hcz43_7
              try clear hcz43_8
              try clear hcz43_9
              try clear hfz14_0
              try clear hfz14_1
              try clear hfz14_2
              try clear hfz14_3
              try clear hfz16_0
              try clear hfz16_1
              try clear hfz16_2
              try clear hfz16_3
              try clear hfz43_0
              try clear hfz43_1
              try clear hfz43_10
              try clear hfz43_11
              try clear hfz43_12
              try clear hfz43_13
              try clear hfz43_14
              try clear hfz43_15
              try clear hfz43_2
              try clear hfz43_3
              try clear hfz43_4
              try clear hfz43_5
              try clear hfz43_6
              try clear hfz43_7
              try clear hfz43_8
              try clear hfz43_9
              try clear p2
              obtain ⟨kq, x24_43, rfl, HA, HJ43, HO_112011, BK101, BK111, HB⟩ := hcut
              cases kq with
              | zero => exact absurd HA.out (by simp [donjonlaw10_NodeRules.j1])
              | succ kj43 =>
                have H := HA.out
                clear HA
                simp only [donjonlaw10_NodeRules.j1] at H
                by_cases c46 : x24_43 = true
                · subst c46
                  have H1 : ((node_Check.f kj43 x112000_10 a2 0 0 0 0 ([] : List (S62)) t103 t104 t105 t106 y108 0 0 0 0).bind fun t112 => (some (t112 == 3))) = some r := by rw [if_pos rfl] at H; exact H
                  clear H
                  have H := H1
                  clear H1
                  replace H := Option.bind_eq_some_iff.mp H
                  obtain ⟨t112, A470, H⟩ := H
                  replace H : (some (t112 == 3)) = some r := H
                  have A47 := Aside0.mk A470
                  clear A470
                  obtain rfl := Option.some.inj H
                  have hnb48 := NB111_101.out
                  have hnc48 := NB101_111.out
                  have hcz49_0 : wc.cell? ⟨gb111, 0, none⟩ = some (.string x112000_10) := (blk_cell BK111.out 0).trans rfl
                  have hcz49_1 : wc.cell? ⟨gb111, 1, none⟩ = some (.bool a2) := (blk_cell BK111.out 1).trans rfl
                  have hcz49_2 : wc.cell? ⟨gb111, 2, none⟩ = some (.int .i64 0) := (blk_cell BK111.out 2).trans rfl
                  have hcz49_3 : wc.cell? ⟨gb111, 3, none⟩ = some (.int .i64 0) := (blk_cell BK111.out 3).trans rfl
                  have hcz49_4 : wc.cell? ⟨gb111, 4, none⟩ = some (.int .i64 0) := (blk_cell BK111.out 4).trans rfl
                  have hcz49_5 : wc.cell? ⟨gb111, 5, none⟩ = some (.int .i64 0) := (blk_cell BK111.out 5).trans rfl
                  have hcz49_6 : wc.cell? ⟨gb111, 6, none⟩ = some (.slice none 0 0) := (blk_cell BK111.out 6).trans rfl
                  have hcz49_7 : wc.cell? ⟨gb111, 7, none⟩ = some (.int .i64 t103) := (blk_cell BK111.out 7).trans rfl
                  have hcz49_8 : wc.cell? ⟨gb111, 8, none⟩ = some (.int .i64 t104) := (blk_cell BK111.out 8).trans rfl
                  have hcz49_9 : wc.cell? ⟨gb111, 9, none⟩ = some (.int .i64 t105) := (blk_cell BK111.out 9).trans rfl
                  have hcz49_10 : wc.cell? ⟨gb111, 10, none⟩ = some (.int .i64 t106) := (blk_cell BK111.out 10).trans rfl
                  have hcz49_11 : wc.cell? ⟨gb111, 11, none⟩ = some (.slice Ao24 y108.length co24) := (blk_cell BK111.out 11).trans rfl
                  have hcz49_12 : wc.cell? ⟨gb111, 12, none⟩ = some (.int .i64 0) := (blk_cell BK111.out 12).trans rfl
                  have hcz49_13 : wc.cell? ⟨gb111, 13, none⟩ = some (.int .i64 0) := (blk_cell BK111.out 13).trans rfl
                  have hcz49_14 : wc.cell? ⟨gb111, 14, none⟩ = some (.int .i64 0) := (blk_cell BK111.out 14).trans rfl
                  have hcz49_15 : wc.cell? ⟨gb111, 15, none⟩ = some (.int .i64 0) := (blk_cell BK111.out 15).trans rfl
                  have hfz49_0 := blk_frozen BK111.out 0
                  have hfz49_1 := blk_frozen BK111.out 1
                  have hfz49_2 := blk_frozen BK111.out 2
                  have hfz49_3 := blk_frozen BK111.out 3
                  have hfz49_4 := blk_frozen BK111.out 4
                  have hfz49_5 := blk_frozen BK111.out 5
                  have hfz49_6 := blk_frozen BK111.out 6
                  have hfz49_7 := blk_frozen BK111.out 7
                  have hfz49_8 := blk_frozen BK111.out 8
                  have hfz49_9 := blk_frozen BK111.out 9
                  have hfz49_10 := blk_frozen BK111.out 10
                  have hfz49_11 := blk_frozen BK111.out 11
                  have hfz49_12 := blk_frozen BK111.out 12
                  have hfz49_13 := blk_frozen BK111.out 13
                  have hfz49_14 := blk_frozen BK111.out 14
                  have hfz49_15 := blk_frozen BK111.out 15
                  go_wp2_with (first | ((with_reducible refine gate_callee (f := 7) rfl ?_); refine goesL_ (some 49) rfl rfl Tryd.func7 (by kernel_rfl) rfl #[.agg #[.string x112000_10, .bool a2, .int .i64 0, .int .i64 0, .int .i64 0, .int .i64 0, .slice none 0 0, .int .i64 t103, .int .i64 t104, .int .i64 t105, .int .i64 t106, .slice Ao24 y108.length co24, .int .i64 0, .int .i64 0, .int .i64 0, .int .i64 0]] rfl (by (try simp only [List.map_toArray, List.map_cons, List.map_nil]); first | done | rfl | (simp only [List.length_drop, List.length_take]; rfl)) ?_; (refine (node_Check.calls kj43 x112000_10 a2 0 0 0 0 _ _ ([] : List (S62)) t103 t104 t105 t106 _ _ y108 0 0 0 0 t112 _ (by first | exact HG.out | exact MaxAt.below HG.out (by repeat (first | (with_reducible first | exact HB.out | apply below_alloc | apply pw_below_drewN | apply below_drew1 | refine below_set ?_ (Aside0.out (by assumption))) | exact HB.out))) ?side1 ?side2 ?side3 ?side4 A47.out).mono ?_); (case side1 => exact Kd.C_nil _ _); (case side2 => exact Nat.le_refl _); (case side3 => repeat (first | exact (Kd.R_reads' HO_112011.out).2.2 | (with_reducible refine Kd.C_alloc ?_ _) | (with_reducible refine Kd.C_drewN ?_ _) | (with_reducible refine Kd.C_drew ?_))); (case side4 => exact (Kd.R_reads' HO_112011.out).2.1); rintro e w50 ⟨rfl, hb⟩; refine ⟨_, rfl, ?_⟩; have n0_ := Aside0.mk (Kd.R_below (by (with_reducible repeat (first | apply Kd.R_alloc | apply Kd.R_drewN | apply Kd.R_drew)); exact HO_112011.out) hb); have n1_ := Aside0.mk (blk_below (g := gb101) (o := .cells #[.int .i64 t103, .int .i64 t104, .int .i64 t105, .int .i64 t106] 26 (0, 0)) (by (with_reducible repeat (first | refine blk_drewN ?_ _ | refine blk_drew ?_ | refine blk_alloc ?_ _)); exact BK101.out) hb); have n2_ := Aside0.mk (blk_below (g := gb111) (o := .cells #[.string x112000_10, .bool a2, .int .i64 0, .int .i64 0, .int .i64 0, .int .i64 0, .slice none 0 0, .int .i64 t103, .int .i64 t104, .int .i64 t105, .int .i64 t106, .slice Ao24 y108.length co24, .int .i64 0, .int .i64 0, .int .i64 0, .int .i64 0] 29 (0, 0)) (by (with_reducible repeat (first | refine blk_drewN ?_ _ | refine blk_drew ?_ | refine blk_alloc ?_ _)); exact BK111.out) hb); have n3_ := Aside0.mk (below_step (by repeat (first | (with_reducible first | exact HB.out | apply below_alloc | apply pw_below_drewN | apply below_drew1 | refine below_set ?_ GE101.out | refine below_set ?_ GE111.out) | exact HB.out)) hb); clear HO_112011; clear BK101; clear BK111; clear HB; have HO_112011 := n0_; have BK101 := n1_; have BK111 := n2_; have HB := n3_; clear n0_ n1_ n2_ n3_; (try clear hb); (try clear hb2); (try clear hk); (try clear hi)))
                  go_ret
                  exact ⟨by first | rfl | (simp [errW_none, errW_some] <;> rfl) | (simp [*, errW_none, errW_some] <;> rfl), by repeat (first | (with_reducible first | exact HB.out | apply below_alloc | apply pw_below_drewN | apply below_drew1 | refine below_set ?_ GE101.out | refine below_set ?_ GE111.out) | exact HB.out)⟩
                · replace c46 := Bool.eq_false_iff.mpr c46
                  subst c46
                  have H1 : (if a2 = true then (if (!(t103 == 0) || (!(t104 == 0) || (!(t105 == 0) || (!(t106 == 0))))) = true then (donjonlaw10_NodeRules.j2 kj43 t107 a2 0 true x112000_10 a2 0 0 0 0 t103 t104 t105 t106 y108 0 0 0 0) else (donjonlaw10_NodeRules.j2 kj43 t107 a2 0 (decide (t107 > 0)) x112000_10 a2 0 0 0 0 t103 t104 t105 t106 y108 0 0 0 0)) else (donjonlaw10_NodeRules.j2 kj43 t107 a2 0 false x112000_10 a2 0 0 0 0 t103 t104 t105 t106 y108 0 0 0 0)) = some r := by rw [if_neg (show ¬ (false = true) by decide)] at H; exact H
                  clear H
                  have H := H1
                  clear H1
                  have HC51 := Aside0.mk H
                  clear H
                  go_upto_region 10 with (fail)
                  go_cut [30] (fun v30 wc => ∃ (kq : Nat) (x30_50 : Bool), v30 = .bool x30_50 ∧ Aside0 (donjonlaw10_NodeRules.j2 kq t107 a2 0 x30_50 x112000_10 a2 0 0 0 0 t103 t104 t105 t106 y108 0 0 0 0 = some r) ∧ Aside0 (kq ≤ kj43) ∧ Aside0 (Kd.R (Kd.int .i64) 2 wc w.heap.size (fun _ => True) (.slice Ao24 y108.length co24) y108) ∧ Aside0 (wc.heap[gb101]? = some (.cells #[.int .i64 t103, .int .i64 t104, .int .i64 t105, .int .i64 t106] 26 (0, 0))) ∧ Aside0 (wc.heap[gb111]? = some (.cells #[.string x112000_10, .bool a2, .int .i64 0, .int .i64 0, .int .i64 0, .int .i64 0, (.slice none 0 0), .int .i64 t103, .int .i64 t104, .int .i64 t105, .int .i64 t106, (.slice Ao24 y108.length co24), .int .i64 0, .int .i64 0, .int .i64 0, .int .i64 0] 29 (0, 0))) ∧ Aside0 (Below w.heap.size w wc))
                  case first =>
                    have H := HC51.out
                    clear HC51
                    by_cases c52 : a2 = true
                    · subst c52
                      have H1 : (if (!(t103 == 0) || (!(t104 == 0) || (!(t105 == 0) || (!(t106 == 0))))) = true then (donjonlaw10_NodeRules.j2 kj43 t107 true 0 true x112000_10 true 0 0 0 0 t103 t104 t105 t106 y108 0 0 0 0) else (donjonlaw10_NodeRules.j2 kj43 t107 true 0 (decide (t107 > 0)) x112000_10 true 0 0 0 0 t103 t104 t105 t106 y108 0 0 0 0)) = some r := by rw [if_pos rfl] at H; exact H
                      clear H
                      have H := H1
                      clear H1
                      by_cases c53 : (!(t103 == 0) || (!(t104 == 0) || (!(t105 == 0) || (!(t106 == 0))))) = true
                      · rw [if_pos c53] at H
                        have c53b0 : (!(t103 == 0) || (!(t104 == 0) || (!(t105 == 0) || (!(t106 == 0))))) = true := c53
                        clear c53
                        (first | rw [c53b0] | (simp only [i64_w, i32_w]; rw [c53b0]) | skip)
                        have H' := Aside0.mk H
                        clear H
                        have hnb54 := NB101_111.out
                        have hnc54 := NB111_101.out
                        have hcz55_0 : wc.cell? ⟨gb101, 0, none⟩ = some (.int .i64 t103) := (blk_cell BK101.out 0).trans rfl
                        have hcz55_1 : wc.cell? ⟨gb101, 1, none⟩ = some (.int .i64 t104) := (blk_cell BK101.out 1).trans rfl
                        have hcz55_2 : wc.cell? ⟨gb101, 2, none⟩ = some (.int .i64 t105) := (blk_cell BK101.out 2).trans rfl
                        have hcz55_3 : wc.cell? ⟨gb101, 3, none⟩ = some (.int .i64 t106) := (blk_cell BK101.out 3).trans rfl
                        have hfz55_0 := blk_frozen BK101.out 0
                        have hfz55_1 := blk_frozen BK101.out 1
                        have hfz55_2 := blk_frozen BK101.out 2
                        have hfz55_3 := blk_frozen BK101.out 3
                        go_wp2
                        go_meet
                        case rel => exact ⟨_, (true), (by first | rfl | (simp; done) | (simp [*]; done)), H', ⟨by have := HJ10.out; have := HJ43.out; first | omega | exact Nat.le_refl _⟩, ⟨by (with_reducible repeat (first | apply Kd.R_alloc | apply Kd.R_drewN | apply Kd.R_drew)); exact HO_112011.out⟩, ⟨by (with_reducible repeat (first | refine blk_drewN ?_ _ | refine blk_drew ?_ | refine blk_alloc ?_ _)); exact BK101.out⟩, ⟨by (with_reducible repeat (first | refine blk_drewN ?_ _ | refine blk_drew ?_ | refine blk_alloc ?_ _)); exact BK111.out⟩, ⟨by repeat (first | (with_reducible first | exact HB.out | apply below_alloc | apply pw_below_drewN | apply below_drew1 | refine below_set ?_ GE101.out | refine below_set ?_ GE111.out) | exact HB.out)⟩⟩
                      · rw [if_neg c53] at H
                        have c53b0 : (!(t103 == 0) || (!(t104 == 0) || (!(t105 == 0) || (!(t106 == 0))))) = false := by simpa using c53
                        clear c53
                        (first | rw [c53b0] | (simp only [i64_w, i32_w]; rw [c53b0]) | skip)
                        have H' := Aside0.mk H
                        clear H
                        have hnb56 := NB101_111.out
                        have hnc56 := NB111_101.out
                        have hcz57_0 : wc.cell? ⟨gb101, 0, none⟩ = some (.int .i64 t103) := (blk_cell BK101.out 0).trans rfl
                        have hcz57_1 : wc.cell? ⟨gb101, 1, none⟩ = some (.int .i64 t104) := (blk_cell BK101.out 1).trans rfl
                        have hcz57_2 : wc.cell? ⟨gb101, 2, none⟩ = some (.int .i64 t105) := (blk_cell BK101.out 2).trans rfl
                        have hcz57_3 : wc.cell? ⟨gb101, 3, none⟩ = some (.int .i64 t106) := (blk_cell BK101.out 3).trans rfl
                        have hfz57_0 := blk_frozen BK101.out 0
                        have hfz57_1 := blk_frozen BK101.out 1
                        have hfz57_2 := blk_frozen BK101.out 2
                        have hfz57_3 := blk_frozen BK101.out 3
                        go_wp2
                        go_meet
                        case rel => exact ⟨_, (decide (t107 > 0)), (by first | rfl | (simp; done) | (simp [*]; done)), H', ⟨by have := HJ10.out; have := HJ43.out; first | omega | exact Nat.le_refl _⟩, ⟨by (with_reducible repeat (first | apply Kd.R_alloc | apply Kd.R_drewN | apply Kd.R_drew)); exact HO_112011.out⟩, ⟨by (with_reducible repeat (first | refine blk_drewN ?_ _ | refine blk_drew ?_ | refine blk_alloc ?_ _)); exact BK101.out⟩, ⟨by (with_reducible repeat (first | refine blk_drewN ?_ _ | refine blk_drew ?_ | refine blk_alloc ?_ _)); exact BK111.out⟩, ⟨by repeat (first | (with_reducible first | exact HB.out | apply below_alloc | apply pw_below_drewN | apply below_drew1 | refine below_set ?_ GE101.out | refine below_set ?_ GE111.out) | exact HB.out)⟩⟩
                    · replace c52 := Bool.eq_false_iff.mpr c52
                      subst c52
                      have H1 : (donjonlaw10_NodeRules.j2 kj43 t107 false 0 false x112000_10 false 0 0 0 0 t103 t104 t105 t106 y108 0 0 0 0) = some r := by rw [if_neg (show ¬ (false = true) by decide)] at H; exact H
                      clear H
                      have H := H1
                      clear H1
                      have H' := Aside0.mk H
                      clear H
                      go_wp2
                      go_meet
                      case rel => exact ⟨_, (false), (by first | rfl | (simp; done) | (simp [*]; done)), H', ⟨by have := HJ10.out; have := HJ43.out; first | omega | exact Nat.le_refl _⟩, ⟨by (with_reducible repeat (first | apply Kd.R_alloc | apply Kd.R_drewN | apply Kd.R_drew)); exact HO_112011.out⟩, ⟨by (with_reducible repeat (first | refine blk_drewN ?_ _ | refine blk_drew ?_ | refine blk_alloc ?_ _)); exact BK101.out⟩, ⟨by (with_reducible repeat (first | refine blk_drewN ?_ _ | refine blk_drew ?_ | refine blk_alloc ?_ _)); exact BK111.out⟩, ⟨by repeat (first | (with_reducible first | exact HB.out | apply below_alloc | apply pw_below_drewN | apply below_drew1 | refine below_set ?_ GE101.out | refine below_set ?_ GE111.out) | exact HB.out)⟩⟩
                  case rest =>
                    clear HC51
                    try clear c1
                    try clear p2
                    try clear c4
                    try clear c5
                    try clear c6
                    try clear c7
                    try clear c9
                    try clear c9b0
                    try clear c9b1
                    try clear c10
                    try clear c10b0
                    try clear c10b1
                    try clear c41
                    try clear c42
                    try clear c45
                    try clear c46
                    try clear c48
                    try clear c52
                    try clear c53
                    try clear c53b0
                    try clear c54
                    try clear c56
                    try clear hcz14_0
                    try clear hcz14_1
                    try clear hcz14_2
                    try clear hcz14_3
                    try clear hcz16_0
                    try clear hcz16_1
                    try clear hcz16_2
                    try clear hcz16_3
                    try clear hcz43_0
                    try clear hcz43_1
                    try clear hcz43_10
                    try clear hcz43_11
                    try clear hcz43_12
                    try clear hcz43_13
                    try clear hcz43_14
                    try clear hcz43_15
                    try clear hcz43_2
                    try clear hcz43_3
                    try clear hcz43_4
                    try clear hcz43_5
                    try clear hcz43_6
                    try clear hcz43_7
                    try clear hcz43_8
                    try clear hcz43_9
                    try clear hcz49_0
                    try clear hcz49_1
                    try clear hcz49_10
                    try clear hcz49_11
                    try clear hcz49_12
                    try clear hcz49_13
                    try clear hcz49_14
                    try clear hcz49_15
                    try clear hcz49_2
                    try clear hcz49_3
                    try clear hcz49_4
                    try clear hcz49_5
                    try clear hcz49_6
                    try clear hcz49_7
                    try clear hcz49_8
                    try clear hcz49_9
                    try clear hcz55_0
                    try clear hcz55_1
                    try clear hcz55_2
                    try clear hcz55_3
                    try clear hcz57_0
                    try clear hcz57_1
                    try clear hcz57_2
                    try clear hcz57_3
                    try clear hfz14_0
                    try clear hfz14_1
                    try clear hfz14_2
                    try clear hfz14_3
                    try clear hfz16_0
                    try clear hfz16_1
                    try clear hfz16_2
                    try clear hfz16_3
                    try clear hfz43_0
                    try clear hfz43_1
                    try clear hfz43_10
                    try clear hfz43_11
                    try clear hfz43_12
                    try clear hfz43_13
                    try clear hfz43_14
                    try clear hfz43_15
                    try clear hfz43_2
                    try clear hfz43_3
                    try clear hfz43_4
                    try clear hfz43_5
                    try clear hfz43_6
                    try clear hfz43_7
                    try clear hfz43_8
                    try clear hfz43_9
                    try clear hfz49_0
                    try clear hfz49_1
                    try clear hfz49_10
                    try clear hfz49_11
                    try clear hfz49_12
                    try clear hfz49_13
                    try clear hfz49_14
                    try clear hfz49_15
                    try clear hfz49_2
                    try clear hfz49_3
                    try clear hfz49_4
                    try clear hfz49_5
                    try clear hfz49_6
                    try clear hfz49_7
                    try clear hfz49_8
                    try clear hfz49_9
                    try clear hfz55_0
                    try clear hfz55_1
                    try clear hfz55_2
                    try clear hfz55_3
                    try clear hfz57_0
                    try clear hfz57_1
                    try clear hfz57_2
                    try clear hfz57_3
                    try clear p2
                    obtain ⟨kq, x30_50, rfl, HA, HJ50, HO_112011, BK101, BK111, HB⟩ := hcut
                    cases kq with
                    | zero => exact absurd HA.out (by simp [donjonlaw10_NodeRules.j2])
                    | succ kj50 =>
                      have H := HA.out
                      clear HA
                      simp only [donjonlaw10_NodeRules.j2] at H
                      by_cases c58 : x30_50 = true
                      · subst c58
                        have H1 : ((node_Check.f kj50 x112000_10 a2 0 0 0 0 ([] : List (S62)) t103 t104 t105 t106 y108 0 0 0 0).bind fun t113 => (some (t113 == 11))) = some r := by rw [if_pos rfl] at H; exact H
                        clear H
                        have H := H1
                        clear H1
                        replace H := Option.bind_eq_some_iff.mp H
                        obtain ⟨t113, A590, H⟩ := H
                        replace H : (some (t113 == 11)) = some r := H
                        have A59 := Aside0.mk A590
                        clear A590
                        obtain rfl := Option.some.inj H
                        have hnb60 := NB111_101.out
                        have hnc60 := NB101_111.out
                        have hcz61_0 : wc.cell? ⟨gb111, 0, none⟩ = some (.string x112000_10) := (blk_cell BK111.out 0).trans rfl
                        have hcz61_1 : wc.cell? ⟨gb111, 1, none⟩ = some (.bool a2) := (blk_cell BK111.out 1).trans rfl
                        have hcz61_2 : wc.cell? ⟨gb111, 2, none⟩ = some (.int .i64 0) := (blk_cell BK111.out 2).trans rfl
                        have hcz61_3 : wc.cell? ⟨gb111, 3, none⟩ = some (.int .i64 0) := (blk_cell BK111.out 3).trans rfl
                        have hcz61_4 : wc.cell? ⟨gb111, 4, none⟩ = some (.int .i64 0) := (blk_cell BK111.out 4).trans rfl
                        have hcz61_5 : wc.cell? ⟨gb111, 5, none⟩ = some (.int .i64 0) := (blk_cell BK111.out 5).trans rfl
                        have hcz61_6 : wc.cell? ⟨gb111, 6, none⟩ = some (.slice none 0 0) := (blk_cell BK111.out 6).trans rfl
                        have hcz61_7 : wc.cell? ⟨gb111, 7, none⟩ = some (.int .i64 t103) := (blk_cell BK111.out 7).trans rfl
                        have hcz61_8 : wc.cell? ⟨gb111, 8, none⟩ = some (.int .i64 t104) := (blk_cell BK111.out 8).trans rfl
                        have hcz61_9 : wc.cell? ⟨gb111, 9, none⟩ = some (.int .i64 t105) := (blk_cell BK111.out 9).trans rfl
                        have hcz61_10 : wc.cell? ⟨gb111, 10, none⟩ = some (.int .i64 t106) := (blk_cell BK111.out 10).trans rfl
                        have hcz61_11 : wc.cell? ⟨gb111, 11, none⟩ = some (.slice Ao24 y108.length co24) := (blk_cell BK111.out 11).trans rfl
                        have hcz61_12 : wc.cell? ⟨gb111, 12, none⟩ = some (.int .i64 0) := (blk_cell BK111.out 12).trans rfl
                        have hcz61_13 : wc.cell? ⟨gb111, 13, none⟩ = some (.int .i64 0) := (blk_cell BK111.out 13).trans rfl
                        have hcz61_14 : wc.cell? ⟨gb111, 14, none⟩ = some (.int .i64 0) := (blk_cell BK111.out 14).trans rfl
                        have hcz61_15 : wc.cell? ⟨gb111, 15, none⟩ = some (.int .i64 0) := (blk_cell BK111.out 15).trans rfl
                        have hfz61_0 := blk_frozen BK111.out 0
                        have hfz61_1 := blk_frozen BK111.out 1
                        have hfz61_2 := blk_frozen BK111.out 2
                        have hfz61_3 := blk_frozen BK111.out 3
                        have hfz61_4 := blk_frozen BK111.out 4
                        have hfz61_5 := blk_frozen BK111.out 5
                        have hfz61_6 := blk_frozen BK111.out 6
                        have hfz61_7 := blk_frozen BK111.out 7
                        have hfz61_8 := blk_frozen BK111.out 8
                        have hfz61_9 := blk_frozen BK111.out 9
                        have hfz61_10 := blk_frozen BK111.out 10
                        have hfz61_11 := blk_frozen BK111.out 11
                        have hfz61_12 := blk_frozen BK111.out 12
                        have hfz61_13 := blk_frozen BK111.out 13
                        have hfz61_14 := blk_frozen BK111.out 14
                        have hfz61_15 := blk_frozen BK111.out 15
                        go_wp2_with (first | ((with_reducible refine gate_callee (f := 7) rfl ?_); refine goesL_ (some 49) rfl rfl Tryd.func7 (by kernel_rfl) rfl #[.agg #[.string x112000_10, .bool a2, .int .i64 0, .int .i64 0, .int .i64 0, .int .i64 0, .slice none 0 0, .int .i64 t103, .int .i64 t104, .int .i64 t105, .int .i64 t106, .slice Ao24 y108.length co24, .int .i64 0, .int .i64 0, .int .i64 0, .int .i64 0]] rfl (by (try simp only [List.map_toArray, List.map_cons, List.map_nil]); first | done | rfl | (simp only [List.length_drop, List.length_take]; rfl)) ?_; (refine (node_Check.calls kj50 x112000_10 a2 0 0 0 0 _ _ ([] : List (S62)) t103 t104 t105 t106 _ _ y108 0 0 0 0 t113 _ (by first | exact HG.out | exact MaxAt.below HG.out (by repeat (first | (with_reducible first | exact HB.out | apply below_alloc | apply pw_below_drewN | apply below_drew1 | refine below_set ?_ (Aside0.out (by assumption))) | exact HB.out))) ?side1 ?side2 ?side3 ?side4 A59.out).mono ?_); (case side1 => exact Kd.C_nil _ _); (case side2 => exact Nat.le_refl _); (case side3 => repeat (first | exact (Kd.R_reads' HO_112011.out).2.2 | (with_reducible refine Kd.C_alloc ?_ _) | (with_reducible refine Kd.C_drewN ?_ _) | (with_reducible refine Kd.C_drew ?_))); (case side4 => exact (Kd.R_reads' HO_112011.out).2.1); rintro e w62 ⟨rfl, hb⟩; refine ⟨_, rfl, ?_⟩; have n0_ := Aside0.mk (Kd.R_below (by (with_reducible repeat (first | apply Kd.R_alloc | apply Kd.R_drewN | apply Kd.R_drew)); exact HO_112011.out) hb); have n1_ := Aside0.mk (blk_below (g := gb101) (o := .cells #[.int .i64 t103, .int .i64 t104, .int .i64 t105, .int .i64 t106] 26 (0, 0)) (by (with_reducible repeat (first | refine blk_drewN ?_ _ | refine blk_drew ?_ | refine blk_alloc ?_ _)); exact BK101.out) hb); have n2_ := Aside0.mk (blk_below (g := gb111) (o := .cells #[.string x112000_10, .bool a2, .int .i64 0, .int .i64 0, .int .i64 0, .int .i64 0, .slice none 0 0, .int .i64 t103, .int .i64 t104, .int .i64 t105, .int .i64 t106, .slice Ao24 y108.length co24, .int .i64 0, .int .i64 0, .int .i64 0, .int .i64 0] 29 (0, 0)) (by (with_reducible repeat (first | refine blk_drewN ?_ _ | refine blk_drew ?_ | refine blk_alloc ?_ _)); exact BK111.out) hb); have n3_ := Aside0.mk (below_step (by repeat (first | (with_reducible first | exact HB.out | apply below_alloc | apply pw_below_drewN | apply below_drew1 | refine below_set ?_ GE101.out | refine below_set ?_ GE111.out) | exact HB.out)) hb); clear HO_112011; clear BK101; clear BK111; clear HB; have HO_112011 := n0_; have BK101 := n1_; have BK111 := n2_; have HB := n3_; clear n0_ n1_ n2_ n3_; (try clear hb); (try clear hb2); (try clear hk); (try clear hi)))
                        go_ret
                        exact ⟨by first | rfl | (simp [errW_none, errW_some] <;> rfl) | (simp [*, errW_none, errW_some] <;> rfl), by repeat (first | (with_reducible first | exact HB.out | apply below_alloc | apply pw_below_drewN | apply below_drew1 | refine below_set ?_ GE101.out | refine below_set ?_ GE111.out) | exact HB.out)⟩
                      · replace c58 := Bool.eq_false_iff.mpr c58
                        subst c58
                        have H1 : (if a2 = true then ((node_Check.f kj50 x112000_10 a2 0 0 0 0 ([] : List (S62)) t103 t104 t105 t106 y108 0 0 0 0).bind fun t114 => (some (t114 == 0))) else (if t107 > 16 then ((node_Check.f kj50 x112000_10 a2 0 0 0 0 ([] : List (S62)) t103 t104 t105 t106 y108 0 0 0 0).bind fun t115 => (some (t115 == 4))) else ((node_Check.f kj50 x112000_10 a2 0 0 0 0 ([] : List (S62)) t103 t104 t105 t106 y108 0 0 0 0).bind fun t116 => (some (t116 == 0))))) = some r := by rw [if_neg (show ¬ (false = true) by decide)] at H; exact H
                        clear H
                        have H := H1
                        clear H1
                        by_cases c63 : a2 = true
                        · subst c63
                          have H1 : ((node_Check.f kj50 x112000_10 true 0 0 0 0 ([] : List (S62)) t103 t104 t105 t106 y108 0 0 0 0).bind fun t114 => (some (t114 == 0))) = some r := by rw [if_pos rfl] at H; exact H
                          clear H
                          have H := H1
                          clear H1
                          replace H := Option.bind_eq_some_iff.mp H
                          obtain ⟨t114, A640, H⟩ := H
                          replace H : (some (t114 == 0)) = some r := H
                          have A64 := Aside0.mk A640
                          clear A640
                          obtain rfl := Option.some.inj H
                          have hnb65 := NB111_101.out
                          have hnc65 := NB101_111.out
                          have hcz66_0 : wc.cell? ⟨gb111, 0, none⟩ = some (.string x112000_10) := (blk_cell BK111.out 0).trans rfl
                          have hcz66_1 : wc.cell? ⟨gb111, 1, none⟩ = some (.bool true) := (blk_cell BK111.out 1).trans rfl
                          have hcz66_2 : wc.cell? ⟨gb111, 2, none⟩ = some (.int .i64 0) := (blk_cell BK111.out 2).trans rfl
                          have hcz66_3 : wc.cell? ⟨gb111, 3, none⟩ = some (.int .i64 0) := (blk_cell BK111.out 3).trans rfl
                          have hcz66_4 : wc.cell? ⟨gb111, 4, none⟩ = some (.int .i64 0) := (blk_cell BK111.out 4).trans rfl
                          have hcz66_5 : wc.cell? ⟨gb111, 5, none⟩ = some (.int .i64 0) := (blk_cell BK111.out 5).trans rfl
                          have hcz66_6 : wc.cell? ⟨gb111, 6, none⟩ = some (.slice none 0 0) := (blk_cell BK111.out 6).trans rfl
                          have hcz66_7 : wc.cell? ⟨gb111, 7, none⟩ = some (.int .i64 t103) := (blk_cell BK111.out 7).trans rfl
                          have hcz66_8 : wc.cell? ⟨gb111, 8, none⟩ = some (.int .i64 t104) := (blk_cell BK111.out 8).trans rfl
                          have hcz66_9 : wc.cell? ⟨gb111, 9, none⟩ = some (.int .i64 t105) := (blk_cell BK111.out 9).trans rfl
                          have hcz66_10 : wc.cell? ⟨gb111, 10, none⟩ = some (.int .i64 t106) := (blk_cell BK111.out 10).trans rfl
                          have hcz66_11 : wc.cell? ⟨gb111, 11, none⟩ = some (.slice Ao24 y108.length co24) := (blk_cell BK111.out 11).trans rfl
                          have hcz66_12 : wc.cell? ⟨gb111, 12, none⟩ = some (.int .i64 0) := (blk_cell BK111.out 12).trans rfl
                          have hcz66_13 : wc.cell? ⟨gb111, 13, none⟩ = some (.int .i64 0) := (blk_cell BK111.out 13).trans rfl
                          have hcz66_14 : wc.cell? ⟨gb111, 14, none⟩ = some (.int .i64 0) := (blk_cell BK111.out 14).trans rfl
                          have hcz66_15 : wc.cell? ⟨gb111, 15, none⟩ = some (.int .i64 0) := (blk_cell BK111.out 15).trans rfl
                          have hfz66_0 := blk_frozen BK111.out 0
                          have hfz66_1 := blk_frozen BK111.out 1
                          have hfz66_2 := blk_frozen BK111.out 2
                          have hfz66_3 := blk_frozen BK111.out 3
                          have hfz66_4 := blk_frozen BK111.out 4
                          have hfz66_5 := blk_frozen BK111.out 5
                          have hfz66_6 := blk_frozen BK111.out 6
                          have hfz66_7 := blk_frozen BK111.out 7
                          have hfz66_8 := blk_frozen BK111.out 8
                          have hfz66_9 := blk_frozen BK111.out 9
                          have hfz66_10 := blk_frozen BK111.out 10
                          have hfz66_11 := blk_frozen BK111.out 11
                          have hfz66_12 := blk_frozen BK111.out 12
                          have hfz66_13 := blk_frozen BK111.out 13
                          have hfz66_14 := blk_frozen BK111.out 14
                          have hfz66_15 := blk_frozen BK111.out 15
                          go_wp2_with (first | ((with_reducible refine gate_callee (f := 7) rfl ?_); refine goesL_ (some 49) rfl rfl Tryd.func7 (by kernel_rfl) rfl #[.agg #[.string x112000_10, .bool true, .int .i64 0, .int .i64 0, .int .i64 0, .int .i64 0, .slice none 0 0, .int .i64 t103, .int .i64 t104, .int .i64 t105, .int .i64 t106, .slice Ao24 y108.length co24, .int .i64 0, .int .i64 0, .int .i64 0, .int .i64 0]] rfl (by (try simp only [List.map_toArray, List.map_cons, List.map_nil]); first | done | rfl | (simp only [List.length_drop, List.length_take]; rfl)) ?_; (refine (node_Check.calls kj50 x112000_10 true 0 0 0 0 _ _ ([] : List (S62)) t103 t104 t105 t106 _ _ y108 0 0 0 0 t114 _ (by first | exact HG.out | exact MaxAt.below HG.out (by repeat (first | (with_reducible first | exact HB.out | apply below_alloc | apply pw_below_drewN | apply below_drew1 | refine below_set ?_ (Aside0.out (by assumption))) | exact HB.out))) ?side1 ?side2 ?side3 ?side4 A64.out).mono ?_); (case side1 => exact Kd.C_nil _ _); (case side2 => exact Nat.le_refl _); (case side3 => repeat (first | exact (Kd.R_reads' HO_112011.out).2.2 | (with_reducible refine Kd.C_alloc ?_ _) | (with_reducible refine Kd.C_drewN ?_ _) | (with_reducible refine Kd.C_drew ?_))); (case side4 => exact (Kd.R_reads' HO_112011.out).2.1); rintro e w67 ⟨rfl, hb⟩; refine ⟨_, rfl, ?_⟩; have n0_ := Aside0.mk (Kd.R_below (by (with_reducible repeat (first | apply Kd.R_alloc | apply Kd.R_drewN | apply Kd.R_drew)); exact HO_112011.out) hb); have n1_ := Aside0.mk (blk_below (g := gb101) (o := .cells #[.int .i64 t103, .int .i64 t104, .int .i64 t105, .int .i64 t106] 26 (0, 0)) (by (with_reducible repeat (first | refine blk_drewN ?_ _ | refine blk_drew ?_ | refine blk_alloc ?_ _)); exact BK101.out) hb); have n2_ := Aside0.mk (blk_below (g := gb111) (o := .cells #[.string x112000_10, .bool true, .int .i64 0, .int .i64 0, .int .i64 0, .int .i64 0, .slice none 0 0, .int .i64 t103, .int .i64 t104, .int .i64 t105, .int .i64 t106, .slice Ao24 y108.length co24, .int .i64 0, .int .i64 0, .int .i64 0, .int .i64 0] 29 (0, 0)) (by (with_reducible repeat (first | refine blk_drewN ?_ _ | refine blk_drew ?_ | refine blk_alloc ?_ _)); exact BK111.out) hb); have n3_ := Aside0.mk (below_step (by repeat (first | (with_reducible first | exact HB.out | apply below_alloc | apply pw_below_drewN | apply below_drew1 | refine below_set ?_ GE101.out | refine below_set ?_ GE111.out) | exact HB.out)) hb); clear HO_112011; clear BK101; clear BK111; clear HB; have HO_112011 := n0_; have BK101 := n1_; have BK111 := n2_; have HB := n3_; clear n0_ n1_ n2_ n3_; (try clear hb); (try clear hb2); (try clear hk); (try clear hi)))
                          go_ret
                          exact ⟨by first | rfl | (simp [errW_none, errW_some] <;> rfl) | (simp [*, errW_none, errW_some] <;> rfl), by repeat (first | (with_reducible first | exact HB.out | apply below_alloc | apply pw_below_drewN | apply below_drew1 | refine below_set ?_ GE101.out | refine below_set ?_ GE111.out) | exact HB.out)⟩
                        · replace c63 := Bool.eq_false_iff.mpr c63
                          subst c63
                          have H1 : (if t107 > 16 then ((node_Check.f kj50 x112000_10 false 0 0 0 0 ([] : List (S62)) t103 t104 t105 t106 y108 0 0 0 0).bind fun t115 => (some (t115 == 4))) else ((node_Check.f kj50 x112000_10 false 0 0 0 0 ([] : List (S62)) t103 t104 t105 t106 y108 0 0 0 0).bind fun t116 => (some (t116 == 0)))) = some r := by rw [if_neg (show ¬ (false = true) by decide)] at H; exact H
                          clear H
                          have H := H1
                          clear H1
                          by_cases c68 : t107 > 16
                          · rw [if_pos c68] at H
                            have c68b0 : decide (16 < t107) = true := decide_eq_true c68
                            clear c68
                            replace H := Option.bind_eq_some_iff.mp H
                            obtain ⟨t115, A690, H⟩ := H
                            replace H : (some (t115 == 4)) = some r := H
                            have A69 := Aside0.mk A690
                            clear A690
                            obtain rfl := Option.some.inj H
                            have hnb70 := NB111_101.out
                            have hnc70 := NB101_111.out
                            have hcz71_0 : wc.cell? ⟨gb111, 0, none⟩ = some (.string x112000_10) := (blk_cell BK111.out 0).trans rfl
                            have hcz71_1 : wc.cell? ⟨gb111, 1, none⟩ = some (.bool false) := (blk_cell BK111.out 1).trans rfl
                            have hcz71_2 : wc.cell? ⟨gb111, 2, none⟩ = some (.int .i64 0) := (blk_cell BK111.out 2).trans rfl
                            have hcz71_3 : wc.cell? ⟨gb111, 3, none⟩ = some (.int .i64 0) := (blk_cell BK111.out 3).trans rfl
                            have hcz71_4 : wc.cell? ⟨gb111, 4, none⟩ = some (.int .i64 0) := (blk_cell BK111.out 4).trans rfl
                            have hcz71_5 : wc.cell? ⟨gb111, 5, none⟩ = some (.int .i64 0) := (blk_cell BK111.out 5).trans rfl
                            have hcz71_6 : wc.cell? ⟨gb111, 6, none⟩ = some (.slice none 0 0) := (blk_cell BK111.out 6).trans rfl
                            have hcz71_7 : wc.cell? ⟨gb111, 7, none⟩ = some (.int .i64 t103) := (blk_cell BK111.out 7).trans rfl
                            have hcz71_8 : wc.cell? ⟨gb111, 8, none⟩ = some (.int .i64 t104) := (blk_cell BK111.out 8).trans rfl
                            have hcz71_9 : wc.cell? ⟨gb111, 9, none⟩ = some (.int .i64 t105) := (blk_cell BK111.out 9).trans rfl
                            have hcz71_10 : wc.cell? ⟨gb111, 10, none⟩ = some (.int .i64 t106) := (blk_cell BK111.out 10).trans rfl
                            have hcz71_11 : wc.cell? ⟨gb111, 11, none⟩ = some (.slice Ao24 y108.length co24) := (blk_cell BK111.out 11).trans rfl
                            have hcz71_12 : wc.cell? ⟨gb111, 12, none⟩ = some (.int .i64 0) := (blk_cell BK111.out 12).trans rfl
                            have hcz71_13 : wc.cell? ⟨gb111, 13, none⟩ = some (.int .i64 0) := (blk_cell BK111.out 13).trans rfl
                            have hcz71_14 : wc.cell? ⟨gb111, 14, none⟩ = some (.int .i64 0) := (blk_cell BK111.out 14).trans rfl
                            have hcz71_15 : wc.cell? ⟨gb111, 15, none⟩ = some (.int .i64 0) := (blk_cell BK111.out 15).trans rfl
                            have hfz71_0 := blk_frozen BK111.out 0
                            have hfz71_1 := blk_frozen BK111.out 1
                            have hfz71_2 := blk_frozen BK111.out 2
                            have hfz71_3 := blk_frozen BK111.out 3
                            have hfz71_4 := blk_frozen BK111.out 4
                            have hfz71_5 := blk_frozen BK111.out 5
                            have hfz71_6 := blk_frozen BK111.out 6
                            have hfz71_7 := blk_frozen BK111.out 7
                            have hfz71_8 := blk_frozen BK111.out 8
                            have hfz71_9 := blk_frozen BK111.out 9
                            have hfz71_10 := blk_frozen BK111.out 10
                            have hfz71_11 := blk_frozen BK111.out 11
                            have hfz71_12 := blk_frozen BK111.out 12
                            have hfz71_13 := blk_frozen BK111.out 13
                            have hfz71_14 := blk_frozen BK111.out 14
                            have hfz71_15 := blk_frozen BK111.out 15
                            go_wp2_with (first | ((with_reducible refine gate_callee (f := 7) rfl ?_); refine goesL_ (some 49) rfl rfl Tryd.func7 (by kernel_rfl) rfl #[.agg #[.string x112000_10, .bool false, .int .i64 0, .int .i64 0, .int .i64 0, .int .i64 0, .slice none 0 0, .int .i64 t103, .int .i64 t104, .int .i64 t105, .int .i64 t106, .slice Ao24 y108.length co24, .int .i64 0, .int .i64 0, .int .i64 0, .int .i64 0]] rfl (by (try simp only [List.map_toArray, List.map_cons, List.map_nil]); first | done | rfl | (simp only [List.length_drop, List.length_take]; rfl)) ?_; (refine (node_Check.calls kj50 x112000_10 false 0 0 0 0 _ _ ([] : List (S62)) t103 t104 t105 t106 _ _ y108 0 0 0 0 t115 _ (by first | exact HG.out | exact MaxAt.below HG.out (by repeat (first | (with_reducible first | exact HB.out | apply below_alloc | apply pw_below_drewN | apply below_drew1 | refine below_set ?_ (Aside0.out (by assumption))) | exact HB.out))) ?side1 ?side2 ?side3 ?side4 A69.out).mono ?_); (case side1 => exact Kd.C_nil _ _); (case side2 => exact Nat.le_refl _); (case side3 => repeat (first | exact (Kd.R_reads' HO_112011.out).2.2 | (with_reducible refine Kd.C_alloc ?_ _) | (with_reducible refine Kd.C_drewN ?_ _) | (with_reducible refine Kd.C_drew ?_))); (case side4 => exact (Kd.R_reads' HO_112011.out).2.1); rintro e w72 ⟨rfl, hb⟩; refine ⟨_, rfl, ?_⟩; have n0_ := Aside0.mk (Kd.R_below (by (with_reducible repeat (first | apply Kd.R_alloc | apply Kd.R_drewN | apply Kd.R_drew)); exact HO_112011.out) hb); have n1_ := Aside0.mk (blk_below (g := gb101) (o := .cells #[.int .i64 t103, .int .i64 t104, .int .i64 t105, .int .i64 t106] 26 (0, 0)) (by (with_reducible repeat (first | refine blk_drewN ?_ _ | refine blk_drew ?_ | refine blk_alloc ?_ _)); exact BK101.out) hb); have n2_ := Aside0.mk (blk_below (g := gb111) (o := .cells #[.string x112000_10, .bool false, .int .i64 0, .int .i64 0, .int .i64 0, .int .i64 0, .slice none 0 0, .int .i64 t103, .int .i64 t104, .int .i64 t105, .int .i64 t106, .slice Ao24 y108.length co24, .int .i64 0, .int .i64 0, .int .i64 0, .int .i64 0] 29 (0, 0)) (by (with_reducible repeat (first | refine blk_drewN ?_ _ | refine blk_drew ?_ | refine blk_alloc ?_ _)); exact BK111.out) hb); have n3_ := Aside0.mk (below_step (by repeat (first | (with_reducible first | exact HB.out | apply below_alloc | apply pw_below_drewN | apply below_drew1 | refine below_set ?_ GE101.out | refine below_set ?_ GE111.out) | exact HB.out)) hb); clear HO_112011; clear BK101; clear BK111; clear HB; have HO_112011 := n0_; have BK101 := n1_; have BK111 := n2_; have HB := n3_; clear n0_ n1_ n2_ n3_; (try clear hb); (try clear hb2); (try clear hk); (try clear hi)))
                            go_ret
                            exact ⟨by first | rfl | (simp [errW_none, errW_some] <;> rfl) | (simp [*, errW_none, errW_some] <;> rfl), by repeat (first | (with_reducible first | exact HB.out | apply below_alloc | apply pw_below_drewN | apply below_drew1 | refine below_set ?_ GE101.out | refine below_set ?_ GE111.out) | exact HB.out)⟩
                          · rw [if_neg c68] at H
                            have c68b0 : decide (16 < t107) = false := decide_eq_false c68
                            clear c68
                            replace H := Option.bind_eq_some_iff.mp H
                            obtain ⟨t116, A730, H⟩ := H
                            replace H : (some (t116 == 0)) = some r := H
                            have A73 := Aside0.mk A730
                            clear A730
                            obtain rfl := Option.some.inj H
                            have hnb74 := NB111_101.out
                            have hnc74 := NB101_111.out
                            have hcz75_0 : wc.cell? ⟨gb111, 0, none⟩ = some (.string x112000_10) := (blk_cell BK111.out 0).trans rfl
                            have hcz75_1 : wc.cell? ⟨gb111, 1, none⟩ = some (.bool false) := (blk_cell BK111.out 1).trans rfl
                            have hcz75_2 : wc.cell? ⟨gb111, 2, none⟩ = some (.int .i64 0) := (blk_cell BK111.out 2).trans rfl
                            have hcz75_3 : wc.cell? ⟨gb111, 3, none⟩ = some (.int .i64 0) := (blk_cell BK111.out 3).trans rfl
                            have hcz75_4 : wc.cell? ⟨gb111, 4, none⟩ = some (.int .i64 0) := (blk_cell BK111.out 4).trans rfl
                            have hcz75_5 : wc.cell? ⟨gb111, 5, none⟩ = some (.int .i64 0) := (blk_cell BK111.out 5).trans rfl
                            have hcz75_6 : wc.cell? ⟨gb111, 6, none⟩ = some (.slice none 0 0) := (blk_cell BK111.out 6).trans rfl
                            have hcz75_7 : wc.cell? ⟨gb111, 7, none⟩ = some (.int .i64 t103) := (blk_cell BK111.out 7).trans rfl
                            have hcz75_8 : wc.cell? ⟨gb111, 8, none⟩ = some (.int .i64 t104) := (blk_cell BK111.out 8).trans rfl
                            have hcz75_9 : wc.cell? ⟨gb111, 9, none⟩ = some (.int .i64 t105) := (blk_cell BK111.out 9).trans rfl
                            have hcz75_10 : wc.cell? ⟨gb111, 10, none⟩ = some (.int .i64 t106) := (blk_cell BK111.out 10).trans rfl
                            have hcz75_11 : wc.cell? ⟨gb111, 11, none⟩ = some (.slice Ao24 y108.length co24) := (blk_cell BK111.out 11).trans rfl
                            have hcz75_12 : wc.cell? ⟨gb111, 12, none⟩ = some (.int .i64 0) := (blk_cell BK111.out 12).trans rfl
                            have hcz75_13 : wc.cell? ⟨gb111, 13, none⟩ = some (.int .i64 0) := (blk_cell BK111.out 13).trans rfl
                            have hcz75_14 : wc.cell? ⟨gb111, 14, none⟩ = some (.int .i64 0) := (blk_cell BK111.out 14).trans rfl
                            have hcz75_15 : wc.cell? ⟨gb111, 15, none⟩ = some (.int .i64 0) := (blk_cell BK111.out 15).trans rfl
                            have hfz75_0 := blk_frozen BK111.out 0
                            have hfz75_1 := blk_frozen BK111.out 1
                            have hfz75_2 := blk_frozen BK111.out 2
                            have hfz75_3 := blk_frozen BK111.out 3
                            have hfz75_4 := blk_frozen BK111.out 4
                            have hfz75_5 := blk_frozen BK111.out 5
                            have hfz75_6 := blk_frozen BK111.out 6
                            have hfz75_7 := blk_frozen BK111.out 7
                            have hfz75_8 := blk_frozen BK111.out 8
                            have hfz75_9 := blk_frozen BK111.out 9
                            have hfz75_10 := blk_frozen BK111.out 10
                            have hfz75_11 := blk_frozen BK111.out 11
                            have hfz75_12 := blk_frozen BK111.out 12
                            have hfz75_13 := blk_frozen BK111.out 13
                            have hfz75_14 := blk_frozen BK111.out 14
                            have hfz75_15 := blk_frozen BK111.out 15
                            go_wp2_with (first | ((with_reducible refine gate_callee (f := 7) rfl ?_); refine goesL_ (some 49) rfl rfl Tryd.func7 (by kernel_rfl) rfl #[.agg #[.string x112000_10, .bool false, .int .i64 0, .int .i64 0, .int .i64 0, .int .i64 0, .slice none 0 0, .int .i64 t103, .int .i64 t104, .int .i64 t105, .int .i64 t106, .slice Ao24 y108.length co24, .int .i64 0, .int .i64 0, .int .i64 0, .int .i64 0]] rfl (by (try simp only [List.map_toArray, List.map_cons, List.map_nil]); first | done | rfl | (simp only [List.length_drop, List.length_take]; rfl)) ?_; (refine (node_Check.calls kj50 x112000_10 false 0 0 0 0 _ _ ([] : List (S62)) t103 t104 t105 t106 _ _ y108 0 0 0 0 t116 _ (by first | exact HG.out | exact MaxAt.below HG.out (by repeat (first | (with_reducible first | exact HB.out | apply below_alloc | apply pw_below_drewN | apply below_drew1 | refine below_set ?_ (Aside0.out (by assumption))) | exact HB.out))) ?side1 ?side2 ?side3 ?side4 A73.out).mono ?_); (case side1 => exact Kd.C_nil _ _); (case side2 => exact Nat.le_refl _); (case side3 => repeat (first | exact (Kd.R_reads' HO_112011.out).2.2 | (with_reducible refine Kd.C_alloc ?_ _) | (with_reducible refine Kd.C_drewN ?_ _) | (with_reducible refine Kd.C_drew ?_))); (case side4 => exact (Kd.R_reads' HO_112011.out).2.1); rintro e w76 ⟨rfl, hb⟩; refine ⟨_, rfl, ?_⟩; have n0_ := Aside0.mk (Kd.R_below (by (with_reducible repeat (first | apply Kd.R_alloc | apply Kd.R_drewN | apply Kd.R_drew)); exact HO_112011.out) hb); have n1_ := Aside0.mk (blk_below (g := gb101) (o := .cells #[.int .i64 t103, .int .i64 t104, .int .i64 t105, .int .i64 t106] 26 (0, 0)) (by (with_reducible repeat (first | refine blk_drewN ?_ _ | refine blk_drew ?_ | refine blk_alloc ?_ _)); exact BK101.out) hb); have n2_ := Aside0.mk (blk_below (g := gb111) (o := .cells #[.string x112000_10, .bool false, .int .i64 0, .int .i64 0, .int .i64 0, .int .i64 0, .slice none 0 0, .int .i64 t103, .int .i64 t104, .int .i64 t105, .int .i64 t106, .slice Ao24 y108.length co24, .int .i64 0, .int .i64 0, .int .i64 0, .int .i64 0] 29 (0, 0)) (by (with_reducible repeat (first | refine blk_drewN ?_ _ | refine blk_drew ?_ | refine blk_alloc ?_ _)); exact BK111.out) hb); have n3_ := Aside0.mk (below_step (by repeat (first | (with_reducible first | exact HB.out | apply below_alloc | apply pw_below_drewN | apply below_drew1 | refine below_set ?_ GE101.out | refine below_set ?_ GE111.out) | exact HB.out)) hb); clear HO_112011; clear BK101; clear BK111; clear HB; have HO_112011 := n0_; have BK101 := n1_; have BK111 := n2_; have HB := n3_; clear n0_ n1_ n2_ n3_; (try clear hb); (try clear hb2); (try clear hk); (try clear hi)))
                            go_ret
                            exact ⟨by first | rfl | (simp [errW_none, errW_some] <;> rfl) | (simp [*, errW_none, errW_some] <;> rfl), by repeat (first | (with_reducible first | exact HB.out | apply below_alloc | apply pw_below_drewN | apply below_drew1 | refine below_set ?_ GE101.out | refine below_set ?_ GE111.out) | exact HB.out)⟩
      · rw [if_neg c10] at H
        exact absurd H (by simp)
    · rw [if_neg c9] at H
      exact absurd H (by simp)
  · replace c6 := Bool.eq_false_iff.mpr c6
    subst c6
    have H1 : (some false) = some r := by rw [if_neg (show ¬ (false = true) by decide)] at H; exact H
    clear H
    have H := H1
    clear H1
    obtain rfl := Option.some.inj H
    exact absurd HRT.out (by decide)

end Go.Proofs.YtophnhmlknbmeaaDoor.X
