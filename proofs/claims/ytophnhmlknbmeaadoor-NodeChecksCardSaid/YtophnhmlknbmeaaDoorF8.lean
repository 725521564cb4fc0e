/- Written by a program of this session over the kit's print: YtophnhmlknbmeaaDoorF8. -/
import Derived.Test.YtophnhmlknbmeaaDoorH
import Derived.Test.YtophnhmlknbmeaaDoorE26
import Derived.Test.YtophnhmlknbmeaaDoorF17
import Derived.Test.YtophnhmlknbmeaaDoorF18
import Derived.Test.YtophnhmlknbmeaaDoorF19
import Derived.Test.YtophnhmlknbmeaaDoorF20
namespace Go.Proofs.YtophnhmlknbmeaaDoor.X
open Go.RowKit Go.Proofs.YtophnhmlknbmeaaDoorW.PrintWords Go.Proofs.YtophnhmlknbmeaaDoorW.PrintLast Go.Proofs.YtophnhmlknbmeaaDoorW.PrintMore Go.Proofs.YtophnhmlknbmeaaDoor.More
attribute [local go_sem] max2_int min2_int max_two min_two max_three min_three max_four min_four binOp_string_leq binOp_string_gtr   -- for this text's walks alone
set_option linter.unusedVariables false
set_option linter.unusedSimpArgs false

attribute [local go_sem high] eqA26
/-! ### donjonref10_Check: function 8 -/
mutual
def donjonref10_Check.j0 : Nat → Int → ByteArray → Bool → Int → Int → Int → Int → List (S62) → Int → Int → Int → Int → List Int → Int → Int → Int → Int → Option (Int)
 | 0, _, _, _, _, _, _, _, _, _, _, _, _, _, _, _, _, _ => none
 | k + 1, x3, x102000, x102001, x102002, x102003, x102004, x102005, x102006, x102007, x102008, x102009, x102010, x102011, x102012, x102013, x102014, x102015 => if x3 = 0 then ((donjonref4_Check.f x102012 x102013 x102014 x102015).bind fun t104 => (donjonref10_Check.j1 k t104 x102000 x102001 x102002 x102003 x102004 x102005 x102006 x102007 x102008 x102009 x102010 x102011 x102012 x102013 x102014 x102015)) else (donjonref10_Check.j1 k x3 x102000 x102001 x102002 x102003 x102004 x102005 x102006 x102007 x102008 x102009 x102010 x102011 x102012 x102013 x102014 x102015)
def donjonref10_Check.j1 : Nat → Int → ByteArray → Bool → Int → Int → Int → Int → List (S62) → Int → Int → Int → Int → List Int → Int → Int → Int → Int → Option (Int)
 | 0, _, _, _, _, _, _, _, _, _, _, _, _, _, _, _, _, _ => none
 | k + 1, x3, x102000, x102001, x102002, x102003, x102004, x102005, x102006, x102007, x102008, x102009, x102010, x102011, x102012, x102013, x102014, x102015 => if x3 = 0 then ((donjonref5_Check.f k x102006).bind fun t105 => (donjonref10_Check.j2 k t105 x102000 x102001 x102002 x102003 x102004 x102005 x102006 x102007 x102008 x102009 x102010 x102011 x102012 x102013 x102014 x102015)) else (donjonref10_Check.j2 k x3 x102000 x102001 x102002 x102003 x102004 x102005 x102006 x102007 x102008 x102009 x102010 x102011 x102012 x102013 x102014 x102015)
def donjonref10_Check.j2 : Nat → Int → ByteArray → Bool → Int → Int → Int → Int → List (S62) → Int → Int → Int → Int → List Int → Int → Int → Int → Int → Option (Int)
 | 0, _, _, _, _, _, _, _, _, _, _, _, _, _, _, _, _, _ => none
 | k + 1, x3, x102000, x102001, x102002, x102003, x102004, x102005, x102006, x102007, x102008, x102009, x102010, x102011, x102012, x102013, x102014, x102015 => if x3 = 0 then (if x102000.toList = ([47] : List UInt8) then (donjonref10_Check.j3 k (!x102001) x102000 x102001 x102002 x102003 x102004 x102005 x102006 x102007 x102008 x102009 x102010 x102011 x102012 x102013 x102014 x102015) else (donjonref10_Check.j3 k false x102000 x102001 x102002 x102003 x102004 x102005 x102006 x102007 x102008 x102009 x102010 x102011 x102012 x102013 x102014 x102015)) else (some x3)
def donjonref10_Check.j3 : Nat → Bool → ByteArray → Bool → Int → Int → Int → Int → List (S62) → Int → Int → Int → Int → List Int → Int → Int → Int → Int → Option (Int)
 | 0, _, _, _, _, _, _, _, _, _, _, _, _, _, _, _, _, _ => none
 | k + 1, x26, x102000, x102001, x102002, x102003, x102004, x102005, x102006, x102007, x102008, x102009, x102010, x102011, x102012, x102013, x102014, x102015 => if x26 = true then (some 3) else (if x102001 = true then (if (!(x102007 == 0) || (!(x102008 == 0) || (!(x102009 == 0) || (!(x102010 == 0))))) = true then (donjonref10_Check.j4 k true x102000 x102001 x102002 x102003 x102004 x102005 x102006 x102007 x102008 x102009 x102010 x102011 x102012 x102013 x102014 x102015) else (donjonref10_Check.j4 k (decide ((x102011.length : Int) > 0)) x102000 x102001 x102002 x102003 x102004 x102005 x102006 x102007 x102008 x102009 x102010 x102011 x102012 x102013 x102014 x102015)) else (donjonref10_Check.j4 k false x102000 x102001 x102002 x102003 x102004 x102005 x102006 x102007 x102008 x102009 x102010 x102011 x102012 x102013 x102014 x102015))
def donjonref10_Check.j4 : Nat → Bool → ByteArray → Bool → Int → Int → Int → Int → List (S62) → Int → Int → Int → Int → List Int → Int → Int → Int → Int → Option (Int)
 | 0, _, _, _, _, _, _, _, _, _, _, _, _, _, _, _, _, _ => none
 | k + 1, x35, x102000, x102001, x102002, x102003, x102004, x102005, x102006, x102007, x102008, x102009, x102010, x102011, x102012, x102013, x102014, x102015 => if x35 = true then (some 11) else (if x102001 = true then (some 0) else ((donjonref6_Check.f x102007 x102008 x102009 x102010).bind fun t106 => (if t106 = 0 then (if (x102011.length : Int) > 16 then (some 4) else (some 0)) else ((donjonref6_Check.f x102007 x102008 x102009 x102010).bind fun t107 => (some t107)))))
end
def donjonref10_Check.f (k : Nat) (a0_0 : ByteArray) (a0_1 : Bool) (a0_2 : Int) (a0_3 : Int) (a0_4 : Int) (a0_5 : Int) (l0_6 : List (S62)) (a0_7 : Int) (a0_8 : Int) (a0_9 : Int) (a0_10 : Int) (l0_11 : List Int) (a0_12 : Int) (a0_13 : Int) (a0_14 : Int) (a0_15 : Int) : Option (Int) := (donjonref7_Check.f k a0_0).bind fun t102 => (if t102 = 0 then ((donjonref4_Check.f a0_2 a0_3 a0_4 a0_5).bind fun t103 => (donjonref10_Check.j0 k t103 a0_0 a0_1 a0_2 a0_3 a0_4 a0_5 l0_6 a0_7 a0_8 a0_9 a0_10 l0_11 a0_12 a0_13 a0_14 a0_15)) else (donjonref10_Check.j0 k t102 a0_0 a0_1 a0_2 a0_3 a0_4 a0_5 l0_6 a0_7 a0_8 a0_9 a0_10 l0_11 a0_12 a0_13 a0_14 a0_15))
theorem donjonref10_Check.mono_l : ∀ k, (∀ y0 y1 y2 y3 y4 y5 y6 y7 y8 y9 y10 y11 y12 y13 y14 y15 y16, LeO (donjonref10_Check.j0 k y0 y1 y2 y3 y4 y5 y6 y7 y8 y9 y10 y11 y12 y13 y14 y15 y16) (donjonref10_Check.j0 (k + 1) y0 y1 y2 y3 y4 y5 y6 y7 y8 y9 y10 y11 y12 y13 y14 y15 y16)) ∧ (∀ y0 y1 y2 y3 y4 y5 y6 y7 y8 y9 y10 y11 y12 y13 y14 y15 y16, LeO (donjonref10_Check.j1 k y0 y1 y2 y3 y4 y5 y6 y7 y8 y9 y10 y11 y12 y13 y14 y15 y16) (donjonref10_Check.j1 (k + 1) y0 y1 y2 y3 y4 y5 y6 y7 y8 y9 y10 y11 y12 y13 y14 y15 y16)) ∧ (∀ y0 y1 y2 y3 y4 y5 y6 y7 y8 y9 y10 y11 y12 y13 y14 y15 y16, LeO (donjonref10_Check.j2 k y0 y1 y2 y3 y4 y5 y6 y7 y8 y9 y10 y11 y12 y13 y14 y15 y16) (donjonref10_Check.j2 (k + 1) y0 y1 y2 y3 y4 y5 y6 y7 y8 y9 y10 y11 y12 y13 y14 y15 y16)) ∧ (∀ y0 y1 y2 y3 y4 y5 y6 y7 y8 y9 y10 y11 y12 y13 y14 y15 y16, LeO (donjonref10_Check.j3 k y0 y1 y2 y3 y4 y5 y6 y7 y8 y9 y10 y11 y12 y13 y14 y15 y16) (donjonref10_Check.j3 (k + 1) y0 y1 y2 y3 y4 y5 y6 y7 y8 y9 y10 y11 y12 y13 y14 y15 y16)) ∧ (∀ y0 y1 y2 y3 y4 y5 y6 y7 y8 y9 y10 y11 y12 y13 y14 y15 y16, LeO (donjonref10_Check.j4 k y0 y1 y2 y3 y4 y5 y6 y7 y8 y9 y10 y11 y12 y13 y14 y15 y16) (donjonref10_Check.j4 (k + 1) y0 y1 y2 y3 y4 y5 y6 y7 y8 y9 y10 y11 y12 y13 y14 y15 y16))
 | 0 => ⟨fun _ _ _ _ _ _ _ _ _ _ _ _ _ _ _ _ _ r h => by simp [donjonref10_Check.j0] at h, fun _ _ _ _ _ _ _ _ _ _ _ _ _ _ _ _ _ r h => by simp [donjonref10_Check.j1] at h, fun _ _ _ _ _ _ _ _ _ _ _ _ _ _ _ _ _ r h => by simp [donjonref10_Check.j2] at h, fun _ _ _ _ _ _ _ _ _ _ _ _ _ _ _ _ _ r h => by simp [donjonref10_Check.j3] at h, fun _ _ _ _ _ _ _ _ _ _ _ _ _ _ _ _ _ r h => by simp [donjonref10_Check.j4] at h⟩
 | k + 1 => by
  obtain ⟨ih0, ih1, ih2, ih3, ih4⟩ := donjonref10_Check.mono_l k
  refine ⟨?_, ?_, ?_, ?_, ?_⟩
  ·intro y0 y1 y2 y3 y4 y5 y6 y7 y8 y9 y10 y11 y12 y13 y14 y15 y16
   unfold donjonref10_Check.j0
   repeat' first
   | (with_reducible exact ih0 _ _ _ _ _ _ _ _ _ _ _ _ _ _ _ _ _)
   | (with_reducible exact ih1 _ _ _ _ _ _ _ _ _ _ _ _ _ _ _ _ _)
   | (with_reducible exact ih2 _ _ _ _ _ _ _ _ _ _ _ _ _ _ _ _ _)
   | (with_reducible exact ih3 _ _ _ _ _ _ _ _ _ _ _ _ _ _ _ _ _)
   | (with_reducible exact ih4 _ _ _ _ _ _ _ _ _ _ _ _ _ _ _ _ _)
   | (with_reducible exact donjonref5_Check.mono _ _)
   | (with_reducible exact donjonref7_Check.mono _ _)
   | (with_reducible exact LeO.refl _)
   | (with_reducible exact LeO.none _)
   | (with_reducible refine LeO.ite ?_ ?_)
   | (with_reducible refine LeO.bind ?_ (fun _ => ?_))
   | exact ih0 _ _ _ _ _ _ _ _ _ _ _ _ _ _ _ _ _
   | exact ih1 _ _ _ _ _ _ _ _ _ _ _ _ _ _ _ _ _
   | exact ih2 _ _ _ _ _ _ _ _ _ _ _ _ _ _ _ _ _
   | exact ih3 _ _ _ _ _ _ _ _ _ _ _ _ _ _ _ _ _
   | exact ih4 _ _ _ _ _ _ _ _ _ _ _ _ _ _ _ _ _
   | exact donjonref5_Check.mono _ _
   | exact donjonref7_Check.mono _ _
   | exact LeO.none _
   | refine LeO.ite ?_ ?_
   | refine LeO.bind ?_ (fun _ => ?_)
  ·intro y0 y1 y2 y3 y4 y5 y6 y7 y8 y9 y10 y11 y12 y13 y14 y15 y16
   unfold donjonref10_Check.j1
   repeat' first
   | (with_reducible exact ih0 _ _ _ _ _ _ _ _ _ _ _ _ _ _ _ _ _)
   | (with_reducible exact ih1 _ _ _ _ _ _ _ _ _ _ _ _ _ _ _ _ _)
   | (with_reducible exact ih2 _ _ _ _ _ _ _ _ _ _ _ _ _ _ _ _ _)
   | (with_reducible exact ih3 _ _ _ _ _ _ _ _ _ _ _ _ _ _ _ _ _)
   | (with_reducible exact ih4 _ _ _ _ _ _ _ _ _ _ _ _ _ _ _ _ _)
   | (with_reducible exact donjonref5_Check.mono _ _)
   | (with_reducible exact donjonref7_Check.mono _ _)
   | (with_reducible exact LeO.refl _)
   | (with_reducible exact LeO.none _)
   | (with_reducible refine LeO.ite ?_ ?_)
   | (with_reducible refine LeO.bind ?_ (fun _ => ?_))
   | exact ih0 _ _ _ _ _ _ _ _ _ _ _ _ _ _ _ _ _
   | exact ih1 _ _ _ _ _ _ _ _ _ _ _ _ _ _ _ _ _
   | exact ih2 _ _ _ _ _ _ _ _ _ _ _ _ _ _ _ _ _
   | exact ih3 _ _ _ _ _ _ _ _ _ _ _ _ _ _ _ _ _
   | exact ih4 _ _ _ _ _ _ _ _ _ _ _ _ _ _ _ _ _
   | exact donjonref5_Check.mono _ _
   | exact donjonref7_Check.mono _ _
   | exact LeO.none _
   | refine LeO.ite ?_ ?_
   | refine LeO.bind ?_ (fun _ => ?_)
  ·intro y0 y1 y2 y3 y4 y5 y6 y7 y8 y9 y10 y11 y12 y13 y14 y15 y16
   unfold donjonref10_Check.j2
   repeat' first
   | (with_reducible exact ih0 _ _ _ _ _ _ _ _ _ _ _ _ _ _ _ _ _)
   | (with_reducible exact ih1 _ _ _ _ _ _ _ _ _ _ _ _ _ _ _ _ _)
   | (with_reducible exact ih2 _ _ _ _ _ _ _ _ _ _ _ _ _ _ _ _ _)
   | (with_reducible exact ih3 _ _ _ _ _ _ _ _ _ _ _ _ _ _ _ _ _)
   | (with_reducible exact ih4 _ _ _ _ _ _ _ _ _ _ _ _ _ _ _ _ _)
   | (with_reducible exact donjonref5_Check.mono _ _)
   | (with_reducible exact donjonref7_Check.mono _ _)
   | (with_reducible exact LeO.refl _)
   | (with_reducible exact LeO.none _)
   | (with_reducible refine LeO.ite ?_ ?_)
   | (with_reducible refine LeO.bind ?_ (fun _ => ?_))
   | exact ih0 _ _ _ _ _ _ _ _ _ _ _ _ _ _ _ _ _
   | exact ih1 _ _ _ _ _ _ _ _ _ _ _ _ _ _ _ _ _
   | exact ih2 _ _ _ _ _ _ _ _ _ _ _ _ _ _ _ _ _
   | exact ih3 _ _ _ _ _ _ _ _ _ _ _ _ _ _ _ _ _
   | exact ih4 _ _ _ _ _ _ _ _ _ _ _ _ _ _ _ _ _
   | exact donjonref5_Check.mono _ _
   | exact donjonref7_Check.mono _ _
   | exact LeO.none _
   | refine LeO.ite ?_ ?_
   | refine LeO.bind ?_ (fun _ => ?_)
  ·intro y0 y1 y2 y3 y4 y5 y6 y7 y8 y9 y10 y11 y12 y13 y14 y15 y16
   unfold donjonref10_Check.j3
   repeat' first
   | (with_reducible exact ih0 _ _ _ _ _ _ _ _ _ _ _ _ _ _ _ _ _)
   | (with_reducible exact ih1 _ _ _ _ _ _ _ _ _ _ _ _ _ _ _ _ _)
   | (with_reducible exact ih2 _ _ _ _ _ _ _ _ _ _ _ _ _ _ _ _ _)
   | (with_reducible exact ih3 _ _ _ _ _ _ _ _ _ _ _ _ _ _ _ _ _)
   | (with_reducible exact ih4 _ _ _ _ _ _ _ _ _ _ _ _ _ _ _ _ _)
   | (with_reducible exact donjonref5_Check.mono _ _)
   | (with_reducible exact donjonref7_Check.mono _ _)
   | (with_reducible exact LeO.refl _)
   | (with_reducible exact LeO.none _)
   | (with_reducible refine LeO.ite ?_ ?_)
   | (with_reducible refine LeO.bind ?_ (fun _ => ?_))
   | exact ih0 _ _ _ _ _ _ _ _ _ _ _ _ _ _ _ _ _
   | exact ih1 _ _ _ _ _ _ _ _ _ _ _ _ _ _ _ _ _
   | exact ih2 _ _ _ _ _ _ _ _ _ _ _ _ _ _ _ _ _
   | exact ih3 _ _ _ _ _ _ _ _ _ _ _ _ _ _ _ _ _
   | exact ih4 _ _ _ _ _ _ _ _ _ _ _ _ _ _ _ _ _
   | exact donjonref5_Check.mono _ _
   | exact donjonref7_Check.mono _ _
   | exact LeO.none _
   | refine LeO.ite ?_ ?_
   | refine LeO.bind ?_ (fun _ => ?_)
  ·intro y0 y1 y2 y3 y4 y5 y6 y7 y8 y9 y10 y11 y12 y13 y14 y15 y16
   unfold donjonref10_Check.j4
   repeat' first
   | (with_reducible exact ih0 _ _ _ _ _ _ _ _ _ _ _ _ _ _ _ _ _)
   | (with_reducible exact ih1 _ _ _ _ _ _ _ _ _ _ _ _ _ _ _ _ _)
   | (with_reducible exact ih2 _ _ _ _ _ _ _ _ _ _ _ _ _ _ _ _ _)
   | (with_reducible exact ih3 _ _ _ _ _ _ _ _ _ _ _ _ _ _ _ _ _)
   | (with_reducible exact ih4 _ _ _ _ _ _ _ _ _ _ _ _ _ _ _ _ _)
   | (with_reducible exact donjonref5_Check.mono _ _)
   | (with_reducible exact donjonref7_Check.mono _ _)
   | (with_reducible exact LeO.refl _)
   | (with_reducible exact LeO.none _)
   | (with_reducible refine LeO.ite ?_ ?_)
   | (with_reducible refine LeO.bind ?_ (fun _ => ?_))
   | exact ih0 _ _ _ _ _ _ _ _ _ _ _ _ _ _ _ _ _
   | exact ih1 _ _ _ _ _ _ _ _ _ _ _ _ _ _ _ _ _
   | exact ih2 _ _ _ _ _ _ _ _ _ _ _ _ _ _ _ _ _
   | exact ih3 _ _ _ _ _ _ _ _ _ _ _ _ _ _ _ _ _
   | exact ih4 _ _ _ _ _ _ _ _ _ _ _ _ _ _ _ _ _
   | exact donjonref5_Check.mono _ _
   | exact donjonref7_Check.mono _ _
   | exact LeO.none _
   | refine LeO.ite ?_ ?_
   | refine LeO.bind ?_ (fun _ => ?_)
theorem donjonref10_Check.mono : ∀ a0 a1 a2 a3 a4 a5 a6 a7 a8 a9 a10 a11 a12 a13 a14 a15 k, LeO (donjonref10_Check.f k a0 a1 a2 a3 a4 a5 a6 a7 a8 a9 a10 a11 a12 a13 a14 a15) (donjonref10_Check.f (k + 1) a0 a1 a2 a3 a4 a5 a6 a7 a8 a9 a10 a11 a12 a13 a14 a15) := by
 intro a0 a1 a2 a3 a4 a5 a6 a7 a8 a9 a10 a11 a12 a13 a14 a15 k
 obtain ⟨ih0, ih1, ih2, ih3, ih4⟩ := donjonref10_Check.mono_l k
 unfold donjonref10_Check.f
 repeat' first
   | (with_reducible exact ih0 _ _ _ _ _ _ _ _ _ _ _ _ _ _ _ _ _)
   | (with_reducible exact ih1 _ _ _ _ _ _ _ _ _ _ _ _ _ _ _ _ _)
   | (with_reducible exact ih2 _ _ _ _ _ _ _ _ _ _ _ _ _ _ _ _ _)
   | (with_reducible exact ih3 _ _ _ _ _ _ _ _ _ _ _ _ _ _ _ _ _)
   | (with_reducible exact ih4 _ _ _ _ _ _ _ _ _ _ _ _ _ _ _ _ _)
   | (with_reducible exact donjonref5_Check.mono _ _)
   | (with_reducible exact donjonref7_Check.mono _ _)
   | (with_reducible exact LeO.refl _)
   | (with_reducible exact LeO.none _)
   | (with_reducible refine LeO.ite ?_ ?_)
   | (with_reducible refine LeO.bind ?_ (fun _ => ?_))
   | exact ih0 _ _ _ _ _ _ _ _ _ _ _ _ _ _ _ _ _
   | exact ih1 _ _ _ _ _ _ _ _ _ _ _ _ _ _ _ _ _
   | exact ih2 _ _ _ _ _ _ _ _ _ _ _ _ _ _ _ _ _
   | exact ih3 _ _ _ _ _ _ _ _ _ _ _ _ _ _ _ _ _
   | exact ih4 _ _ _ _ _ _ _ _ _ _ _ _ _ _ _ _ _
   | exact donjonref5_Check.mono _ _
   | exact donjonref7_Check.mono _ _
   | exact LeO.none _
   | refine LeO.ite ?_ ?_
   | refine LeO.bind ?_ (fun _ => ?_)
set_option maxHeartbeats 8000000 in
set_option maxRecDepth 100000 in
theorem donjonref10_Check.calls (k : Nat) (a0_0 : ByteArray) (a0_1 : Bool) (a0_2 : Int) (a0_3 : Int) (a0_4 : Int) (a0_5 : Int) (A0_6 : Option Addr) (c0_6 : Nat) (l0_6 : List (S62)) (a0_7 : Int) (a0_8 : Int) (a0_9 : Int) (a0_10 : Int) (A0_11 : Option Addr) (c0_11 : Nat) (l0_11 : List Int) (a0_12 : Int) (a0_13 : Int) (a0_14 : Int) (a0_15 : Int) (r : Int) (w : World) (hr0_6 : Kd.C k62 w A0_6 l0_6.length l0_6) (hc0_6 : l0_6.length ≤ c0_6) (hr0_11 : Kd.C (Kd.int .i64) w A0_11 l0_11.length l0_11) (hc0_11 : l0_11.length ≤ c0_11) (h : donjonref10_Check.f k a0_0 a0_1 a0_2 a0_3 a0_4 a0_5 l0_6 a0_7 a0_8 a0_9 a0_10 l0_11 a0_12 a0_13 a0_14 a0_15 = some r) :
  Calls Tryd.prog 8 #[.agg #[.string a0_0, .bool a0_1, .int .i64 a0_2, .int .i64 a0_3, .int .i64 a0_4, .int .i64 a0_5, .slice A0_6 l0_6.length c0_6, .int .i64 a0_7, .int .i64 a0_8, .int .i64 a0_9, .int .i64 a0_10, .slice A0_11 l0_11.length c0_11, .int .i64 a0_12, .int .i64 a0_13, .int .i64 a0_14, .int .i64 a0_15]] w fun e w' => e = .returned (.int .i64 r) ∧ Below w.heap.size w w' := by
 have hu29 := Tryd.underlying29
 have hu23 := Tryd.underlying23
 have hu26 := Tryd.underlying26
 have HR0_6 := Aside0.mk hr0_6
 have HC0_6 := Aside0.mk hc0_6
 clear hr0_6 hc0_6
 have HR0_11 := Aside0.mk hr0_11
 have HC0_11 := Aside0.mk hc0_11
 clear hr0_11 hc0_11
 have HB := Aside0.mk (Below.refl w.heap.size w)
 have H : ((donjonref7_Check.f k a0_0).bind fun t102 => (if t102 = 0 then ((donjonref4_Check.f a0_2 a0_3 a0_4 a0_5).bind fun t103 => (donjonref10_Check.j0 k t103 a0_0 a0_1 a0_2 a0_3 a0_4 a0_5 l0_6 a0_7 a0_8 a0_9 a0_10 l0_11 a0_12 a0_13 a0_14 a0_15)) else (donjonref10_Check.j0 k t102 a0_0 a0_1 a0_2 a0_3 a0_4 a0_5 l0_6 a0_7 a0_8 a0_9 a0_10 l0_11 a0_12 a0_13 a0_14 a0_15))) = some r := h
 clear h
 replace H := Option.bind_eq_some_iff.mp H
 obtain ⟨t102, A20, H⟩ := H
 try dsimp only at H
 have A2 := Aside0.mk A20
 clear A20
 have HC3 := Aside0.mk H
 clear H
 go_enter Tryd.func8, Tryd.ntmps8
 go_upto_if 8 with (first | ((with_reducible refine gate_dst (N := 1) rfl ?_); (try (refine gate_guard (by rfl) ?_; dsimp only)); refine box_event ?hg (N := 1) ?hd (cs := #[.string a0_0, .bool a0_1, .int .i64 a0_2, .int .i64 a0_3, .int .i64 a0_4, .int .i64 a0_5, .slice A0_6 l0_6.length c0_6, .int .i64 a0_7, .int .i64 a0_8, .int .i64 a0_9, .int .i64 a0_10, .slice A0_11 l0_11.length c0_11, .int .i64 a0_12, .int .i64 a0_13, .int .i64 a0_14, .int .i64 a0_15]) (t := 29) ?hr ?_; (case hd => rfl); (case hg => rfl); (case hr => first | (go_simp; done) | (go_simp; rfl)); intro gb101 hg w4 hbox hb; have n0_ := Aside0.mk (below_step (bl_ HB.out) hb); have n1_ := Aside0.mk (hbox); have n2_ := Aside0.mk ((by rw [hg]; exact (below_size (bl_ HB.out)) : w.heap.size ≤ gb101)); have n3_ := Aside0.mk ((by rw [hg]; exact (below_size (bl_ HB.out)) : w.heap.size ≤ gb101)); clear HB; have HB := n0_; have BK101 := n1_; have GW101 := n2_; have GE101 := n3_; clear n0_ n1_ n2_ n3_; clear hb hbox hg; have hcz5_0 : w4.cell? ⟨gb101, 0, none⟩ = some (.string a0_0) := (blk_cell BK101.out 0).trans rfl; have hcz5_1 : w4.cell? ⟨gb101, 1, none⟩ = some (.bool a0_1) := (blk_cell BK101.out 1).trans rfl; have hcz5_2 : w4.cell? ⟨gb101, 2, none⟩ = some (.int .i64 a0_2) := (blk_cell BK101.out 2).trans rfl; have hcz5_3 : w4.cell? ⟨gb101, 3, none⟩ = some (.int .i64 a0_3) := (blk_cell BK101.out 3).trans rfl; have hcz5_4 : w4.cell? ⟨gb101, 4, none⟩ = some (.int .i64 a0_4) := (blk_cell BK101.out 4).trans rfl; have hcz5_5 : w4.cell? ⟨gb101, 5, none⟩ = some (.int .i64 a0_5) := (blk_cell BK101.out 5).trans rfl; have hcz5_6 : w4.cell? ⟨gb101, 6, none⟩ = some (.slice A0_6 l0_6.length c0_6) := (blk_cell BK101.out 6).trans rfl; have hcz5_7 : w4.cell? ⟨gb101, 7, none⟩ = some (.int .i64 a0_7) := (blk_cell BK101.out 7).trans rfl; have hcz5_8 : w4.cell? ⟨gb101, 8, none⟩ = some (.int .i64 a0_8) := (blk_cell BK101.out 8).trans rfl; have hcz5_9 : w4.cell? ⟨gb101, 9, none⟩ = some (.int .i64 a0_9) := (blk_cell BK101.out 9).trans rfl; have hcz5_10 : w4.cell? ⟨gb101, 10, none⟩ = some (.int .i64 a0_10) := (blk_cell BK101.out 10).trans rfl; have hcz5_11 : w4.cell? ⟨gb101, 11, none⟩ = some (.slice A0_11 l0_11.length c0_11) := (blk_cell BK101.out 11).trans rfl; have hcz5_12 : w4.cell? ⟨gb101, 12, none⟩ = some (.int .i64 a0_12) := (blk_cell BK101.out 12).trans rfl; have hcz5_13 : w4.cell? ⟨gb101, 13, none⟩ = some (.int .i64 a0_13) := (blk_cell BK101.out 13).trans rfl; have hcz5_14 : w4.cell? ⟨gb101, 14, none⟩ = some (.int .i64 a0_14) := (blk_cell BK101.out 14).trans rfl; have hcz5_15 : w4.cell? ⟨gb101, 15, none⟩ = some (.int .i64 a0_15) := (blk_cell BK101.out 15).trans rfl; have hfz5_0 := blk_frozen BK101.out 0; have hfz5_1 := blk_frozen BK101.out 1; have hfz5_2 := blk_frozen BK101.out 2; have hfz5_3 := blk_frozen BK101.out 3; have hfz5_4 := blk_frozen BK101.out 4; have hfz5_5 := blk_frozen BK101.out 5; have hfz5_6 := blk_frozen BK101.out 6; have hfz5_7 := blk_frozen BK101.out 7; have hfz5_8 := blk_frozen BK101.out 8; have hfz5_9 := blk_frozen BK101.out 9; have hfz5_10 := blk_frozen BK101.out 10; have hfz5_11 := blk_frozen BK101.out 11; have hfz5_12 := blk_frozen BK101.out 12; have hfz5_13 := blk_frozen BK101.out 13; have hfz5_14 := blk_frozen BK101.out 14; have hfz5_15 := blk_frozen BK101.out 15) | ((with_reducible refine gate_callee (f := 17) rfl ?_); refine goesL_ (some 6) rfl rfl Tryd.func17 (by kernel_rfl) rfl #[.string a0_0] rfl (by (try simp only [List.map_toArray, List.map_cons, List.map_nil]); first | done | rfl | (simp only [List.length_drop, List.length_take]; rfl)) ?_; (with_reducible refine (donjonref7_Check.calls k a0_0 t102 _ A2.out).mono ?_); rintro e w6 ⟨rfl, hb⟩; refine ⟨_, rfl, ?_⟩; have n0_ := bb_ BK101 hb; have n1_ := Aside0.mk (below_step (bl_ HB.out) hb); clear BK101 HB; have BK101 := n0_; have HB := n1_; clear n0_ n1_; (try clear hb); (try clear hb2); (try clear hk); (try clear hi)))
 (try simp only [Act.put, xset_a, xset_z, xset_s])
 go_cut [3] (fun v3 wc => ∃ (kq : Nat) (x3_2 : Int), v3 = .int .i64 x3_2 ∧ Aside0 (donjonref10_Check.j0 kq x3_2 a0_0 a0_1 a0_2 a0_3 a0_4 a0_5 l0_6 a0_7 a0_8 a0_9 a0_10 l0_11 a0_12 a0_13 a0_14 a0_15 = some r) ∧ Aside0 (kq ≤ k) ∧ Aside0 (wc.heap[gb101]? = some (.cells #[.string a0_0, .bool a0_1, .int .i64 a0_2, .int .i64 a0_3, .int .i64 a0_4, .int .i64 a0_5, (.slice A0_6 l0_6.length c0_6), .int .i64 a0_7, .int .i64 a0_8, .int .i64 a0_9, .int .i64 a0_10, (.slice A0_11 l0_11.length c0_11), .int .i64 a0_12, .int .i64 a0_13, .int .i64 a0_14, .int .i64 a0_15] 29 (0, 0))) ∧ Aside0 (Below w.heap.size w wc))
 case first =>
  have H := HC3.out
  clear HC3
  by_cases c7 : t102 = 0
  ·rw [if_pos c7] at H
   have c7b0 : (t102 == 0) = true := beq_iff_eq.mpr c7
   have c7b1 : (t102 != 0) = false := bne_eq_false_iff_eq.mpr c7
   clear c7
   (first | rw [c7b0] | (simp only [i64_w, i32_w]; rw [c7b0]) | skip)
   replace H := Option.bind_eq_some_iff.mp H
   obtain ⟨t103, A80, H⟩ := H
   try dsimp only at H
   have A8 := Aside0.mk A80
   clear A80
   have H' := Aside0.mk H
   clear H
   have hcz9_0 : w6.cell? ⟨gb101, 0, none⟩ = some (.string a0_0) := (blk_cell BK101.out 0).trans rfl
   have hcz9_1 : w6.cell? ⟨gb101, 1, none⟩ = some (.bool a0_1) := (blk_cell BK101.out 1).trans rfl
   have hcz9_2 : w6.cell? ⟨gb101, 2, none⟩ = some (.int .i64 a0_2) := (blk_cell BK101.out 2).trans rfl
   have hcz9_3 : w6.cell? ⟨gb101, 3, none⟩ = some (.int .i64 a0_3) := (blk_cell BK101.out 3).trans rfl
   have hcz9_4 : w6.cell? ⟨gb101, 4, none⟩ = some (.int .i64 a0_4) := (blk_cell BK101.out 4).trans rfl
   have hcz9_5 : w6.cell? ⟨gb101, 5, none⟩ = some (.int .i64 a0_5) := (blk_cell BK101.out 5).trans rfl
   have hcz9_6 : w6.cell? ⟨gb101, 6, none⟩ = some (.slice A0_6 l0_6.length c0_6) := (blk_cell BK101.out 6).trans rfl
   have hcz9_7 : w6.cell? ⟨gb101, 7, none⟩ = some (.int .i64 a0_7) := (blk_cell BK101.out 7).trans rfl
   have hcz9_8 : w6.cell? ⟨gb101, 8, none⟩ = some (.int .i64 a0_8) := (blk_cell BK101.out 8).trans rfl
   have hcz9_9 : w6.cell? ⟨gb101, 9, none⟩ = some (.int .i64 a0_9) := (blk_cell BK101.out 9).trans rfl
   have hcz9_10 : w6.cell? ⟨gb101, 10, none⟩ = some (.int .i64 a0_10) := (blk_cell BK101.out 10).trans rfl
   have hcz9_11 : w6.cell? ⟨gb101, 11, none⟩ = some (.slice A0_11 l0_11.length c0_11) := (blk_cell BK101.out 11).trans rfl
   have hcz9_12 : w6.cell? ⟨gb101, 12, none⟩ = some (.int .i64 a0_12) := (blk_cell BK101.out 12).trans rfl
   have hcz9_13 : w6.cell? ⟨gb101, 13, none⟩ = some (.int .i64 a0_13) := (blk_cell BK101.out 13).trans rfl
   have hcz9_14 : w6.cell? ⟨gb101, 14, none⟩ = some (.int .i64 a0_14) := (blk_cell BK101.out 14).trans rfl
   have hcz9_15 : w6.cell? ⟨gb101, 15, none⟩ = some (.int .i64 a0_15) := (blk_cell BK101.out 15).trans rfl
   have hfz9_0 := blk_frozen BK101.out 0
   have hfz9_1 := blk_frozen BK101.out 1
   have hfz9_2 := blk_frozen BK101.out 2
   have hfz9_3 := blk_frozen BK101.out 3
   have hfz9_4 := blk_frozen BK101.out 4
   have hfz9_5 := blk_frozen BK101.out 5
   have hfz9_6 := blk_frozen BK101.out 6
   have hfz9_7 := blk_frozen BK101.out 7
   have hfz9_8 := blk_frozen BK101.out 8
   have hfz9_9 := blk_frozen BK101.out 9
   have hfz9_10 := blk_frozen BK101.out 10
   have hfz9_11 := blk_frozen BK101.out 11
   have hfz9_12 := blk_frozen BK101.out 12
   have hfz9_13 := blk_frozen BK101.out 13
   have hfz9_14 := blk_frozen BK101.out 14
   have hfz9_15 := blk_frozen BK101.out 15
   go_wp2_with (first | ((with_reducible refine gate_callee (f := 18) rfl ?_); refine goesL_ (some 11) rfl rfl Tryd.func18 (by kernel_rfl) rfl #[.agg #[.int .i64 a0_2, .int .i64 a0_3, .int .i64 a0_4, .int .i64 a0_5]] rfl (by (try simp only [List.map_toArray, List.map_cons, List.map_nil]); first | done | rfl | (simp only [List.length_drop, List.length_take]; rfl)) ?_; (with_reducible refine (donjonref4_Check.calls a0_2 a0_3 a0_4 a0_5 t103 _ A8.out).mono ?_); rintro e w10 ⟨rfl, hb⟩; refine ⟨_, rfl, ?_⟩; have n0_ := bb_ BK101 hb; have n1_ := Aside0.mk (below_step (bl_ HB.out) hb); clear BK101 HB; have BK101 := n0_; have HB := n1_; clear n0_ n1_; (try clear hb); (try clear hb2); (try clear hk); (try clear hi)))
   go_meet
   case rel => exact ⟨_, (t103), (by first | rfl | (simp; done) | (simp [*]; done)), H', ⟨by first | omega | exact Nat.le_refl _⟩, ⟨bk_ BK101.out⟩, ⟨bl_ HB.out⟩⟩
  ·rw [if_neg c7] at H
   have c7b0 : (t102 == 0) = false := beq_eq_false_iff_ne.mpr c7
   have c7b1 : (t102 != 0) = true := bne_iff_ne.mpr c7
   (first | rw [c7b0] | (simp only [i64_w, i32_w]; rw [c7b0]) | skip)
   have H' := Aside0.mk H
   clear H
   go_wp2
   go_meet
   case rel => exact ⟨_, (t102), (by first | rfl | (simp; done) | (simp [*]; done)), H', ⟨by first | omega | exact Nat.le_refl _⟩, ⟨bk_ BK101.out⟩, ⟨bl_ HB.out⟩⟩
 case rest =>
  clear HC3
  try clear c1
  try clear p2
  try clear c7
  try clear c7b0
  try clear c7b1
  try clear c8
  try clear hcz5_0 hcz5_1 hcz5_10 hcz5_11 hcz5_12 hcz5_13 hcz5_14 hcz5_15 hcz5_2 hcz5_3 hcz5_4 hcz5_5 hcz5_6 hcz5_7 hcz5_8 hcz5_9
  try clear hcz9_0 hcz9_1 hcz9_10 hcz9_11 hcz9_12 hcz9_13 hcz9_14 hcz9_15 hcz9_2 hcz9_3 hcz9_4 hcz9_5 hcz9_6 hcz9_7 hcz9_8 hcz9_9
  try clear hfz5_0 hfz5_1 hfz5_10 hfz5_11 hfz5_12 hfz5_13 hfz5_14 hfz5_15 hfz5_2 hfz5_3 hfz5_4 hfz5_5 hfz5_6 hfz5_7 hfz5_8 hfz5_9
  try clear hfz9_0 hfz9_1 hfz9_10 hfz9_11 hfz9_12 hfz9_13 hfz9_14 hfz9_15 hfz9_2 hfz9_3 hfz9_4 hfz9_5 hfz9_6 hfz9_7 hfz9_8 hfz9_9
  obtain ⟨kq, x3_2, rfl, HA, HJ2, BK101, HB⟩ := hcut
  cases kq with
  | zero => exact absurd HA.out (by simp [donjonref10_Check.j0])
  | succ kj2 =>
   have H := HA.out
   clear HA
   simp only [donjonref10_Check.j0] at H
   have HC11 := Aside0.mk H
   clear H
   go_upto_if 13 with (fail)
   go_cut [3] (fun v3 wc => ∃ (kq : Nat) (x3_10 : Int), v3 = .int .i64 x3_10 ∧ Aside0 (donjonref10_Check.j1 kq x3_10 a0_0 a0_1 a0_2 a0_3 a0_4 a0_5 l0_6 a0_7 a0_8 a0_9 a0_10 l0_11 a0_12 a0_13 a0_14 a0_15 = some r) ∧ Aside0 (kq ≤ kj2) ∧ Aside0 (wc.heap[gb101]? = some (.cells #[.string a0_0, .bool a0_1, .int .i64 a0_2, .int .i64 a0_3, .int .i64 a0_4, .int .i64 a0_5, (.slice A0_6 l0_6.length c0_6), .int .i64 a0_7, .int .i64 a0_8, .int .i64 a0_9, .int .i64 a0_10, (.slice A0_11 l0_11.length c0_11), .int .i64 a0_12, .int .i64 a0_13, .int .i64 a0_14, .int .i64 a0_15] 29 (0, 0))) ∧ Aside0 (Below w.heap.size w wc))
   case first =>
    have H := HC11.out
    clear HC11
    by_cases c12 : x3_2 = 0
    ·rw [if_pos c12] at H
     have c12b0 : (x3_2 == 0) = true := beq_iff_eq.mpr c12
     have c12b1 : (x3_2 != 0) = false := bne_eq_false_iff_eq.mpr c12
     clear c12
     (first | rw [c12b0] | (simp only [i64_w, i32_w]; rw [c12b0]) | skip)
     replace H := Option.bind_eq_some_iff.mp H
     obtain ⟨t104, A130, H⟩ := H
     try dsimp only at H
     have A13 := Aside0.mk A130
     clear A130
     have H' := Aside0.mk H
     clear H
     have hcz14_0 : wc.cell? ⟨gb101, 0, none⟩ = some (.string a0_0) := (blk_cell BK101.out 0).trans rfl
     have hcz14_1 : wc.cell? ⟨gb101, 1, none⟩ = some (.bool a0_1) := (blk_cell BK101.out 1).trans rfl
     have hcz14_2 : wc.cell? ⟨gb101, 2, none⟩ = some (.int .i64 a0_2) := (blk_cell BK101.out 2).trans rfl
     have hcz14_3 : wc.cell? ⟨gb101, 3, none⟩ = some (.int .i64 a0_3) := (blk_cell BK101.out 3).trans rfl
     have hcz14_4 : wc.cell? ⟨gb101, 4, none⟩ = some (.int .i64 a0_4) := (blk_cell BK101.out 4).trans rfl
     have hcz14_5 : wc.cell? ⟨gb101, 5, none⟩ = some (.int .i64 a0_5) := (blk_cell BK101.out 5).trans rfl
     have hcz14_6 : wc.cell? ⟨gb101, 6, none⟩ = some (.slice A0_6 l0_6.length c0_6) := (blk_cell BK101.out 6).trans rfl
     have hcz14_7 : wc.cell? ⟨gb101, 7, none⟩ = some (.int .i64 a0_7) := (blk_cell BK101.out 7).trans rfl
     have hcz14_8 : wc.cell? ⟨gb101, 8, none⟩ = some (.int .i64 a0_8) := (blk_cell BK101.out 8).trans rfl
     have hcz14_9 : wc.cell? ⟨gb101, 9, none⟩ = some (.int .i64 a0_9) := (blk_cell BK101.out 9).trans rfl
     have hcz14_10 : wc.cell? ⟨gb101, 10, none⟩ = some (.int .i64 a0_10) := (blk_cell BK101.out 10).trans rfl
     have hcz14_11 : wc.cell? ⟨gb101, 11, none⟩ = some (.slice A0_11 l0_11.length c0_11) := (blk_cell BK101.out 11).trans rfl
     have hcz14_12 : wc.cell? ⟨gb101, 12, none⟩ = some (.int .i64 a0_12) := (blk_cell BK101.out 12).trans rfl
     have hcz14_13 : wc.cell? ⟨gb101, 13, none⟩ = some (.int .i64 a0_13) := (blk_cell BK101.out 13).trans rfl
     have hcz14_14 : wc.cell? ⟨gb101, 14, none⟩ = some (.int .i64 a0_14) := (blk_cell BK101.out 14).trans rfl
     have hcz14_15 : wc.cell? ⟨gb101, 15, none⟩ = some (.int .i64 a0_15) := (blk_cell BK101.out 15).trans rfl
     have hfz14_0 := blk_frozen BK101.out 0
     have hfz14_1 := blk_frozen BK101.out 1
     have hfz14_2 := blk_frozen BK101.out 2
     have hfz14_3 := blk_frozen BK101.out 3
     have hfz14_4 := blk_frozen BK101.out 4
     have hfz14_5 := blk_frozen BK101.out 5
     have hfz14_6 := blk_frozen BK101.out 6
     have hfz14_7 := blk_frozen BK101.out 7
     have hfz14_8 := blk_frozen BK101.out 8
     have hfz14_9 := blk_frozen BK101.out 9
     have hfz14_10 := blk_frozen BK101.out 10
     have hfz14_11 := blk_frozen BK101.out 11
     have hfz14_12 := blk_frozen BK101.out 12
     have hfz14_13 := blk_frozen BK101.out 13
     have hfz14_14 := blk_frozen BK101.out 14
     have hfz14_15 := blk_frozen BK101.out 15
     go_wp2_with (first | ((with_reducible refine gate_callee (f := 18) rfl ?_); refine goesL_ (some 16) rfl rfl Tryd.func18 (by kernel_rfl) rfl #[.agg #[.int .i64 a0_12, .int .i64 a0_13, .int .i64 a0_14, .int .i64 a0_15]] rfl (by (try simp only [List.map_toArray, List.map_cons, List.map_nil]); first | done | rfl | (simp only [List.length_drop, List.length_take]; rfl)) ?_; (with_reducible refine (donjonref4_Check.calls a0_12 a0_13 a0_14 a0_15 t104 _ A13.out).mono ?_); rintro e w15 ⟨rfl, hb⟩; refine ⟨_, rfl, ?_⟩; have n0_ := bb_ BK101 hb; have n1_ := Aside0.mk (below_step (bl_ HB.out) hb); clear BK101 HB; have BK101 := n0_; have HB := n1_; clear n0_ n1_; (try clear hb); (try clear hb2); (try clear hk); (try clear hi)))
     go_meet
     case rel => exact ⟨_, (t104), (by first | rfl | (simp; done) | (simp [*]; done)), H', ⟨by have := HJ2.out; first | omega | exact Nat.le_refl _⟩, ⟨bk_ BK101.out⟩, ⟨bl_ HB.out⟩⟩
    ·rw [if_neg c12] at H
     have c12b0 : (x3_2 == 0) = false := beq_eq_false_iff_ne.mpr c12
     have c12b1 : (x3_2 != 0) = true := bne_iff_ne.mpr c12
     (first | rw [c12b0] | (simp only [i64_w, i32_w]; rw [c12b0]) | skip)
     have H' := Aside0.mk H
     clear H
     go_wp2
     go_meet
     case rel => exact ⟨_, (x3_2), (by first | rfl | (simp; done) | (simp [*]; done)), H', ⟨by have := HJ2.out; first | omega | exact Nat.le_refl _⟩, ⟨bk_ BK101.out⟩, ⟨bl_ HB.out⟩⟩
   case rest =>
    clear HC11
    try clear c1
    try clear p2
    try clear c7
    try clear c7b0
    try clear c7b1
    try clear c8
    try clear c12
    try clear c12b0
    try clear c12b1
    try clear hcz14_0 hcz14_1 hcz14_10 hcz14_11 hcz14_12 hcz14_13 hcz14_14 hcz14_15 hcz14_2 hcz14_3 hcz14_4 hcz14_5 hcz14_6 hcz14_7 hcz14_8 hcz14_9
    try clear hcz5_0 hcz5_1 hcz5_10 hcz5_11 hcz5_12 hcz5_13 hcz5_14 hcz5_15 hcz5_2 hcz5_3 hcz5_4 hcz5_5 hcz5_6 hcz5_7 hcz5_8 hcz5_9
    try clear hcz9_0 hcz9_1 hcz9_10 hcz9_11 hcz9_12 hcz9_13 hcz9_14 hcz9_15 hcz9_2 hcz9_3 hcz9_4 hcz9_5 hcz9_6 hcz9_7 hcz9_8 hcz9_9
    try clear hfz14_0 hfz14_1 hfz14_10 hfz14_11 hfz14_12 hfz14_13 hfz14_14 hfz14_15 hfz14_2 hfz14_3 hfz14_4 hfz14_5 hfz14_6 hfz14_7 hfz14_8 hfz14_9
    try clear hfz5_0 hfz5_1 hfz5_10 hfz5_11 hfz5_12 hfz5_13 hfz5_14 hfz5_15 hfz5_2 hfz5_3 hfz5_4 hfz5_5 hfz5_6 hfz5_7 hfz5_8 hfz5_9
    try clear hfz9_0 hfz9_1 hfz9_10 hfz9_11 hfz9_12 hfz9_13 hfz9_14 hfz9_15 hfz9_2 hfz9_3 hfz9_4 hfz9_5 hfz9_6 hfz9_7 hfz9_8 hfz9_9
    try clear p2
    obtain ⟨kq, x3_10, rfl, HA, HJ10, BK101, HB⟩ := hcut
    cases kq with
    | zero => exact absurd HA.out (by simp [donjonref10_Check.j1])
    | succ kj10 =>
     have H := HA.out
     clear HA
     simp only [donjonref10_Check.j1] at H
     have HC16 := Aside0.mk H
     clear H
     go_upto_if 18 with (fail)
     go_cut [3] (fun v3 wc => ∃ (kq : Nat) (x3_15 : Int), v3 = .int .i64 x3_15 ∧ Aside0 (donjonref10_Check.j2 kq x3_15 a0_0 a0_1 a0_2 a0_3 a0_4 a0_5 l0_6 a0_7 a0_8 a0_9 a0_10 l0_11 a0_12 a0_13 a0_14 a0_15 = some r) ∧ Aside0 (kq ≤ kj10) ∧ Aside0 (wc.heap[gb101]? = some (.cells #[.string a0_0, .bool a0_1, .int .i64 a0_2, .int .i64 a0_3, .int .i64 a0_4, .int .i64 a0_5, (.slice A0_6 l0_6.length c0_6), .int .i64 a0_7, .int .i64 a0_8, .int .i64 a0_9, .int .i64 a0_10, (.slice A0_11 l0_11.length c0_11), .int .i64 a0_12, .int .i64 a0_13, .int .i64 a0_14, .int .i64 a0_15] 29 (0, 0))) ∧ Aside0 (Below w.heap.size w wc))
     case first =>
      have H := HC16.out
      clear HC16
      by_cases c17 : x3_10 = 0
      ·rw [if_pos c17] at H
       have c17b0 : (x3_10 == 0) = true := beq_iff_eq.mpr c17
       have c17b1 : (x3_10 != 0) = false := bne_eq_false_iff_eq.mpr c17
       clear c17
       (first | rw [c17b0] | (simp only [i64_w, i32_w]; rw [c17b0]) | skip)
       replace H := Option.bind_eq_some_iff.mp H
       obtain ⟨t105, A180, H⟩ := H
       try dsimp only at H
       have A18 := Aside0.mk A180
       clear A180
       have H' := Aside0.mk H
       clear H
       have hcz19_0 : wc.cell? ⟨gb101, 0, none⟩ = some (.string a0_0) := (blk_cell BK101.out 0).trans rfl
       have hcz19_1 : wc.cell? ⟨gb101, 1, none⟩ = some (.bool a0_1) := (blk_cell BK101.out 1).trans rfl
       have hcz19_2 : wc.cell? ⟨gb101, 2, none⟩ = some (.int .i64 a0_2) := (blk_cell BK101.out 2).trans rfl
       have hcz19_3 : wc.cell? ⟨gb101, 3, none⟩ = some (.int .i64 a0_3) := (blk_cell BK101.out 3).trans rfl
       have hcz19_4 : wc.cell? ⟨gb101, 4, none⟩ = some (.int .i64 a0_4) := (blk_cell BK101.out 4).trans rfl
       have hcz19_5 : wc.cell? ⟨gb101, 5, none⟩ = some (.int .i64 a0_5) := (blk_cell BK101.out 5).trans rfl
       have hcz19_6 : wc.cell? ⟨gb101, 6, none⟩ = some (.slice A0_6 l0_6.length c0_6) := (blk_cell BK101.out 6).trans rfl
       have hcz19_7 : wc.cell? ⟨gb101, 7, none⟩ = some (.int .i64 a0_7) := (blk_cell BK101.out 7).trans rfl
       have hcz19_8 : wc.cell? ⟨gb101, 8, none⟩ = some (.int .i64 a0_8) := (blk_cell BK101.out 8).trans rfl
       have hcz19_9 : wc.cell? ⟨gb101, 9, none⟩ = some (.int .i64 a0_9) := (blk_cell BK101.out 9).trans rfl
       have hcz19_10 : wc.cell? ⟨gb101, 10, none⟩ = some (.int .i64 a0_10) := (blk_cell BK101.out 10).trans rfl
       have hcz19_11 : wc.cell? ⟨gb101, 11, none⟩ = some (.slice A0_11 l0_11.length c0_11) := (blk_cell BK101.out 11).trans rfl
       have hcz19_12 : wc.cell? ⟨gb101, 12, none⟩ = some (.int .i64 a0_12) := (blk_cell BK101.out 12).trans rfl
       have hcz19_13 : wc.cell? ⟨gb101, 13, none⟩ = some (.int .i64 a0_13) := (blk_cell BK101.out 13).trans rfl
       have hcz19_14 : wc.cell? ⟨gb101, 14, none⟩ = some (.int .i64 a0_14) := (blk_cell BK101.out 14).trans rfl
       have hcz19_15 : wc.cell? ⟨gb101, 15, none⟩ = some (.int .i64 a0_15) := (blk_cell BK101.out 15).trans rfl
       have hfz19_0 := blk_frozen BK101.out 0
       have hfz19_1 := blk_frozen BK101.out 1
       have hfz19_2 := blk_frozen BK101.out 2
       have hfz19_3 := blk_frozen BK101.out 3
       have hfz19_4 := blk_frozen BK101.out 4
       have hfz19_5 := blk_frozen BK101.out 5
       have hfz19_6 := blk_frozen BK101.out 6
       have hfz19_7 := blk_frozen BK101.out 7
       have hfz19_8 := blk_frozen BK101.out 8
       have hfz19_9 := blk_frozen BK101.out 9
       have hfz19_10 := blk_frozen BK101.out 10
       have hfz19_11 := blk_frozen BK101.out 11
       have hfz19_12 := blk_frozen BK101.out 12
       have hfz19_13 := blk_frozen BK101.out 13
       have hfz19_14 := blk_frozen BK101.out 14
       have hfz19_15 := blk_frozen BK101.out 15
       go_wp2_with (first | ((with_reducible refine gate_callee (f := 19) rfl ?_); refine goesL_ (some 21) rfl rfl Tryd.func19 (by kernel_rfl) rfl #[.slice A0_6 l0_6.length c0_6] rfl (by (try simp only [List.map_toArray, List.map_cons, List.map_nil]); first | done | rfl | (simp only [List.length_drop, List.length_take]; rfl)) ?_; (with_reducible refine (donjonref5_Check.calls kj10 _ _ l0_6 t105 _ ?side1 ?side2 A18.out).mono ?_); (case side1 => repeat (first | exact (Kd.C_below HR0_6.out HB.out) | (with_reducible refine Kd.C_alloc ?_ _) | (with_reducible refine Kd.C_drewN ?_ _) | (with_reducible refine Kd.C_drew ?_))); (case side2 => exact HC0_6.out); rintro e w20 ⟨rfl, hb⟩; refine ⟨_, rfl, ?_⟩; have n0_ := bb_ BK101 hb; have n1_ := Aside0.mk (below_step (bl_ HB.out) hb); clear BK101 HB; have BK101 := n0_; have HB := n1_; clear n0_ n1_; (try clear hb); (try clear hb2); (try clear hk); (try clear hi)))
       go_meet
       case rel => exact ⟨_, (t105), (by first | rfl | (simp; done) | (simp [*]; done)), H', ⟨by have := HJ2.out; have := HJ10.out; first | omega | exact Nat.le_refl _⟩, ⟨bk_ BK101.out⟩, ⟨bl_ HB.out⟩⟩
      ·rw [if_neg c17] at H
       have c17b0 : (x3_10 == 0) = false := beq_eq_false_iff_ne.mpr c17
       have c17b1 : (x3_10 != 0) = true := bne_iff_ne.mpr c17
       (first | rw [c17b0] | (simp only [i64_w, i32_w]; rw [c17b0]) | skip)
       have H' := Aside0.mk H
       clear H
       go_wp2
       go_meet
       case rel => exact ⟨_, (x3_10), (by first | rfl | (simp; done) | (simp [*]; done)), H', ⟨by have := HJ2.out; have := HJ10.out; first | omega | exact Nat.le_refl _⟩, ⟨bk_ BK101.out⟩, ⟨bl_ HB.out⟩⟩
     case rest =>
      clear HC16
      try clear c1
      try clear p2
      try clear c7
      try clear c7b0
      try clear c7b1
      try clear c8
      try clear c12
      try clear c12b0
      try clear c12b1
      try clear c17
      try clear c17b0
      try clear c17b1
      try clear c18
      try clear c19
      try clear hcz14_0 hcz14_1 hcz14_10 hcz14_11 hcz14_12 hcz14_13 hcz14_14 hcz14_15 hcz14_2 hcz14_3 hcz14_4 hcz14_5 hcz14_6 hcz14_7 hcz14_8 hcz14_9
      try clear hcz19_0 hcz19_1 hcz19_10 hcz19_11 hcz19_12 hcz19_13 hcz19_14 hcz19_15 hcz19_2 hcz19_3 hcz19_4 hcz19_5 hcz19_6 hcz19_7 hcz19_8 hcz19_9
      try clear hcz5_0 hcz5_1 hcz5_10 hcz5_11 hcz5_12 hcz5_13 hcz5_14 hcz5_15 hcz5_2 hcz5_3 hcz5_4 hcz5_5 hcz5_6 hcz5_7 hcz5_8 hcz5_9
      try clear hcz9_0 hcz9_1 hcz9_10 hcz9_11 hcz9_12 hcz9_13 hcz9_14 hcz9_15 hcz9_2 hcz9_3 hcz9_4 hcz9_5 hcz9_6 hcz9_7 hcz9_8 hcz9_9
      try clear hfz14_0 hfz14_1 hfz14_10 hfz14_11 hfz14_12 hfz14_13 hfz14_14 hfz14_15 hfz14_2 hfz14_3 hfz14_4 hfz14_5 hfz14_6 hfz14_7 hfz14_8 hfz14_9
      try clear hfz19_0 hfz19_1 hfz19_10 hfz19_11 hfz19_12 hfz19_13 hfz19_14 hfz19_15 hfz19_2 hfz19_3 hfz19_4 hfz19_5 hfz19_6 hfz19_7 hfz19_8 hfz19_9
      try clear hfz5_0 hfz5_1 hfz5_10 hfz5_11 hfz5_12 hfz5_13 hfz5_14 hfz5_15 hfz5_2 hfz5_3 hfz5_4 hfz5_5 hfz5_6 hfz5_7 hfz5_8 hfz5_9
      try clear hfz9_0 hfz9_1 hfz9_10 hfz9_11 hfz9_12 hfz9_13 hfz9_14 hfz9_15 hfz9_2 hfz9_3 hfz9_4 hfz9_5 hfz9_6 hfz9_7 hfz9_8 hfz9_9
      try clear p2
      obtain ⟨kq, x3_15, rfl, HA, HJ15, BK101, HB⟩ := hcut
      cases kq with
      | zero => exact absurd HA.out (by simp [donjonref10_Check.j2])
      | succ kj15 =>
       have H := HA.out
       clear HA
       simp only [donjonref10_Check.j2] at H
       by_cases c21 : x3_15 = 0
       ·rw [if_pos c21] at H
        have c21b0 : (x3_15 == 0) = true := beq_iff_eq.mpr c21
        have c21b1 : (x3_15 != 0) = false := bne_eq_false_iff_eq.mpr c21
        clear c21
        have HC22 := Aside0.mk H
        clear H
        go_upto_region 10 with (fail)
        go_cut [26] (fun v26 wc => ∃ (kq : Nat) (x26_21 : Bool), v26 = .bool x26_21 ∧ Aside0 (donjonref10_Check.j3 kq x26_21 a0_0 a0_1 a0_2 a0_3 a0_4 a0_5 l0_6 a0_7 a0_8 a0_9 a0_10 l0_11 a0_12 a0_13 a0_14 a0_15 = some r) ∧ Aside0 (kq ≤ kj15) ∧ Aside0 (wc.heap[gb101]? = some (.cells #[.string a0_0, .bool a0_1, .int .i64 a0_2, .int .i64 a0_3, .int .i64 a0_4, .int .i64 a0_5, (.slice A0_6 l0_6.length c0_6), .int .i64 a0_7, .int .i64 a0_8, .int .i64 a0_9, .int .i64 a0_10, (.slice A0_11 l0_11.length c0_11), .int .i64 a0_12, .int .i64 a0_13, .int .i64 a0_14, .int .i64 a0_15] 29 (0, 0))) ∧ Aside0 (Below w.heap.size w wc))
        case first =>
         have H := HC22.out
         clear HC22
         by_cases c23 : a0_0.toList = ([47] : List UInt8)
         ·rw [if_pos c23] at H
          have c23b0 : (a0_0.toList == ([47] : List UInt8)) = true := beq_iff_eq.mpr c23
          have c23b1 : (a0_0.toList != ([47] : List UInt8)) = false := bne_eq_false_iff_eq.mpr c23
          clear c23
          (first | rw [c23b0] | (simp only [i64_w, i32_w]; rw [c23b0]) | skip)
          have H' := Aside0.mk H
          clear H
          have hcz24_0 : wc.cell? ⟨gb101, 0, none⟩ = some (.string a0_0) := (blk_cell BK101.out 0).trans rfl
          have hcz24_1 : wc.cell? ⟨gb101, 1, none⟩ = some (.bool a0_1) := (blk_cell BK101.out 1).trans rfl
          have hcz24_2 : wc.cell? ⟨gb101, 2, none⟩ = some (.int .i64 a0_2) := (blk_cell BK101.out 2).trans rfl
          have hcz24_3 : wc.cell? ⟨gb101, 3, none⟩ = some (.int .i64 a0_3) := (blk_cell BK101.out 3).trans rfl
          have hcz24_4 : wc.cell? ⟨gb101, 4, none⟩ = some (.int .i64 a0_4) := (blk_cell BK101.out 4).trans rfl
          have hcz24_5 : wc.cell? ⟨gb101, 5, none⟩ = some (.int .i64 a0_5) := (blk_cell BK101.out 5).trans rfl
          have hcz24_6 : wc.cell? ⟨gb101, 6, none⟩ = some (.slice A0_6 l0_6.length c0_6) := (blk_cell BK101.out 6).trans rfl
          have hcz24_7 : wc.cell? ⟨gb101, 7, none⟩ = some (.int .i64 a0_7) := (blk_cell BK101.out 7).trans rfl
          have hcz24_8 : wc.cell? ⟨gb101, 8, none⟩ = some (.int .i64 a0_8) := (blk_cell BK101.out 8).trans rfl
          have hcz24_9 : wc.cell? ⟨gb101, 9, none⟩ = some (.int .i64 a0_9) := (blk_cell BK101.out 9).trans rfl
          have hcz24_10 : wc.cell? ⟨gb101, 10, none⟩ = some (.int .i64 a0_10) := (blk_cell BK101.out 10).trans rfl
          have hcz24_11 : wc.cell? ⟨gb101, 11, none⟩ = some (.slice A0_11 l0_11.length c0_11) := (blk_cell BK101.out 11).trans rfl
          have hcz24_12 : wc.cell? ⟨gb101, 12, none⟩ = some (.int .i64 a0_12) := (blk_cell BK101.out 12).trans rfl
          have hcz24_13 : wc.cell? ⟨gb101, 13, none⟩ = some (.int .i64 a0_13) := (blk_cell BK101.out 13).trans rfl
          have hcz24_14 : wc.cell? ⟨gb101, 14, none⟩ = some (.int .i64 a0_14) := (blk_cell BK101.out 14).trans rfl
          have hcz24_15 : wc.cell? ⟨gb101, 15, none⟩ = some (.int .i64 a0_15) := (blk_cell BK101.out 15).trans rfl
          have hfz24_0 := blk_frozen BK101.out 0
          have hfz24_1 := blk_frozen BK101.out 1
          have hfz24_2 := blk_frozen BK101.out 2
          have hfz24_3 := blk_frozen BK101.out 3
          have hfz24_4 := blk_frozen BK101.out 4
          have hfz24_5 := blk_frozen BK101.out 5
          have hfz24_6 := blk_frozen BK101.out 6
          have hfz24_7 := blk_frozen BK101.out 7
          have hfz24_8 := blk_frozen BK101.out 8
          have hfz24_9 := blk_frozen BK101.out 9
          have hfz24_10 := blk_frozen BK101.out 10
          have hfz24_11 := blk_frozen BK101.out 11
          have hfz24_12 := blk_frozen BK101.out 12
          have hfz24_13 := blk_frozen BK101.out 13
          have hfz24_14 := blk_frozen BK101.out 14
          have hfz24_15 := blk_frozen BK101.out 15
          go_wp2
          go_meet
          case rel => exact ⟨_, (!a0_1), (by first | rfl | (simp; done) | (simp [*]; done)), H', ⟨by have := HJ2.out; have := HJ10.out; have := HJ15.out; first | omega | exact Nat.le_refl _⟩, ⟨bk_ BK101.out⟩, ⟨bl_ HB.out⟩⟩
         ·rw [if_neg c23] at H
          have c23b0 : (a0_0.toList == ([47] : List UInt8)) = false := beq_eq_false_iff_ne.mpr c23
          have c23b1 : (a0_0.toList != ([47] : List UInt8)) = true := bne_iff_ne.mpr c23
          (first | rw [c23b0] | (simp only [i64_w, i32_w]; rw [c23b0]) | skip)
          have H' := Aside0.mk H
          clear H
          have hcz25_0 : wc.cell? ⟨gb101, 0, none⟩ = some (.string a0_0) := (blk_cell BK101.out 0).trans rfl
          have hcz25_1 : wc.cell? ⟨gb101, 1, none⟩ = some (.bool a0_1) := (blk_cell BK101.out 1).trans rfl
          have hcz25_2 : wc.cell? ⟨gb101, 2, none⟩ = some (.int .i64 a0_2) := (blk_cell BK101.out 2).trans rfl
          have hcz25_3 : wc.cell? ⟨gb101, 3, none⟩ = some (.int .i64 a0_3) := (blk_cell BK101.out 3).trans rfl
          have hcz25_4 : wc.cell? ⟨gb101, 4, none⟩ = some (.int .i64 a0_4) := (blk_cell BK101.out 4).trans rfl
          have hcz25_5 : wc.cell? ⟨gb101, 5, none⟩ = some (.int .i64 a0_5) := (blk_cell BK101.out 5).trans rfl
          have hcz25_6 : wc.cell? ⟨gb101, 6, none⟩ = some (.slice A0_6 l0_6.length c0_6) := (blk_cell BK101.out 6).trans rfl
          have hcz25_7 : wc.cell? ⟨gb101, 7, none⟩ = some (.int .i64 a0_7) := (blk_cell BK101.out 7).trans rfl
          have hcz25_8 : wc.cell? ⟨gb101, 8, none⟩ = some (.int .i64 a0_8) := (blk_cell BK101.out 8).trans rfl
          have hcz25_9 : wc.cell? ⟨gb101, 9, none⟩ = some (.int .i64 a0_9) := (blk_cell BK101.out 9).trans rfl
          have hcz25_10 : wc.cell? ⟨gb101, 10, none⟩ = some (.int .i64 a0_10) := (blk_cell BK101.out 10).trans rfl
          have hcz25_11 : wc.cell? ⟨gb101, 11, none⟩ = some (.slice A0_11 l0_11.length c0_11) := (blk_cell BK101.out 11).trans rfl
          have hcz25_12 : wc.cell? ⟨gb101, 12, none⟩ = some (.int .i64 a0_12) := (blk_cell BK101.out 12).trans rfl
          have hcz25_13 : wc.cell? ⟨gb101, 13, none⟩ = some (.int .i64 a0_13) := (blk_cell BK101.out 13).trans rfl
          have hcz25_14 : wc.cell? ⟨gb101, 14, none⟩ = some (.int .i64 a0_14) := (blk_cell BK101.out 14).trans rfl
          have hcz25_15 : wc.cell? ⟨gb101, 15, none⟩ = some (.int .i64 a0_15) := (blk_cell BK101.out 15).trans rfl
          have hfz25_0 := blk_frozen BK101.out 0
          have hfz25_1 := blk_frozen BK101.out 1
          have hfz25_2 := blk_frozen BK101.out 2
          have hfz25_3 := blk_frozen BK101.out 3
          have hfz25_4 := blk_frozen BK101.out 4
          have hfz25_5 := blk_frozen BK101.out 5
          have hfz25_6 := blk_frozen BK101.out 6
          have hfz25_7 := blk_frozen BK101.out 7
          have hfz25_8 := blk_frozen BK101.out 8
          have hfz25_9 := blk_frozen BK101.out 9
          have hfz25_10 := blk_frozen BK101.out 10
          have hfz25_11 := blk_frozen BK101.out 11
          have hfz25_12 := blk_frozen BK101.out 12
          have hfz25_13 := blk_frozen BK101.out 13
          have hfz25_14 := blk_frozen BK101.out 14
          have hfz25_15 := blk_frozen BK101.out 15
          go_wp2
          go_meet
          case rel => exact ⟨_, (false), (by first | rfl | (simp; done) | (simp [*]; done)), H', ⟨by have := HJ2.out; have := HJ10.out; have := HJ15.out; first | omega | exact Nat.le_refl _⟩, ⟨bk_ BK101.out⟩, ⟨bl_ HB.out⟩⟩
        case rest =>
         clear HC22
         try clear c1
         try clear c2
         try clear p2
         try clear c7
         try clear c7b0
         try clear c7b1
         try clear c8
         try clear c12
         try clear c12b0
         try clear c12b1
         try clear c17
         try clear c17b0
         try clear c17b1
         try clear c18
         try clear c19
         try clear c21
         try clear c21b0
         try clear c21b1
         try clear c23
         try clear c23b0
         try clear c23b1
         try clear hcz14_0 hcz14_1 hcz14_10 hcz14_11 hcz14_12 hcz14_13 hcz14_14 hcz14_15 hcz14_2 hcz14_3 hcz14_4 hcz14_5 hcz14_6 hcz14_7 hcz14_8 hcz14_9
         try clear hcz19_0 hcz19_1 hcz19_10 hcz19_11 hcz19_12 hcz19_13 hcz19_14 hcz19_15 hcz19_2 hcz19_3 hcz19_4 hcz19_5 hcz19_6 hcz19_7 hcz19_8 hcz19_9
         try clear hcz24_0 hcz24_1 hcz24_10 hcz24_11 hcz24_12 hcz24_13 hcz24_14 hcz24_15 hcz24_2 hcz24_3 hcz24_4 hcz24_5 hcz24_6 hcz24_7 hcz24_8 hcz24_9
         try clear hcz25_0 hcz25_1 hcz25_10 hcz25_11 hcz25_12 hcz25_13 hcz25_14 hcz25_15 hcz25_2 hcz25_3 hcz25_4 hcz25_5 hcz25_6 hcz25_7 hcz25_8 hcz25_9
         try clear hcz5_0 hcz5_1 hcz5_10 hcz5_11 hcz5_12 hcz5_13 hcz5_14 hcz5_15 hcz5_2 hcz5_3 hcz5_4 hcz5_5 hcz5_6 hcz5_7 hcz5_8 hcz5_9
         try clear hcz9_0 hcz9_1 hcz9_10 hcz9_11 hcz9_12 hcz9_13 hcz9_14 hcz9_15 hcz9_2 hcz9_3 hcz9_4 hcz9_5 hcz9_6 hcz9_7 hcz9_8 hcz9_9
         try clear hfz14_0 hfz14_1 hfz14_10 hfz14_11 hfz14_12 hfz14_13 hfz14_14 hfz14_15 hfz14_2 hfz14_3 hfz14_4 hfz14_5 hfz14_6 hfz14_7 hfz14_8 hfz14_9
         try clear hfz19_0 hfz19_1 hfz19_10 hfz19_11 hfz19_12 hfz19_13 hfz19_14 hfz19_15 hfz19_2 hfz19_3 hfz19_4 hfz19_5 hfz19_6 hfz19_7 hfz19_8 hfz19_9
         try clear hfz24_0 hfz24_1 hfz24_10 hfz24_11 hfz24_12 hfz24_13 hfz24_14 hfz24_15 hfz24_2 hfz24_3 hfz24_4 hfz24_5 hfz24_6 hfz24_7 hfz24_8 hfz24_9
         try clear hfz25_0 hfz25_1 hfz25_10 hfz25_11 hfz25_12 hfz25_13 hfz25_14 hfz25_15 hfz25_2 hfz25_3 hfz25_4 hfz25_5 hfz25_6 hfz25_7 hfz25_8 hfz25_9
         try clear hfz5_0 hfz5_1 hfz5_10 hfz5_11 hfz5_12 hfz5_13 hfz5_14 hfz5_15 hfz5_2 hfz5_3 hfz5_4 hfz5_5 hfz5_6 hfz5_7 hfz5_8 hfz5_9
         try clear hfz9_0 hfz9_1 hfz9_10 hfz9_11 hfz9_12 hfz9_13 hfz9_14 hfz9_15 hfz9_2 hfz9_3 hfz9_4 hfz9_5 hfz9_6 hfz9_7 hfz9_8 hfz9_9
         try clear p2
         obtain ⟨kq, x26_21, rfl, HA, HJ21, BK101, HB⟩ := hcut
         cases kq with
         | zero => exact absurd HA.out (by simp [donjonref10_Check.j3])
         | succ kj21 =>
          have H := HA.out
          clear HA
          simp only [donjonref10_Check.j3] at H
          by_cases c26 : x26_21 = true
          ·subst c26
           have H1 : (some 3) = some r := by rw [if_pos rfl] at H; exact H
           clear H
           have H := H1
           clear H1
           obtain rfl := Option.some.inj H
           go_wp2
           go_ret
           exact ⟨by first | rfl | (simp [errW_none, errW_some] <;> rfl) | (simp [*, errW_none, errW_some] <;> rfl), by repeat (first | (with_reducible first | exact HB.out | apply below_alloc | apply pw_below_drewN | apply below_drew1 | refine below_set ?_ GE101.out) | exact HB.out)⟩
          ·replace c26 := Bool.eq_false_iff.mpr c26
           subst c26
           have H1 : (if a0_1 = true then (if (!(a0_7 == 0) || (!(a0_8 == 0) || (!(a0_9 == 0) || (!(a0_10 == 0))))) = true then (donjonref10_Check.j4 kj21 true a0_0 a0_1 a0_2 a0_3 a0_4 a0_5 l0_6 a0_7 a0_8 a0_9 a0_10 l0_11 a0_12 a0_13 a0_14 a0_15) else (donjonref10_Check.j4 kj21 (decide ((l0_11.length : Int) > 0)) a0_0 a0_1 a0_2 a0_3 a0_4 a0_5 l0_6 a0_7 a0_8 a0_9 a0_10 l0_11 a0_12 a0_13 a0_14 a0_15)) else (donjonref10_Check.j4 kj21 false a0_0 a0_1 a0_2 a0_3 a0_4 a0_5 l0_6 a0_7 a0_8 a0_9 a0_10 l0_11 a0_12 a0_13 a0_14 a0_15)) = some r := by rw [if_neg (show ¬ (false = true) by decide)] at H; exact H
           clear H
           have H := H1
           clear H1
           have HC27 := Aside0.mk H
           clear H
           go_upto_region 12 with (fail)
           go_cut [35] (fun v35 wc => ∃ (kq : Nat) (x35_26 : Bool), v35 = .bool x35_26 ∧ Aside0 (donjonref10_Check.j4 kq x35_26 a0_0 a0_1 a0_2 a0_3 a0_4 a0_5 l0_6 a0_7 a0_8 a0_9 a0_10 l0_11 a0_12 a0_13 a0_14 a0_15 = some r) ∧ Aside0 (kq ≤ kj21) ∧ Aside0 (wc.heap[gb101]? = some (.cells #[.string a0_0, .bool a0_1, .int .i64 a0_2, .int .i64 a0_3, .int .i64 a0_4, .int .i64 a0_5, (.slice A0_6 l0_6.length c0_6), .int .i64 a0_7, .int .i64 a0_8, .int .i64 a0_9, .int .i64 a0_10, (.slice A0_11 l0_11.length c0_11), .int .i64 a0_12, .int .i64 a0_13, .int .i64 a0_14, .int .i64 a0_15] 29 (0, 0))) ∧ Aside0 (Below w.heap.size w wc))
           case first =>
            have H := HC27.out
            clear HC27
            by_cases c28 : a0_1 = true
            ·subst c28
             have H1 : (if (!(a0_7 == 0) || (!(a0_8 == 0) || (!(a0_9 == 0) || (!(a0_10 == 0))))) = true then (donjonref10_Check.j4 kj21 true a0_0 true a0_2 a0_3 a0_4 a0_5 l0_6 a0_7 a0_8 a0_9 a0_10 l0_11 a0_12 a0_13 a0_14 a0_15) else (donjonref10_Check.j4 kj21 (decide ((l0_11.length : Int) > 0)) a0_0 true a0_2 a0_3 a0_4 a0_5 l0_6 a0_7 a0_8 a0_9 a0_10 l0_11 a0_12 a0_13 a0_14 a0_15)) = some r := by rw [if_pos rfl] at H; exact H
             clear H
             have H := H1
             clear H1
             by_cases c29 : (!(a0_7 == 0) || (!(a0_8 == 0) || (!(a0_9 == 0) || (!(a0_10 == 0))))) = true
             ·rw [if_pos c29] at H
              have c29b0 : (!(a0_7 == 0) || (!(a0_8 == 0) || (!(a0_9 == 0) || (!(a0_10 == 0))))) = true := c29
              clear c29
              (first | rw [c29b0] | (simp only [i64_w, i32_w]; rw [c29b0]) | skip)
              have H' := Aside0.mk H
              clear H
              have hcz30_0 : wc.cell? ⟨gb101, 0, none⟩ = some (.string a0_0) := (blk_cell BK101.out 0).trans rfl
              have hcz30_1 : wc.cell? ⟨gb101, 1, none⟩ = some (.bool true) := (blk_cell BK101.out 1).trans rfl
              have hcz30_2 : wc.cell? ⟨gb101, 2, none⟩ = some (.int .i64 a0_2) := (blk_cell BK101.out 2).trans rfl
              have hcz30_3 : wc.cell? ⟨gb101, 3, none⟩ = some (.int .i64 a0_3) := (blk_cell BK101.out 3).trans rfl
              have hcz30_4 : wc.cell? ⟨gb101, 4, none⟩ = some (.int .i64 a0_4) := (blk_cell BK101.out 4).trans rfl
              have hcz30_5 : wc.cell? ⟨gb101, 5, none⟩ = some (.int .i64 a0_5) := (blk_cell BK101.out 5).trans rfl
              have hcz30_6 : wc.cell? ⟨gb101, 6, none⟩ = some (.slice A0_6 l0_6.length c0_6) := (blk_cell BK101.out 6).trans rfl
              have hcz30_7 : wc.cell? ⟨gb101, 7, none⟩ = some (.int .i64 a0_7) := (blk_cell BK101.out 7).trans rfl
              have hcz30_8 : wc.cell? ⟨gb101, 8, none⟩ = some (.int .i64 a0_8) := (blk_cell BK101.out 8).trans rfl
              have hcz30_9 : wc.cell? ⟨gb101, 9, none⟩ = some (.int .i64 a0_9) := (blk_cell BK101.out 9).trans rfl
              have hcz30_10 : wc.cell? ⟨gb101, 10, none⟩ = some (.int .i64 a0_10) := (blk_cell BK101.out 10).trans rfl
              have hcz30_11 : wc.cell? ⟨gb101, 11, none⟩ = some (.slice A0_11 l0_11.length c0_11) := (blk_cell BK101.out 11).trans rfl
              have hcz30_12 : wc.cell? ⟨gb101, 12, none⟩ = some (.int .i64 a0_12) := (blk_cell BK101.out 12).trans rfl
              have hcz30_13 : wc.cell? ⟨gb101, 13, none⟩ = some (.int .i64 a0_13) := (blk_cell BK101.out 13).trans rfl
              have hcz30_14 : wc.cell? ⟨gb101, 14, none⟩ = some (.int .i64 a0_14) := (blk_cell BK101.out 14).trans rfl
              have hcz30_15 : wc.cell? ⟨gb101, 15, none⟩ = some (.int .i64 a0_15) := (blk_cell BK101.out 15).trans rfl
              have hfz30_0 := blk_frozen BK101.out 0
              have hfz30_1 := blk_frozen BK101.out 1
              have hfz30_2 := blk_frozen BK101.out 2
              have hfz30_3 := blk_frozen BK101.out 3
              have hfz30_4 := blk_frozen BK101.out 4
              have hfz30_5 := blk_frozen BK101.out 5
              have hfz30_6 := blk_frozen BK101.out 6
              have hfz30_7 := blk_frozen BK101.out 7
              have hfz30_8 := blk_frozen BK101.out 8
              have hfz30_9 := blk_frozen BK101.out 9
              have hfz30_10 := blk_frozen BK101.out 10
              have hfz30_11 := blk_frozen BK101.out 11
              have hfz30_12 := blk_frozen BK101.out 12
              have hfz30_13 := blk_frozen BK101.out 13
              have hfz30_14 := blk_frozen BK101.out 14
              have hfz30_15 := blk_frozen BK101.out 15
              go_wp2
              go_meet
              case rel => exact ⟨_, (true), (by first | rfl | (simp; done) | (simp [*]; done)), H', ⟨by have := HJ2.out; have := HJ10.out; have := HJ15.out; have := HJ21.out; first | omega | exact Nat.le_refl _⟩, ⟨bk_ BK101.out⟩, ⟨bl_ HB.out⟩⟩
             ·rw [if_neg c29] at H
              have c29b0 : (!(a0_7 == 0) || (!(a0_8 == 0) || (!(a0_9 == 0) || (!(a0_10 == 0))))) = false := by simpa using c29
              clear c29
              (first | rw [c29b0] | (simp only [i64_w, i32_w]; rw [c29b0]) | skip)
              have H' := Aside0.mk H
              clear H
              have hcz31_0 : wc.cell? ⟨gb101, 0, none⟩ = some (.string a0_0) := (blk_cell BK101.out 0).trans rfl
              have hcz31_1 : wc.cell? ⟨gb101, 1, none⟩ = some (.bool true) := (blk_cell BK101.out 1).trans rfl
              have hcz31_2 : wc.cell? ⟨gb101, 2, none⟩ = some (.int .i64 a0_2) := (blk_cell BK101.out 2).trans rfl
              have hcz31_3 : wc.cell? ⟨gb101, 3, none⟩ = some (.int .i64 a0_3) := (blk_cell BK101.out 3).trans rfl
              have hcz31_4 : wc.cell? ⟨gb101, 4, none⟩ = some (.int .i64 a0_4) := (blk_cell BK101.out 4).trans rfl
              have hcz31_5 : wc.cell? ⟨gb101, 5, none⟩ = some (.int .i64 a0_5) := (blk_cell BK101.out 5).trans rfl
              have hcz31_6 : wc.cell? ⟨gb101, 6, none⟩ = some (.slice A0_6 l0_6.length c0_6) := (blk_cell BK101.out 6).trans rfl
              have hcz31_7 : wc.cell? ⟨gb101, 7, none⟩ = some (.int .i64 a0_7) := (blk_cell BK101.out 7).trans rfl
              have hcz31_8 : wc.cell? ⟨gb101, 8, none⟩ = some (.int .i64 a0_8) := (blk_cell BK101.out 8).trans rfl
              have hcz31_9 : wc.cell? ⟨gb101, 9, none⟩ = some (.int .i64 a0_9) := (blk_cell BK101.out 9).trans rfl
              have hcz31_10 : wc.cell? ⟨gb101, 10, none⟩ = some (.int .i64 a0_10) := (blk_cell BK101.out 10).trans rfl
              have hcz31_11 : wc.cell? ⟨gb101, 11, none⟩ = some (.slice A0_11 l0_11.length c0_11) := (blk_cell BK101.out 11).trans rfl
              have hcz31_12 : wc.cell? ⟨gb101, 12, none⟩ = some (.int .i64 a0_12) := (blk_cell BK101.out 12).trans rfl
              have hcz31_13 : wc.cell? ⟨gb101, 13, none⟩ = some (.int .i64 a0_13) := (blk_cell BK101.out 13).trans rfl
              have hcz31_14 : wc.cell? ⟨gb101, 14, none⟩ = some (.int .i64 a0_14) := (blk_cell BK101.out 14).trans rfl
              have hcz31_15 : wc.cell? ⟨gb101, 15, none⟩ = some (.int .i64 a0_15) := (blk_cell BK101.out 15).trans rfl
              have hfz31_0 := blk_frozen BK101.out 0
              have hfz31_1 := blk_frozen BK101.out 1
              have hfz31_2 := blk_frozen BK101.out 2
              have hfz31_3 := blk_frozen BK101.out 3
              have hfz31_4 := blk_frozen BK101.out 4
              have hfz31_5 := blk_frozen BK101.out 5
              have hfz31_6 := blk_frozen BK101.out 6
              have hfz31_7 := blk_frozen BK101.out 7
              have hfz31_8 := blk_frozen BK101.out 8
              have hfz31_9 := blk_frozen BK101.out 9
              have hfz31_10 := blk_frozen BK101.out 10
              have hfz31_11 := blk_frozen BK101.out 11
              have hfz31_12 := blk_frozen BK101.out 12
              have hfz31_13 := blk_frozen BK101.out 13
              have hfz31_14 := blk_frozen BK101.out 14
              have hfz31_15 := blk_frozen BK101.out 15
              go_wp2
              go_meet
              case rel => exact ⟨_, (decide ((l0_11.length : Int) > 0)), (by first | rfl | (simp; done) | (simp [*]; done)), H', ⟨by have := HJ2.out; have := HJ10.out; have := HJ15.out; have := HJ21.out; first | omega | exact Nat.le_refl _⟩, ⟨bk_ BK101.out⟩, ⟨bl_ HB.out⟩⟩
            ·replace c28 := Bool.eq_false_iff.mpr c28
             subst c28
             have H1 : (donjonref10_Check.j4 kj21 false a0_0 false a0_2 a0_3 a0_4 a0_5 l0_6 a0_7 a0_8 a0_9 a0_10 l0_11 a0_12 a0_13 a0_14 a0_15) = some r := by rw [if_neg (show ¬ (false = true) by decide)] at H; exact H
             clear H
             have H := H1
             clear H1
             have H' := Aside0.mk H
             clear H
             have hcz32_0 : wc.cell? ⟨gb101, 0, none⟩ = some (.string a0_0) := (blk_cell BK101.out 0).trans rfl
             have hcz32_1 : wc.cell? ⟨gb101, 1, none⟩ = some (.bool false) := (blk_cell BK101.out 1).trans rfl
             have hcz32_2 : wc.cell? ⟨gb101, 2, none⟩ = some (.int .i64 a0_2) := (blk_cell BK101.out 2).trans rfl
             have hcz32_3 : wc.cell? ⟨gb101, 3, none⟩ = some (.int .i64 a0_3) := (blk_cell BK101.out 3).trans rfl
             have hcz32_4 : wc.cell? ⟨gb101, 4, none⟩ = some (.int .i64 a0_4) := (blk_cell BK101.out 4).trans rfl
             have hcz32_5 : wc.cell? ⟨gb101, 5, none⟩ = some (.int .i64 a0_5) := (blk_cell BK101.out 5).trans rfl
             have hcz32_6 : wc.cell? ⟨gb101, 6, none⟩ = some (.slice A0_6 l0_6.length c0_6) := (blk_cell BK101.out 6).trans rfl
             have hcz32_7 : wc.cell? ⟨gb101, 7, none⟩ = some (.int .i64 a0_7) := (blk_cell BK101.out 7).trans rfl
             have hcz32_8 : wc.cell? ⟨gb101, 8, none⟩ = some (.int .i64 a0_8) := (blk_cell BK101.out 8).trans rfl
             have hcz32_9 : wc.cell? ⟨gb101, 9, none⟩ = some (.int .i64 a0_9) := (blk_cell BK101.out 9).trans rfl
             have hcz32_10 : wc.cell? ⟨gb101, 10, none⟩ = some (.int .i64 a0_10) := (blk_cell BK101.out 10).trans rfl
             have hcz32_11 : wc.cell? ⟨gb101, 11, none⟩ = some (.slice A0_11 l0_11.length c0_11) := (blk_cell BK101.out 11).trans rfl
             have hcz32_12 : wc.cell? ⟨gb101, 12, none⟩ = some (.int .i64 a0_12) := (blk_cell BK101.out 12).trans rfl
             have hcz32_13 : wc.cell? ⟨gb101, 13, none⟩ = some (.int .i64 a0_13) := (blk_cell BK101.out 13).trans rfl
             have hcz32_14 : wc.cell? ⟨gb101, 14, none⟩ = some (.int .i64 a0_14) := (blk_cell BK101.out 14).trans rfl
             have hcz32_15 : wc.cell? ⟨gb101, 15, none⟩ = some (.int .i64 a0_15) := (blk_cell BK101.out 15).trans rfl
             have hfz32_0 := blk_frozen BK101.out 0
             have hfz32_1 := blk_frozen BK101.out 1
             have hfz32_2 := blk_frozen BK101.out 2
             have hfz32_3 := blk_frozen BK101.out 3
             have hfz32_4 := blk_frozen BK101.out 4
             have hfz32_5 := blk_frozen BK101.out 5
             have hfz32_6 := blk_frozen BK101.out 6
             have hfz32_7 := blk_frozen BK101.out 7
             have hfz32_8 := blk_frozen BK101.out 8
             have hfz32_9 := blk_frozen BK101.out 9
             have hfz32_10 := blk_frozen BK101.out 10
             have hfz32_11 := blk_frozen BK101.out 11
             have hfz32_12 := blk_frozen BK101.out 12
             have hfz32_13 := blk_frozen BK101.out 13
             have hfz32_14 := blk_frozen BK101.out 14
             have hfz32_15 := blk_frozen BK101.out 15
             go_wp2
             go_meet
             case rel => exact ⟨_, (false), (by first | rfl | (simp; done) | (simp [*]; done)), H', ⟨by have := HJ2.out; have := HJ10.out; have := HJ15.out; have := HJ21.out; first | omega | exact Nat.le_refl _⟩, ⟨bk_ BK101.out⟩, ⟨bl_ HB.out⟩⟩
           case rest =>
            clear HC27
            try clear c1
            try clear c2
            try clear p2
            try clear c7
            try clear c7b0
            try clear c7b1
            try clear c8
            try clear c12
            try clear c12b0
            try clear c12b1
            try clear c17
            try clear c17b0
            try clear c17b1
            try clear c18
            try clear c19
            try clear c21
            try clear c21b0
            try clear c21b1
            try clear c23
            try clear c23b0
            try clear c23b1
            try clear c26
            try clear c28
            try clear c29
            try clear c29b0
            try clear hcz14_0 hcz14_1 hcz14_10 hcz14_11 hcz14_12 hcz14_13 hcz14_14 hcz14_15 hcz14_2 hcz14_3 hcz14_4 hcz14_5 hcz14_6 hcz14_7 hcz14_8 hcz14_9
            try clear hcz19_0 hcz19_1 hcz19_10 hcz19_11 hcz19_12 hcz19_13 hcz19_14 hcz19_15 hcz19_2 hcz19_3 hcz19_4 hcz19_5 hcz19_6 hcz19_7 hcz19_8 hcz19_9
            try clear hcz24_0 hcz24_1 hcz24_10 hcz24_11 hcz24_12 hcz24_13 hcz24_14 hcz24_15 hcz24_2 hcz24_3 hcz24_4 hcz24_5 hcz24_6 hcz24_7 hcz24_8 hcz24_9
            try clear hcz25_0 hcz25_1 hcz25_10 hcz25_11 hcz25_12 hcz25_13 hcz25_14 hcz25_15 hcz25_2 hcz25_3 hcz25_4 hcz25_5 hcz25_6 hcz25_7 hcz25_8 hcz25_9
            try clear hcz30_0 hcz30_1 hcz30_10 hcz30_11 hcz30_12 hcz30_13 hcz30_14 hcz30_15 hcz30_2 hcz30_3 hcz30_4 hcz30_5 hcz30_6 hcz30_7 hcz30_8 hcz30_9
            try clear hcz31_0 hcz31_1 hcz31_10 hcz31_11 hcz31_12 hcz31_13 hcz31_14 hcz31_15 hcz31_2 hcz31_3 hcz31_4 hcz31_5 hcz31_6 hcz31_7 hcz31_8 hcz31_9
            try clear hcz32_0 hcz32_1 hcz32_10 hcz32_11 hcz32_12 hcz32_13 hcz32_14 hcz32_15 hcz32_2 hcz32_3 hcz32_4 hcz32_5 hcz32_6 hcz32_7 hcz32_8 hcz32_9
            try clear hcz5_0 hcz5_1 hcz5_10 hcz5_11 hcz5_12 hcz5_13 hcz5_14 hcz5_15 hcz5_2 hcz5_3 hcz5_4 hcz5_5 hcz5_6 hcz5_7 hcz5_8 hcz5_9
            try clear hcz9_0 hcz9_1 hcz9_10 hcz9_11 hcz9_12 hcz9_13 hcz9_14 hcz9_15 hcz9_2 hcz9_3 hcz9_4 hcz9_5 hcz9_6 hcz9_7 hcz9_8 hcz9_9
            try clear hfz14_0 hfz14_1 hfz14_10 hfz14_11 hfz14_12 hfz14_13 hfz14_14 hfz14_15 hfz14_2 hfz14_3 hfz14_4 hfz14_5 hfz14_6 hfz14_7 hfz14_8 hfz14_9
            try clear hfz19_0 hfz19_1 hfz19_10 hfz19_11 hfz19_12 hfz19_13 hfz19_14 hfz19_15 hfz19_2 hfz19_3 hfz19_4 hfz19_5 hfz19_6 hfz19_7 hfz19_8 hfz19_9
            try clear hfz24_0 hfz24_1 hfz24_10 hfz24_11 hfz24_12 hfz24_13 hfz24_14 hfz24_15 hfz24_2 hfz24_3 hfz24_4 hfz24_5 hfz24_6 hfz24_7 hfz24_8 hfz24_9
            try clear hfz25_0 hfz25_1 hfz25_10 hfz25_11 hfz25_12 hfz25_13 hfz25_14 hfz25_15 hfz25_2 hfz25_3 hfz25_4 hfz25_5 hfz25_6 hfz25_7 hfz25_8 hfz25_9
            try clear hfz30_0 hfz30_1 hfz30_10 hfz30_11 hfz30_12 hfz30_13 hfz30_14 hfz30_15 hfz30_2 hfz30_3 hfz30_4 hfz30_5 hfz30_6 hfz30_7 hfz30_8 hfz30_9
            try clear hfz31_0 hfz31_1 hfz31_10 hfz31_11 hfz31_12 hfz31_13 hfz31_14 hfz31_15 hfz31_2 hfz31_3 hfz31_4 hfz31_5 hfz31_6 hfz31_7 hfz31_8 hfz31_9
            try clear hfz32_0 hfz32_1 hfz32_10 hfz32_11 hfz32_12 hfz32_13 hfz32_14 hfz32_15 hfz32_2 hfz32_3 hfz32_4 hfz32_5 hfz32_6 hfz32_7 hfz32_8 hfz32_9
            try clear hfz5_0 hfz5_1 hfz5_10 hfz5_11 hfz5_12 hfz5_13 hfz5_14 hfz5_15 hfz5_2 hfz5_3 hfz5_4 hfz5_5 hfz5_6 hfz5_7 hfz5_8 hfz5_9
            try clear hfz9_0 hfz9_1 hfz9_10 hfz9_11 hfz9_12 hfz9_13 hfz9_14 hfz9_15 hfz9_2 hfz9_3 hfz9_4 hfz9_5 hfz9_6 hfz9_7 hfz9_8 hfz9_9
            try clear p2
            obtain ⟨kq, x35_26, rfl, HA, HJ26, BK101, HB⟩ := hcut
            cases kq with
            | zero => exact absurd HA.out (by simp [donjonref10_Check.j4])
            | succ kj26 =>
             have H := HA.out
             clear HA
             simp only [donjonref10_Check.j4] at H
             by_cases c33 : x35_26 = true
             ·subst c33
              have H1 : (some 11) = some r := by rw [if_pos rfl] at H; exact H
              clear H
              have H := H1
              clear H1
              obtain rfl := Option.some.inj H
              go_wp2
              go_ret
              exact ⟨by first | rfl | (simp [errW_none, errW_some] <;> rfl) | (simp [*, errW_none, errW_some] <;> rfl), by repeat (first | (with_reducible first | exact HB.out | apply below_alloc | apply pw_below_drewN | apply below_drew1 | refine below_set ?_ GE101.out) | exact HB.out)⟩
             ·replace c33 := Bool.eq_false_iff.mpr c33
              subst c33
              have H1 : (if a0_1 = true then (some 0) else ((donjonref6_Check.f a0_7 a0_8 a0_9 a0_10).bind fun t106 => (if t106 = 0 then (if (l0_11.length : Int) > 16 then (some 4) else (some 0)) else ((donjonref6_Check.f a0_7 a0_8 a0_9 a0_10).bind fun t107 => (some t107))))) = some r := by rw [if_neg (show ¬ (false = true) by decide)] at H; exact H
              clear H
              have H := H1
              clear H1
              by_cases c34 : a0_1 = true
              ·subst c34
               have H1 : (some 0) = some r := by rw [if_pos rfl] at H; exact H
               clear H
               have H := H1
               clear H1
               obtain rfl := Option.some.inj H
               have hcz35_0 : wc.cell? ⟨gb101, 0, none⟩ = some (.string a0_0) := (blk_cell BK101.out 0).trans rfl
               have hcz35_1 : wc.cell? ⟨gb101, 1, none⟩ = some (.bool true) := (blk_cell BK101.out 1).trans rfl
               have hcz35_2 : wc.cell? ⟨gb101, 2, none⟩ = some (.int .i64 a0_2) := (blk_cell BK101.out 2).trans rfl
               have hcz35_3 : wc.cell? ⟨gb101, 3, none⟩ = some (.int .i64 a0_3) := (blk_cell BK101.out 3).trans rfl
               have hcz35_4 : wc.cell? ⟨gb101, 4, none⟩ = some (.int .i64 a0_4) := (blk_cell BK101.out 4).trans rfl
               have hcz35_5 : wc.cell? ⟨gb101, 5, none⟩ = some (.int .i64 a0_5) := (blk_cell BK101.out 5).trans rfl
               have hcz35_6 : wc.cell? ⟨gb101, 6, none⟩ = some (.slice A0_6 l0_6.length c0_6) := (blk_cell BK101.out 6).trans rfl
               have hcz35_7 : wc.cell? ⟨gb101, 7, none⟩ = some (.int .i64 a0_7) := (blk_cell BK101.out 7).trans rfl
               have hcz35_8 : wc.cell? ⟨gb101, 8, none⟩ = some (.int .i64 a0_8) := (blk_cell BK101.out 8).trans rfl
               have hcz35_9 : wc.cell? ⟨gb101, 9, none⟩ = some (.int .i64 a0_9) := (blk_cell BK101.out 9).trans rfl
               have hcz35_10 : wc.cell? ⟨gb101, 10, none⟩ = some (.int .i64 a0_10) := (blk_cell BK101.out 10).trans rfl
               have hcz35_11 : wc.cell? ⟨gb101, 11, none⟩ = some (.slice A0_11 l0_11.length c0_11) := (blk_cell BK101.out 11).trans rfl
               have hcz35_12 : wc.cell? ⟨gb101, 12, none⟩ = some (.int .i64 a0_12) := (blk_cell BK101.out 12).trans rfl
               have hcz35_13 : wc.cell? ⟨gb101, 13, none⟩ = some (.int .i64 a0_13) := (blk_cell BK101.out 13).trans rfl
               have hcz35_14 : wc.cell? ⟨gb101, 14, none⟩ = some (.int .i64 a0_14) := (blk_cell BK101.out 14).trans rfl
               have hcz35_15 : wc.cell? ⟨gb101, 15, none⟩ = some (.int .i64 a0_15) := (blk_cell BK101.out 15).trans rfl
               have hfz35_0 := blk_frozen BK101.out 0
               have hfz35_1 := blk_frozen BK101.out 1
               have hfz35_2 := blk_frozen BK101.out 2
               have hfz35_3 := blk_frozen BK101.out 3
               have hfz35_4 := blk_frozen BK101.out 4
               have hfz35_5 := blk_frozen BK101.out 5
               have hfz35_6 := blk_frozen BK101.out 6
               have hfz35_7 := blk_frozen BK101.out 7
               have hfz35_8 := blk_frozen BK101.out 8
               have hfz35_9 := blk_frozen BK101.out 9
               have hfz35_10 := blk_frozen BK101.out 10
               have hfz35_11 := blk_frozen BK101.out 11
               have hfz35_12 := blk_frozen BK101.out 12
               have hfz35_13 := blk_frozen BK101.out 13
               have hfz35_14 := blk_frozen BK101.out 14
               have hfz35_15 := blk_frozen BK101.out 15
               go_wp2
               go_ret
               exact ⟨by first | rfl | (simp [errW_none, errW_some] <;> rfl) | (simp [*, errW_none, errW_some] <;> rfl), by repeat (first | (with_reducible first | exact HB.out | apply below_alloc | apply pw_below_drewN | apply below_drew1 | refine below_set ?_ GE101.out) | exact HB.out)⟩
              ·replace c34 := Bool.eq_false_iff.mpr c34
               subst c34
               have H1 : ((donjonref6_Check.f a0_7 a0_8 a0_9 a0_10).bind fun t106 => (if t106 = 0 then (if (l0_11.length : Int) > 16 then (some 4) else (some 0)) else ((donjonref6_Check.f a0_7 a0_8 a0_9 a0_10).bind fun t107 => (some t107)))) = some r := by rw [if_neg (show ¬ (false = true) by decide)] at H; exact H
               clear H
               have H := H1
               clear H1
               replace H := Option.bind_eq_some_iff.mp H
               obtain ⟨t106, A360, H⟩ := H
               try dsimp only at H
               have A36 := Aside0.mk A360
               clear A360
               by_cases c37 : t106 = 0
               ·rw [if_pos c37] at H
                have c37b0 : (t106 == 0) = true := beq_iff_eq.mpr c37
                have c37b1 : (t106 != 0) = false := bne_eq_false_iff_eq.mpr c37
                clear c37
                by_cases c38 : (l0_11.length : Int) > 16
                ·rw [if_pos c38] at H
                 have c38b0 : decide (16 < (l0_11.length : Int)) = true := decide_eq_true c38
                 have c38b1 : decide (16 < l0_11.length) = true := decide_eq_true (by omega)
                 clear c38
                 obtain rfl := Option.some.inj H
                 have hcz39_0 : wc.cell? ⟨gb101, 0, none⟩ = some (.string a0_0) := (blk_cell BK101.out 0).trans rfl
                 have hcz39_1 : wc.cell? ⟨gb101, 1, none⟩ = some (.bool false) := (blk_cell BK101.out 1).trans rfl
                 have hcz39_2 : wc.cell? ⟨gb101, 2, none⟩ = some (.int .i64 a0_2) := (blk_cell BK101.out 2).trans rfl
                 have hcz39_3 : wc.cell? ⟨gb101, 3, none⟩ = some (.int .i64 a0_3) := (blk_cell BK101.out 3).trans rfl
                 have hcz39_4 : wc.cell? ⟨gb101, 4, none⟩ = some (.int .i64 a0_4) := (blk_cell BK101.out 4).trans rfl
                 have hcz39_5 : wc.cell? ⟨gb101, 5, none⟩ = some (.int .i64 a0_5) := (blk_cell BK101.out 5).trans rfl
                 have hcz39_6 : wc.cell? ⟨gb101, 6, none⟩ = some (.slice A0_6 l0_6.length c0_6) := (blk_cell BK101.out 6).trans rfl
                 have hcz39_7 : wc.cell? ⟨gb101, 7, none⟩ = some (.int .i64 a0_7) := (blk_cell BK101.out 7).trans rfl
                 have hcz39_8 : wc.cell? ⟨gb101, 8, none⟩ = some (.int .i64 a0_8) := (blk_cell BK101.out 8).trans rfl
                 have hcz39_9 : wc.cell? ⟨gb101, 9, none⟩ = some (.int .i64 a0_9) := (blk_cell BK101.out 9).trans rfl
                 have hcz39_10 : wc.cell? ⟨gb101, 10, none⟩ = some (.int .i64 a0_10) := (blk_cell BK101.out 10).trans rfl
                 have hcz39_11 : wc.cell? ⟨gb101, 11, none⟩ = some (.slice A0_11 l0_11.length c0_11) := (blk_cell BK101.out 11).trans rfl
                 have hcz39_12 : wc.cell? ⟨gb101, 12, none⟩ = some (.int .i64 a0_12) := (blk_cell BK101.out 12).trans rfl
                 have hcz39_13 : wc.cell? ⟨gb101, 13, none⟩ = some (.int .i64 a0_13) := (blk_cell BK101.out 13).trans rfl
                 have hcz39_14 : wc.cell? ⟨gb101, 14, none⟩ = some (.int .i64 a0_14) := (blk_cell BK101.out 14).trans rfl
                 have hcz39_15 : wc.cell? ⟨gb101, 15, none⟩ = some (.int .i64 a0_15) := (blk_cell BK101.out 15).trans rfl
                 have hfz39_0 := blk_frozen BK101.out 0
                 have hfz39_1 := blk_frozen BK101.out 1
                 have hfz39_2 := blk_frozen BK101.out 2
                 have hfz39_3 := blk_frozen BK101.out 3
                 have hfz39_4 := blk_frozen BK101.out 4
                 have hfz39_5 := blk_frozen BK101.out 5
                 have hfz39_6 := blk_frozen BK101.out 6
                 have hfz39_7 := blk_frozen BK101.out 7
                 have hfz39_8 := blk_frozen BK101.out 8
                 have hfz39_9 := blk_frozen BK101.out 9
                 have hfz39_10 := blk_frozen BK101.out 10
                 have hfz39_11 := blk_frozen BK101.out 11
                 have hfz39_12 := blk_frozen BK101.out 12
                 have hfz39_13 := blk_frozen BK101.out 13
                 have hfz39_14 := blk_frozen BK101.out 14
                 have hfz39_15 := blk_frozen BK101.out 15
                 go_wp2_with (first | ((with_reducible refine gate_callee (f := 20) rfl ?_); refine goesL_ (some 56) rfl rfl Tryd.func20 (by kernel_rfl) rfl #[.agg #[.int .i64 a0_7, .int .i64 a0_8, .int .i64 a0_9, .int .i64 a0_10]] rfl (by (try simp only [List.map_toArray, List.map_cons, List.map_nil]); first | done | rfl | (simp only [List.length_drop, List.length_take]; rfl)) ?_; (with_reducible refine (donjonref6_Check.calls a0_7 a0_8 a0_9 a0_10 t106 _ A36.out).mono ?_); rintro e w40 ⟨rfl, hb⟩; refine ⟨_, rfl, ?_⟩; have n0_ := bb_ BK101 hb; have n1_ := Aside0.mk (below_step (bl_ HB.out) hb); clear BK101 HB; have BK101 := n0_; have HB := n1_; clear n0_ n1_; (try clear hb); (try clear hb2); (try clear hk); (try clear hi); have hcz41_0 : w40.cell? ⟨gb101, 0, none⟩ = some (.string a0_0) := (blk_cell BK101.out 0).trans rfl; have hcz41_1 : w40.cell? ⟨gb101, 1, none⟩ = some (.bool false) := (blk_cell BK101.out 1).trans rfl; have hcz41_2 : w40.cell? ⟨gb101, 2, none⟩ = some (.int .i64 a0_2) := (blk_cell BK101.out 2).trans rfl; have hcz41_3 : w40.cell? ⟨gb101, 3, none⟩ = some (.int .i64 a0_3) := (blk_cell BK101.out 3).trans rfl; have hcz41_4 : w40.cell? ⟨gb101, 4, none⟩ = some (.int .i64 a0_4) := (blk_cell BK101.out 4).trans rfl; have hcz41_5 : w40.cell? ⟨gb101, 5, none⟩ = some (.int .i64 a0_5) := (blk_cell BK101.out 5).trans rfl; have hcz41_6 : w40.cell? ⟨gb101, 6, none⟩ = some (.slice A0_6 l0_6.length c0_6) := (blk_cell BK101.out 6).trans rfl; have hcz41_7 : w40.cell? ⟨gb101, 7, none⟩ = some (.int .i64 a0_7) := (blk_cell BK101.out 7).trans rfl; have hcz41_8 : w40.cell? ⟨gb101, 8, none⟩ = some (.int .i64 a0_8) := (blk_cell BK101.out 8).trans rfl; have hcz41_9 : w40.cell? ⟨gb101, 9, none⟩ = some (.int .i64 a0_9) := (blk_cell BK101.out 9).trans rfl; have hcz41_10 : w40.cell? ⟨gb101, 10, none⟩ = some (.int .i64 a0_10) := (blk_cell BK101.out 10).trans rfl; have hcz41_11 : w40.cell? ⟨gb101, 11, none⟩ = some (.slice A0_11 l0_11.length c0_11) := (blk_cell BK101.out 11).trans rfl; have hcz41_12 : w40.cell? ⟨gb101, 12, none⟩ = some (.int .i64 a0_12) := (blk_cell BK101.out 12).trans rfl; have hcz41_13 : w40.cell? ⟨gb101, 13, none⟩ = some (.int .i64 a0_13) := (blk_cell BK101.out 13).trans rfl; have hcz41_14 : w40.cell? ⟨gb101, 14, none⟩ = some (.int .i64 a0_14) := (blk_cell BK101.out 14).trans rfl; have hcz41_15 : w40.cell? ⟨gb101, 15, none⟩ = some (.int .i64 a0_15) := (blk_cell BK101.out 15).trans rfl; have hfz41_0 := blk_frozen BK101.out 0; have hfz41_1 := blk_frozen BK101.out 1; have hfz41_2 := blk_frozen BK101.out 2; have hfz41_3 := blk_frozen BK101.out 3; have hfz41_4 := blk_frozen BK101.out 4; have hfz41_5 := blk_frozen BK101.out 5; have hfz41_6 := blk_frozen BK101.out 6; have hfz41_7 := blk_frozen BK101.out 7; have hfz41_8 := blk_frozen BK101.out 8; have hfz41_9 := blk_frozen BK101.out 9; have hfz41_10 := blk_frozen BK101.out 10; have hfz41_11 := blk_frozen BK101.out 11; have hfz41_12 := blk_frozen BK101.out 12; have hfz41_13 := blk_frozen BK101.out 13; have hfz41_14 := blk_frozen BK101.out 14; have hfz41_15 := blk_frozen BK101.out 15))
                 go_ret
                 exact ⟨by first | rfl | (simp [errW_none, errW_some] <;> rfl) | (simp [*, errW_none, errW_some] <;> rfl), by repeat (first | (with_reducible first | exact HB.out | apply below_alloc | apply pw_below_drewN | apply below_drew1 | refine below_set ?_ GE101.out) | exact HB.out)⟩
                ·rw [if_neg c38] at H
                 have c38b0 : decide (16 < (l0_11.length : Int)) = false := decide_eq_false c38
                 have c38b1 : decide (16 < l0_11.length) = false := decide_eq_false (by omega)
                 clear c38
                 obtain rfl := Option.some.inj H
                 have hcz42_0 : wc.cell? ⟨gb101, 0, none⟩ = some (.string a0_0) := (blk_cell BK101.out 0).trans rfl
                 have hcz42_1 : wc.cell? ⟨gb101, 1, none⟩ = some (.bool false) := (blk_cell BK101.out 1).trans rfl
                 have hcz42_2 : wc.cell? ⟨gb101, 2, none⟩ = some (.int .i64 a0_2) := (blk_cell BK101.out 2).trans rfl
                 have hcz42_3 : wc.cell? ⟨gb101, 3, none⟩ = some (.int .i64 a0_3) := (blk_cell BK101.out 3).trans rfl
                 have hcz42_4 : wc.cell? ⟨gb101, 4, none⟩ = some (.int .i64 a0_4) := (blk_cell BK101.out 4).trans rfl
                 have hcz42_5 : wc.cell? ⟨gb101, 5, none⟩ = some (.int .i64 a0_5) := (blk_cell BK101.out 5).trans rfl
                 have hcz42_6 : wc.cell? ⟨gb101, 6, none⟩ = some (.slice A0_6 l0_6.length c0_6) := (blk_cell BK101.out 6).trans rfl
                 have hcz42_7 : wc.cell? ⟨gb101, 7, none⟩ = some (.int .i64 a0_7) := (blk_cell BK101.out 7).trans rfl
                 have hcz42_8 : wc.cell? ⟨gb101, 8, none⟩ = some (.int .i64 a0_8) := (blk_cell BK101.out 8).trans rfl
                 have hcz42_9 : wc.cell? ⟨gb101, 9, none⟩ = some (.int .i64 a0_9) := (blk_cell BK101.out 9).trans rfl
                 have hcz42_10 : wc.cell? ⟨gb101, 10, none⟩ = some (.int .i64 a0_10) := (blk_cell BK101.out 10).trans rfl
                 have hcz42_11 : wc.cell? ⟨gb101, 11, none⟩ = some (.slice A0_11 l0_11.length c0_11) := (blk_cell BK101.out 11).trans rfl
                 have hcz42_12 : wc.cell? ⟨gb101, 12, none⟩ = some (.int .i64 a0_12) := (blk_cell BK101.out 12).trans rfl
                 have hcz42_13 : wc.cell? ⟨gb101, 13, none⟩ = some (.int .i64 a0_13) := (blk_cell BK101.out 13).trans rfl
                 have hcz42_14 : wc.cell? ⟨gb101, 14, none⟩ = some (.int .i64 a0_14) := (blk_cell BK101.out 14).trans rfl
                 have hcz42_15 : wc.cell? ⟨gb101, 15, none⟩ = some (.int .i64 a0_15) := (blk_cell BK101.out 15).trans rfl
                 have hfz42_0 := blk_frozen BK101.out 0
                 have hfz42_1 := blk_frozen BK101.out 1
                 have hfz42_2 := blk_frozen BK101.out 2
                 have hfz42_3 := blk_frozen BK101.out 3
                 have hfz42_4 := blk_frozen BK101.out 4
                 have hfz42_5 := blk_frozen BK101.out 5
                 have hfz42_6 := blk_frozen BK101.out 6
                 have hfz42_7 := blk_frozen BK101.out 7
                 have hfz42_8 := blk_frozen BK101.out 8
                 have hfz42_9 := blk_frozen BK101.out 9
                 have hfz42_10 := blk_frozen BK101.out 10
                 have hfz42_11 := blk_frozen BK101.out 11
                 have hfz42_12 := blk_frozen BK101.out 12
                 have hfz42_13 := blk_frozen BK101.out 13
                 have hfz42_14 := blk_frozen BK101.out 14
                 have hfz42_15 := blk_frozen BK101.out 15
                 go_wp2_with (first | ((with_reducible refine gate_callee (f := 20) rfl ?_); refine goesL_ (some 56) rfl rfl Tryd.func20 (by kernel_rfl) rfl #[.agg #[.int .i64 a0_7, .int .i64 a0_8, .int .i64 a0_9, .int .i64 a0_10]] rfl (by (try simp only [List.map_toArray, List.map_cons, List.map_nil]); first | done | rfl | (simp only [List.length_drop, List.length_take]; rfl)) ?_; (with_reducible refine (donjonref6_Check.calls a0_7 a0_8 a0_9 a0_10 t106 _ A36.out).mono ?_); rintro e w43 ⟨rfl, hb⟩; refine ⟨_, rfl, ?_⟩; have n0_ := bb_ BK101 hb; have n1_ := Aside0.mk (below_step (bl_ HB.out) hb); clear BK101 HB; have BK101 := n0_; have HB := n1_; clear n0_ n1_; (try clear hb); (try clear hb2); (try clear hk); (try clear hi); have hcz44_0 : w43.cell? ⟨gb101, 0, none⟩ = some (.string a0_0) := (blk_cell BK101.out 0).trans rfl; have hcz44_1 : w43.cell? ⟨gb101, 1, none⟩ = some (.bool false) := (blk_cell BK101.out 1).trans rfl; have hcz44_2 : w43.cell? ⟨gb101, 2, none⟩ = some (.int .i64 a0_2) := (blk_cell BK101.out 2).trans rfl; have hcz44_3 : w43.cell? ⟨gb101, 3, none⟩ = some (.int .i64 a0_3) := (blk_cell BK101.out 3).trans rfl; have hcz44_4 : w43.cell? ⟨gb101, 4, none⟩ = some (.int .i64 a0_4) := (blk_cell BK101.out 4).trans rfl; have hcz44_5 : w43.cell? ⟨gb101, 5, none⟩ = some (.int .i64 a0_5) := (blk_cell BK101.out 5).trans rfl; have hcz44_6 : w43.cell? ⟨gb101, 6, none⟩ = some (.slice A0_6 l0_6.length c0_6) := (blk_cell BK101.out 6).trans rfl; have hcz44_7 : w43.cell? ⟨gb101, 7, none⟩ = some (.int .i64 a0_7) := (blk_cell BK101.out 7).trans rfl; have hcz44_8 : w43.cell? ⟨gb101, 8, none⟩ = some (.int .i64 a0_8) := (blk_cell BK101.out 8).trans rfl; have hcz44_9 : w43.cell? ⟨gb101, 9, none⟩ = some (.int .i64 a0_9) := (blk_cell BK101.out 9).trans rfl; have hcz44_10 : w43.cell? ⟨gb101, 10, none⟩ = some (.int .i64 a0_10) := (blk_cell BK101.out 10).trans rfl; have hcz44_11 : w43.cell? ⟨gb101, 11, none⟩ = some (.slice A0_11 l0_11.length c0_11) := (blk_cell BK101.out 11).trans rfl; have hcz44_12 : w43.cell? ⟨gb101, 12, none⟩ = some (.int .i64 a0_12) := (blk_cell BK101.out 12).trans rfl; have hcz44_13 : w43.cell? ⟨gb101, 13, none⟩ = some (.int .i64 a0_13) := (blk_cell BK101.out 13).trans rfl; have hcz44_14 : w43.cell? ⟨gb101, 14, none⟩ = some (.int .i64 a0_14) := (blk_cell BK101.out 14).trans rfl; have hcz44_15 : w43.cell? ⟨gb101, 15, none⟩ = some (.int .i64 a0_15) := (blk_cell BK101.out 15).trans rfl; have hfz44_0 := blk_frozen BK101.out 0; have hfz44_1 := blk_frozen BK101.out 1; have hfz44_2 := blk_frozen BK101.out 2; have hfz44_3 := blk_frozen BK101.out 3; have hfz44_4 := blk_frozen BK101.out 4; have hfz44_5 := blk_frozen BK101.out 5; have hfz44_6 := blk_frozen BK101.out 6; have hfz44_7 := blk_frozen BK101.out 7; have hfz44_8 := blk_frozen BK101.out 8; have hfz44_9 := blk_frozen BK101.out 9; have hfz44_10 := blk_frozen BK101.out 10; have hfz44_11 := blk_frozen BK101.out 11; have hfz44_12 := blk_frozen BK101.out 12; have hfz44_13 := blk_frozen BK101.out 13; have hfz44_14 := blk_frozen BK101.out 14; have hfz44_15 := blk_frozen BK101.out 15))
                 go_ret
                 exact ⟨by first | rfl | (simp [errW_none, errW_some] <;> rfl) | (simp [*, errW_none, errW_some] <;> rfl), by repeat (first | (with_reducible first | exact HB.out | apply below_alloc | apply pw_below_drewN | apply below_drew1 | refine below_set ?_ GE101.out) | exact HB.out)⟩
               ·rw [if_neg c37] at H
                have c37b0 : (t106 == 0) = false := beq_eq_false_iff_ne.mpr c37
                have c37b1 : (t106 != 0) = true := bne_iff_ne.mpr c37
                replace H := Option.bind_eq_some_iff.mp H
                obtain ⟨t107, A450, H⟩ := H
                try dsimp only at H
                have A45 := Aside0.mk A450
                clear A450
                obtain rfl := Option.some.inj H
                have hcz46_0 : wc.cell? ⟨gb101, 0, none⟩ = some (.string a0_0) := (blk_cell BK101.out 0).trans rfl
                have hcz46_1 : wc.cell? ⟨gb101, 1, none⟩ = some (.bool false) := (blk_cell BK101.out 1).trans rfl
                have hcz46_2 : wc.cell? ⟨gb101, 2, none⟩ = some (.int .i64 a0_2) := (blk_cell BK101.out 2).trans rfl
                have hcz46_3 : wc.cell? ⟨gb101, 3, none⟩ = some (.int .i64 a0_3) := (blk_cell BK101.out 3).trans rfl
                have hcz46_4 : wc.cell? ⟨gb101, 4, none⟩ = some (.int .i64 a0_4) := (blk_cell BK101.out 4).trans rfl
                have hcz46_5 : wc.cell? ⟨gb101, 5, none⟩ = some (.int .i64 a0_5) := (blk_cell BK101.out 5).trans rfl
                have hcz46_6 : wc.cell? ⟨gb101, 6, none⟩ = some (.slice A0_6 l0_6.length c0_6) := (blk_cell BK101.out 6).trans rfl
                have hcz46_7 : wc.cell? ⟨gb101, 7, none⟩ = some (.int .i64 a0_7) := (blk_cell BK101.out 7).trans rfl
                have hcz46_8 : wc.cell? ⟨gb101, 8, none⟩ = some (.int .i64 a0_8) := (blk_cell BK101.out 8).trans rfl
                have hcz46_9 : wc.cell? ⟨gb101, 9, none⟩ = some (.int .i64 a0_9) := (blk_cell BK101.out 9).trans rfl
                have hcz46_10 : wc.cell? ⟨gb101, 10, none⟩ = some (.int .i64 a0_10) := (blk_cell BK101.out 10).trans rfl
                have hcz46_11 : wc.cell? ⟨gb101, 11, none⟩ = some (.slice A0_11 l0_11.length c0_11) := (blk_cell BK101.out 11).trans rfl
                have hcz46_12 : wc.cell? ⟨gb101, 12, none⟩ = some (.int .i64 a0_12) := (blk_cell BK101.out 12).trans rfl
                have hcz46_13 : wc.cell? ⟨gb101, 13, none⟩ = some (.int .i64 a0_13) := (blk_cell BK101.out 13).trans rfl
                have hcz46_14 : wc.cell? ⟨gb101, 14, none⟩ = some (.int .i64 a0_14) := (blk_cell BK101.out 14).trans rfl
                have hcz46_15 : wc.cell? ⟨gb101, 15, none⟩ = some (.int .i64 a0_15) := (blk_cell BK101.out 15).trans rfl
                have hfz46_0 := blk_frozen BK101.out 0
                have hfz46_1 := blk_frozen BK101.out 1
                have hfz46_2 := blk_frozen BK101.out 2
                have hfz46_3 := blk_frozen BK101.out 3
                have hfz46_4 := blk_frozen BK101.out 4
                have hfz46_5 := blk_frozen BK101.out 5
                have hfz46_6 := blk_frozen BK101.out 6
                have hfz46_7 := blk_frozen BK101.out 7
                have hfz46_8 := blk_frozen BK101.out 8
                have hfz46_9 := blk_frozen BK101.out 9
                have hfz46_10 := blk_frozen BK101.out 10
                have hfz46_11 := blk_frozen BK101.out 11
                have hfz46_12 := blk_frozen BK101.out 12
                have hfz46_13 := blk_frozen BK101.out 13
                have hfz46_14 := blk_frozen BK101.out 14
                have hfz46_15 := blk_frozen BK101.out 15
                go_wp2_with (first | ((with_reducible refine gate_callee (f := 20) rfl ?_); refine goesL_ (some 56) rfl rfl Tryd.func20 (by kernel_rfl) rfl #[.agg #[.int .i64 a0_7, .int .i64 a0_8, .int .i64 a0_9, .int .i64 a0_10]] rfl (by (try simp only [List.map_toArray, List.map_cons, List.map_nil]); first | done | rfl | (simp only [List.length_drop, List.length_take]; rfl)) ?_; (with_reducible refine (donjonref6_Check.calls a0_7 a0_8 a0_9 a0_10 t106 _ A36.out).mono ?_); rintro e w47 ⟨rfl, hb⟩; refine ⟨_, rfl, ?_⟩; have n0_ := bb_ BK101 hb; have n1_ := Aside0.mk (below_step (bl_ HB.out) hb); clear BK101 HB; have BK101 := n0_; have HB := n1_; clear n0_ n1_; (try clear hb); (try clear hb2); (try clear hk); (try clear hi); have hcz48_0 : w47.cell? ⟨gb101, 0, none⟩ = some (.string a0_0) := (blk_cell BK101.out 0).trans rfl; have hcz48_1 : w47.cell? ⟨gb101, 1, none⟩ = some (.bool false) := (blk_cell BK101.out 1).trans rfl; have hcz48_2 : w47.cell? ⟨gb101, 2, none⟩ = some (.int .i64 a0_2) := (blk_cell BK101.out 2).trans rfl; have hcz48_3 : w47.cell? ⟨gb101, 3, none⟩ = some (.int .i64 a0_3) := (blk_cell BK101.out 3).trans rfl; have hcz48_4 : w47.cell? ⟨gb101, 4, none⟩ = some (.int .i64 a0_4) := (blk_cell BK101.out 4).trans rfl; have hcz48_5 : w47.cell? ⟨gb101, 5, none⟩ = some (.int .i64 a0_5) := (blk_cell BK101.out 5).trans rfl; have hcz48_6 : w47.cell? ⟨gb101, 6, none⟩ = some (.slice A0_6 l0_6.length c0_6) := (blk_cell BK101.out 6).trans rfl; have hcz48_7 : w47.cell? ⟨gb101, 7, none⟩ = some (.int .i64 a0_7) := (blk_cell BK101.out 7).trans rfl; have hcz48_8 : w47.cell? ⟨gb101, 8, none⟩ = some (.int .i64 a0_8) := (blk_cell BK101.out 8).trans rfl; have hcz48_9 : w47.cell? ⟨gb101, 9, none⟩ = some (.int .i64 a0_9) := (blk_cell BK101.out 9).trans rfl; have hcz48_10 : w47.cell? ⟨gb101, 10, none⟩ = some (.int .i64 a0_10) := (blk_cell BK101.out 10).trans rfl; have hcz48_11 : w47.cell? ⟨gb101, 11, none⟩ = some (.slice A0_11 l0_11.length c0_11) := (blk_cell BK101.out 11).trans rfl; have hcz48_12 : w47.cell? ⟨gb101, 12, none⟩ = some (.int .i64 a0_12) := (blk_cell BK101.out 12).trans rfl; have hcz48_13 : w47.cell? ⟨gb101, 13, none⟩ = some (.int .i64 a0_13) := (blk_cell BK101.out 13).trans rfl; have hcz48_14 : w47.cell? ⟨gb101, 14, none⟩ = some (.int .i64 a0_14) := (blk_cell BK101.out 14).trans rfl; have hcz48_15 : w47.cell? ⟨gb101, 15, none⟩ = some (.int .i64 a0_15) := (blk_cell BK101.out 15).trans rfl; have hfz48_0 := blk_frozen BK101.out 0; have hfz48_1 := blk_frozen BK101.out 1; have hfz48_2 := blk_frozen BK101.out 2; have hfz48_3 := blk_frozen BK101.out 3; have hfz48_4 := blk_frozen BK101.out 4; have hfz48_5 := blk_frozen BK101.out 5; have hfz48_6 := blk_frozen BK101.out 6; have hfz48_7 := blk_frozen BK101.out 7; have hfz48_8 := blk_frozen BK101.out 8; have hfz48_9 := blk_frozen BK101.out 9; have hfz48_10 := blk_frozen BK101.out 10; have hfz48_11 := blk_frozen BK101.out 11; have hfz48_12 := blk_frozen BK101.out 12; have hfz48_13 := blk_frozen BK101.out 13; have hfz48_14 := blk_frozen BK101.out 14; have hfz48_15 := blk_frozen BK101.out 15) | ((with_reducible refine gate_callee (f := 20) rfl ?_); refine goesL_ (some 60) rfl rfl Tryd.func20 (by kernel_rfl) rfl #[.agg #[.int .i64 a0_7, .int .i64 a0_8, .int .i64 a0_9, .int .i64 a0_10]] rfl (by (try simp only [List.map_toArray, List.map_cons, List.map_nil]); first | done | rfl | (simp only [List.length_drop, List.length_take]; rfl)) ?_; (with_reducible refine (donjonref6_Check.calls a0_7 a0_8 a0_9 a0_10 t107 _ A45.out).mono ?_); rintro e w49 ⟨rfl, hb⟩; refine ⟨_, rfl, ?_⟩; have n0_ := bb_ BK101 hb; have n1_ := Aside0.mk (below_step (bl_ HB.out) hb); clear BK101 HB; have BK101 := n0_; have HB := n1_; clear n0_ n1_; (try clear hb); (try clear hb2); (try clear hk); (try clear hi)))
                go_ret
                exact ⟨by first | rfl | (simp [errW_none, errW_some] <;> rfl) | (simp [*, errW_none, errW_some] <;> rfl), by repeat (first | (with_reducible first | exact HB.out | apply below_alloc | apply pw_below_drewN | apply below_drew1 | refine below_set ?_ GE101.out) | exact HB.out)⟩
       ·rw [if_neg c21] at H
        have c21b0 : (x3_15 == 0) = false := beq_eq_false_iff_ne.mpr c21
        have c21b1 : (x3_15 != 0) = true := bne_iff_ne.mpr c21
        obtain rfl := Option.some.inj H
        go_wp2
        go_ret
        exact ⟨by first | rfl | (simp [errW_none, errW_some] <;> rfl) | (simp [*, errW_none, errW_some] <;> rfl), by repeat (first | (with_reducible first | exact HB.out | apply below_alloc | apply pw_below_drewN | apply below_drew1 | refine below_set ?_ GE101.out) | exact HB.out)⟩

end Go.Proofs.YtophnhmlknbmeaaDoor.X
