/- Written by a program of this session over the kit's print: YtdbnjjkapelekaaF5. -/
import Derived.Test.YtdbnjjkapelekaaH
import Derived.Test.YtdbnjjkapelekaaE44
import Derived.Test.YtdbnjjkapelekaaF9
import Derived.Test.YtdbnjjkapelekaaF10
import Derived.Test.YtdbnjjkapelekaaF11
import Derived.Test.YtdbnjjkapelekaaF12
import Derived.Test.YtdbnjjkapelekaaF17
import Derived.Test.YtdbnjjkapelekaaF18
import Derived.Test.YtdbnjjkapelekaaF19
import Derived.Test.YtdbnjjkapelekaaF20
import Derived.Test.YtdbnjjkapelekaaF21
import Derived.Test.YtdbnjjkapelekaaF22
import Derived.Test.YtdbnjjkapelekaaMaxAt
namespace Go.Proofs.Ytdbnjjkapelekaa.X
open Go.RowKit Go.Proofs.YtdbnjjkapelekaaW.PrintWords Go.Proofs.YtdbnjjkapelekaaW.PrintLast Go.Proofs.YtdbnjjkapelekaaW.PrintMore Go.Proofs.Ytdbnjjkapelekaa.More
attribute [local go_sem] max2_int min2_int max_two min_two max_three min_three max_four min_four binOp_string_leq binOp_string_gtr   -- for this text's walks alone
set_option linter.unusedVariables false
set_option linter.unusedSimpArgs false

attribute [local go_sem high] eqA44
/-! ### donjonlaw18_MailSends: function 5 -/
mutual
def donjonlaw18_MailSends.j0 : Nat → List (S44) → Int → Bool → ByteArray → Int → Int → Int → Int → ByteArray → Int → Int → Int → Int → ByteArray → Option (Bool)
 | 0, _, _, _, _, _, _, _, _, _, _, _, _, _, _ => none
 | k + 1, x0, x2, x36, x102000, x102001, x102002, x102003, x102004, x102005, x102006, x102007, x102008, x102009, x102010 => if x36 = true then (some true) else (donjonlaw18_MailSends.l0 k x0 x2 0 x102000 x102001 x102002 x102003 x102004 x102005 x102006 x102007 x102008 x102009 x102010)
def donjonlaw18_MailSends.l0 : Nat → List (S44) → Int → Int → ByteArray → Int → Int → Int → Int → ByteArray → Int → Int → Int → Int → ByteArray → Option (Bool)
 | 0, _, _, _, _, _, _, _, _, _, _, _, _, _, _ => none
 | k + 1, x0, x2, x7, x102000, x102001, x102002, x102003, x102004, x102005, x102006, x102007, x102008, x102009, x102010 => if x7 < (x0.length : Int) then (if 0 ≤ x7 then (if (((rd_T44 x0 x7).f2).size : Int) > 100 then (some true) else (donjonlaw18_MailSends.l0 k x0 x2 (wrap64 (x7 + 1)) x102000 x102001 x102002 x102003 x102004 x102005 x102006 x102007 x102008 x102009 x102010)) else (none)) else (donjonlaw18_MailSends.l1 k x0 x2 0 x102000 x102001 x102002 x102003 x102004 x102005 x102006 x102007 x102008 x102009 x102010)
def donjonlaw18_MailSends.l1 : Nat → List (S44) → Int → Int → ByteArray → Int → Int → Int → Int → ByteArray → Int → Int → Int → Int → ByteArray → Option (Bool)
 | 0, _, _, _, _, _, _, _, _, _, _, _, _, _, _ => none
 | k + 1, x0, x2, x8, x102000, x102001, x102002, x102003, x102004, x102005, x102006, x102007, x102008, x102009, x102010 => if x8 < 2 then ((donjonlaw18_within.f x2 9).bind fun t104 => ((donjonlaw18_rules.f k x0 x102000 x102001 x102002 x102003 x102004 x102005 x102006 x102007 x102008 x102009 x102010 t104).bind fun t105 => ((mail_Send.f k t105 x102000 x102001 x102002 x102003 x102004 x102005 x102006 x102007 x102008 x102009 x102010).bind fun bt108 => ((donjonref18_Send.f k t105 x102000 x102001 x102002 x102003 x102004 x102005 x102006 x102007 x102008 x102009 x102010).bind fun bt110 => ((mail_Rule.f k t105 x102000 x102001 x102002 x102003 x102004 x102005 x102006 x102007 x102008 x102009 x102010).bind fun bt112 => ((donjonref18_Rule.f k t105 x102000 x102001 x102002 x102003 x102004 x102005 x102006 x102007 x102008 x102009 x102010).bind fun bt123 => (if bt108.1 = bt110.1 then (if bt108.2 = bt110.2 then (if ((!(bt112.1 == bt123.1) || (!(bt112.2.1 == bt123.2.1) || (!(bt112.2.2.1 == bt123.2.2.1) || (!(bt112.2.2.2.1 == bt123.2.2.2.1))))) || ((!(bt112.2.2.2.2.1 == bt123.2.2.2.2.1) || (!(bt112.2.2.2.2.2.1 == bt123.2.2.2.2.2.1) || (!(bt112.2.2.2.2.2.2.1 == bt123.2.2.2.2.2.2.1) || (!(bt112.2.2.2.2.2.2.2.1 == bt123.2.2.2.2.2.2.2.1))))) || (!(bt112.2.2.2.2.2.2.2.2.1.toList == bt123.2.2.2.2.2.2.2.2.1.toList)))) = true then (some false) else (if (bt112.2.2.2.2.2.2.2.2.2 != bt123.2.2.2.2.2.2.2.2.2) = true then (some false) else ((mail_Release.f k t105 x102000 x102001 x102002 x102003 x102004 x102005 x102006 x102007 x102008 x102009 x102010).bind fun t134 => ((donjonref18_Release.f k t105 x102000 x102001 x102002 x102003 x102004 x102005 x102006 x102007 x102008 x102009 x102010).bind fun t135 => (if t134 = t135 then ((donjonlaw18_good.f x102000 x102001 x102002 x102003 x102004 x102005 x102006 x102007 x102008 x102009 x102010 x2).bind fun bt136 => (donjonlaw18_MailSends.l1 k x0 x2 (wrap64 (x8 + 1)) bt136.1 bt136.2.1 bt136.2.2.1 bt136.2.2.2.1 bt136.2.2.2.2.1 bt136.2.2.2.2.2.1 bt136.2.2.2.2.2.2.1 bt136.2.2.2.2.2.2.2.1 bt136.2.2.2.2.2.2.2.2.1 bt136.2.2.2.2.2.2.2.2.2.1 bt136.2.2.2.2.2.2.2.2.2.2)) else (some false)))))) else (some false)) else (some false)))))))) else (some true)
end
def donjonlaw18_MailSends.f (k : Nat) (l0 : List (S44)) (a1_0 : ByteArray) (a1_1 : Int) (a1_2 : Int) (a1_3 : Int) (a1_4 : Int) (a1_5 : ByteArray) (a1_6 : Int) (a1_7 : Int) (a1_8 : Int) (a1_9 : Int) (a1_10 : ByteArray) (a2 : Int) : Option (Bool) := (donjonlaw18_known.f k).bind fun t102 => (if t102 = true then (if (wrap64 ((wrap64 ((a1_0.size : Int) + (a1_5.size : Int))) + (a1_10.size : Int))) > 500 then (donjonlaw18_MailSends.j0 k l0 a2 true a1_0 a1_1 a1_2 a1_3 a1_4 a1_5 a1_6 a1_7 a1_8 a1_9 a1_10) else (donjonlaw18_MailSends.j0 k l0 a2 (decide ((l0.length : Int) > 20)) a1_0 a1_1 a1_2 a1_3 a1_4 a1_5 a1_6 a1_7 a1_8 a1_9 a1_10)) else (some false))
theorem donjonlaw18_MailSends.mono_l : ∀ k, (∀ y0 y1 y2 y3 y4 y5 y6 y7 y8 y9 y10 y11 y12 y13, LeO (donjonlaw18_MailSends.j0 k y0 y1 y2 y3 y4 y5 y6 y7 y8 y9 y10 y11 y12 y13) (donjonlaw18_MailSends.j0 (k + 1) y0 y1 y2 y3 y4 y5 y6 y7 y8 y9 y10 y11 y12 y13)) ∧ (∀ y0 y1 y2 y3 y4 y5 y6 y7 y8 y9 y10 y11 y12 y13, LeO (donjonlaw18_MailSends.l0 k y0 y1 y2 y3 y4 y5 y6 y7 y8 y9 y10 y11 y12 y13) (donjonlaw18_MailSends.l0 (k + 1) y0 y1 y2 y3 y4 y5 y6 y7 y8 y9 y10 y11 y12 y13)) ∧ (∀ y0 y1 y2 y3 y4 y5 y6 y7 y8 y9 y10 y11 y12 y13, LeO (donjonlaw18_MailSends.l1 k y0 y1 y2 y3 y4 y5 y6 y7 y8 y9 y10 y11 y12 y13) (donjonlaw18_MailSends.l1 (k + 1) y0 y1 y2 y3 y4 y5 y6 y7 y8 y9 y10 y11 y12 y13))
 | 0 => ⟨fun _ _ _ _ _ _ _ _ _ _ _ _ _ _ r h => by simp [donjonlaw18_MailSends.j0] at h, fun _ _ _ _ _ _ _ _ _ _ _ _ _ _ r h => by simp [donjonlaw18_MailSends.l0] at h, fun _ _ _ _ _ _ _ _ _ _ _ _ _ _ r h => by simp [donjonlaw18_MailSends.l1] at h⟩
 | k + 1 => by
  obtain ⟨ih0, ih1, ih2⟩ := donjonlaw18_MailSends.mono_l k
  refine ⟨?_, ?_, ?_⟩
  ·intro y0 y1 y2 y3 y4 y5 y6 y7 y8 y9 y10 y11 y12 y13
   unfold donjonlaw18_MailSends.j0
   repeat' first
   | (with_reducible exact ih0 _ _ _ _ _ _ _ _ _ _ _ _ _ _)
   | (with_reducible exact ih1 _ _ _ _ _ _ _ _ _ _ _ _ _ _)
   | (with_reducible exact ih2 _ _ _ _ _ _ _ _ _ _ _ _ _ _)
   | (with_reducible exact donjonlaw18_known.mono _)
   | (with_reducible exact donjonlaw18_rules.mono _ _ _ _ _ _ _ _ _ _ _ _ _ _)
   | (with_reducible exact donjonref18_Release.mono _ _ _ _ _ _ _ _ _ _ _ _ _)
   | (with_reducible exact donjonref18_Rule.mono _ _ _ _ _ _ _ _ _ _ _ _ _)
   | (with_reducible exact donjonref18_Send.mono _ _ _ _ _ _ _ _ _ _ _ _ _)
   | (with_reducible exact mail_Release.mono _ _ _ _ _ _ _ _ _ _ _ _ _)
   | (with_reducible exact mail_Rule.mono _ _ _ _ _ _ _ _ _ _ _ _ _)
   | (with_reducible exact mail_Send.mono _ _ _ _ _ _ _ _ _ _ _ _ _)
   | (with_reducible exact LeO.refl _)
   | (with_reducible exact LeO.none _)
   | (with_reducible refine LeO.ite ?_ ?_)
   | (with_reducible refine LeO.bind ?_ (fun _ => ?_))
   | exact ih0 _ _ _ _ _ _ _ _ _ _ _ _ _ _
   | exact ih1 _ _ _ _ _ _ _ _ _ _ _ _ _ _
   | exact ih2 _ _ _ _ _ _ _ _ _ _ _ _ _ _
   | exact donjonlaw18_known.mono _
   | exact donjonlaw18_rules.mono _ _ _ _ _ _ _ _ _ _ _ _ _ _
   | exact donjonref18_Release.mono _ _ _ _ _ _ _ _ _ _ _ _ _
   | exact donjonref18_Rule.mono _ _ _ _ _ _ _ _ _ _ _ _ _
   | exact donjonref18_Send.mono _ _ _ _ _ _ _ _ _ _ _ _ _
   | exact mail_Release.mono _ _ _ _ _ _ _ _ _ _ _ _ _
   | exact mail_Rule.mono _ _ _ _ _ _ _ _ _ _ _ _ _
   | exact mail_Send.mono _ _ _ _ _ _ _ _ _ _ _ _ _
   | exact LeO.none _
   | refine LeO.ite ?_ ?_
   | refine LeO.bind ?_ (fun _ => ?_)
  ·intro y0 y1 y2 y3 y4 y5 y6 y7 y8 y9 y10 y11 y12 y13
   unfold donjonlaw18_MailSends.l0
   repeat' first
   | (with_reducible exact ih0 _ _ _ _ _ _ _ _ _ _ _ _ _ _)
   | (with_reducible exact ih1 _ _ _ _ _ _ _ _ _ _ _ _ _ _)
   | (with_reducible exact ih2 _ _ _ _ _ _ _ _ _ _ _ _ _ _)
   | (with_reducible exact donjonlaw18_known.mono _)
   | (with_reducible exact donjonlaw18_rules.mono _ _ _ _ _ _ _ _ _ _ _ _ _ _)
   | (with_reducible exact donjonref18_Release.mono _ _ _ _ _ _ _ _ _ _ _ _ _)
   | (with_reducible exact donjonref18_Rule.mono _ _ _ _ _ _ _ _ _ _ _ _ _)
   | (with_reducible exact donjonref18_Send.mono _ _ _ _ _ _ _ _ _ _ _ _ _)
   | (with_reducible exact mail_Release.mono _ _ _ _ _ _ _ _ _ _ _ _ _)
   | (with_reducible exact mail_Rule.mono _ _ _ _ _ _ _ _ _ _ _ _ _)
   | (with_reducible exact mail_Send.mono _ _ _ _ _ _ _ _ _ _ _ _ _)
   | (with_reducible exact LeO.refl _)
   | (with_reducible exact LeO.none _)
   | (with_reducible refine LeO.ite ?_ ?_)
   | (with_reducible refine LeO.bind ?_ (fun _ => ?_))
   | exact ih0 _ _ _ _ _ _ _ _ _ _ _ _ _ _
   | exact ih1 _ _ _ _ _ _ _ _ _ _ _ _ _ _
   | exact ih2 _ _ _ _ _ _ _ _ _ _ _ _ _ _
   | exact donjonlaw18_known.mono _
   | exact donjonlaw18_rules.mono _ _ _ _ _ _ _ _ _ _ _ _ _ _
   | exact donjonref18_Release.mono _ _ _ _ _ _ _ _ _ _ _ _ _
   | exact donjonref18_Rule.mono _ _ _ _ _ _ _ _ _ _ _ _ _
   | exact donjonref18_Send.mono _ _ _ _ _ _ _ _ _ _ _ _ _
   | exact mail_Release.mono _ _ _ _ _ _ _ _ _ _ _ _ _
   | exact mail_Rule.mono _ _ _ _ _ _ _ _ _ _ _ _ _
   | exact mail_Send.mono _ _ _ _ _ _ _ _ _ _ _ _ _
   | exact LeO.none _
   | refine LeO.ite ?_ ?_
   | refine LeO.bind ?_ (fun _ => ?_)
  ·intro y0 y1 y2 y3 y4 y5 y6 y7 y8 y9 y10 y11 y12 y13
   unfold donjonlaw18_MailSends.l1
   repeat' first
   | (with_reducible exact ih0 _ _ _ _ _ _ _ _ _ _ _ _ _ _)
   | (with_reducible exact ih1 _ _ _ _ _ _ _ _ _ _ _ _ _ _)
   | (with_reducible exact ih2 _ _ _ _ _ _ _ _ _ _ _ _ _ _)
   | (with_reducible exact donjonlaw18_known.mono _)
   | (with_reducible exact donjonlaw18_rules.mono _ _ _ _ _ _ _ _ _ _ _ _ _ _)
   | (with_reducible exact donjonref18_Release.mono _ _ _ _ _ _ _ _ _ _ _ _ _)
   | (with_reducible exact donjonref18_Rule.mono _ _ _ _ _ _ _ _ _ _ _ _ _)
   | (with_reducible exact donjonref18_Send.mono _ _ _ _ _ _ _ _ _ _ _ _ _)
   | (with_reducible exact mail_Release.mono _ _ _ _ _ _ _ _ _ _ _ _ _)
   | (with_reducible exact mail_Rule.mono _ _ _ _ _ _ _ _ _ _ _ _ _)
   | (with_reducible exact mail_Send.mono _ _ _ _ _ _ _ _ _ _ _ _ _)
   | (with_reducible exact LeO.refl _)
   | (with_reducible exact LeO.none _)
   | (with_reducible refine LeO.ite ?_ ?_)
   | (with_reducible refine LeO.bind ?_ (fun _ => ?_))
   | exact ih0 _ _ _ _ _ _ _ _ _ _ _ _ _ _
   | exact ih1 _ _ _ _ _ _ _ _ _ _ _ _ _ _
   | exact ih2 _ _ _ _ _ _ _ _ _ _ _ _ _ _
   | exact donjonlaw18_known.mono _
   | exact donjonlaw18_rules.mono _ _ _ _ _ _ _ _ _ _ _ _ _ _
   | exact donjonref18_Release.mono _ _ _ _ _ _ _ _ _ _ _ _ _
   | exact donjonref18_Rule.mono _ _ _ _ _ _ _ _ _ _ _ _ _
   | exact donjonref18_Send.mono _ _ _ _ _ _ _ _ _ _ _ _ _
   | exact mail_Release.mono _ _ _ _ _ _ _ _ _ _ _ _ _
   | exact mail_Rule.mono _ _ _ _ _ _ _ _ _ _ _ _ _
   | exact mail_Send.mono _ _ _ _ _ _ _ _ _ _ _ _ _
   | exact LeO.none _
   | refine LeO.ite ?_ ?_
   | refine LeO.bind ?_ (fun _ => ?_)
theorem donjonlaw18_MailSends.mono : ∀ a0 a1 a2 a3 a4 a5 a6 a7 a8 a9 a10 a11 a12 k, LeO (donjonlaw18_MailSends.f k a0 a1 a2 a3 a4 a5 a6 a7 a8 a9 a10 a11 a12) (donjonlaw18_MailSends.f (k + 1) a0 a1 a2 a3 a4 a5 a6 a7 a8 a9 a10 a11 a12) := by
 intro a0 a1 a2 a3 a4 a5 a6 a7 a8 a9 a10 a11 a12 k
 obtain ⟨ih0, ih1, ih2⟩ := donjonlaw18_MailSends.mono_l k
 unfold donjonlaw18_MailSends.f
 repeat' first
   | (with_reducible exact ih0 _ _ _ _ _ _ _ _ _ _ _ _ _ _)
   | (with_reducible exact ih1 _ _ _ _ _ _ _ _ _ _ _ _ _ _)
   | (with_reducible exact ih2 _ _ _ _ _ _ _ _ _ _ _ _ _ _)
   | (with_reducible exact donjonlaw18_known.mono _)
   | (with_reducible exact donjonlaw18_rules.mono _ _ _ _ _ _ _ _ _ _ _ _ _ _)
   | (with_reducible exact donjonref18_Release.mono _ _ _ _ _ _ _ _ _ _ _ _ _)
   | (with_reducible exact donjonref18_Rule.mono _ _ _ _ _ _ _ _ _ _ _ _ _)
   | (with_reducible exact donjonref18_Send.mono _ _ _ _ _ _ _ _ _ _ _ _ _)
   | (with_reducible exact mail_Release.mono _ _ _ _ _ _ _ _ _ _ _ _ _)
   | (with_reducible exact mail_Rule.mono _ _ _ _ _ _ _ _ _ _ _ _ _)
   | (with_reducible exact mail_Send.mono _ _ _ _ _ _ _ _ _ _ _ _ _)
   | (with_reducible exact LeO.refl _)
   | (with_reducible exact LeO.none _)
   | (with_reducible refine LeO.ite ?_ ?_)
   | (with_reducible refine LeO.bind ?_ (fun _ => ?_))
   | exact ih0 _ _ _ _ _ _ _ _ _ _ _ _ _ _
   | exact ih1 _ _ _ _ _ _ _ _ _ _ _ _ _ _
   | exact ih2 _ _ _ _ _ _ _ _ _ _ _ _ _ _
   | exact donjonlaw18_known.mono _
   | exact donjonlaw18_rules.mono _ _ _ _ _ _ _ _ _ _ _ _ _ _
   | exact donjonref18_Release.mono _ _ _ _ _ _ _ _ _ _ _ _ _
   | exact donjonref18_Rule.mono _ _ _ _ _ _ _ _ _ _ _ _ _
   | exact donjonref18_Send.mono _ _ _ _ _ _ _ _ _ _ _ _ _
   | exact mail_Release.mono _ _ _ _ _ _ _ _ _ _ _ _ _
   | exact mail_Rule.mono _ _ _ _ _ _ _ _ _ _ _ _ _
   | exact mail_Send.mono _ _ _ _ _ _ _ _ _ _ _ _ _
   | exact LeO.none _
   | refine LeO.ite ?_ ?_
   | refine LeO.bind ?_ (fun _ => ?_)
def donjonlaw18_MailSends.T18 : Bool × List (List Nat × List Nat) := (true, [([], []), ([], []), ([0, 1], [0, 1]), ([2], [2]), ([3], [3]), ([3], [3]), ([4, 5, 3], [3, 4, 5]), ([3, 6], [3, 6]), ([7, 3], [7]), ([8], [8]), ([8], [8]), ([9, 10, 8], [8, 9, 10]), ([8, 11], [8, 11]), ([12, 8], [12]), ([13], [13]), ([13], [13]), ([14, 15, 13], [13, 14, 15]), ([13, 16], [13, 16]), ([17, 13], [17]), ([18], [18]), ([18], [18]), ([19, 20, 18, 18], [18, 19, 20]), ([18], [18]), ([18], [18]), ([22, 23, 21, 18], [18, 22, 23]), ([21, 24, 18], [18, 21, 24]), ([18, 25], [18, 25])])
def donjonlaw18_MailSends.B18 : List Nat := [0, 0, 3, 7, 15, 15, 63, 127, 255, 511, 511, 2047, 4095, 8191, 16383, 16383, 65535, 131071, 262143, 524287, 524287, 2097151, 524287, 524287, 16777215, 33554431, 67108863]
theorem donjonlaw18_MailSends.tab18 : rtab .any (opsOf Try.f5 18) = donjonlaw18_MailSends.T18 := by kernel_rfl
theorem donjonlaw18_MailSends.bits18 : waitsOk donjonlaw18_MailSends.T18.2 donjonlaw18_MailSends.B18 = true := by kernel_rfl
set_option maxHeartbeats 8000000 in
set_option maxRecDepth 100000 in
theorem donjonlaw18_MailSends.calls (k : Nat) (A0 : Option Addr) (c0 : Nat) (l0 : List (S44)) (a1_0 : ByteArray) (a1_1 : Int) (a1_2 : Int) (a1_3 : Int) (a1_4 : Int) (a1_5 : ByteArray) (a1_6 : Int) (a1_7 : Int) (a1_8 : Int) (a1_9 : Int) (a1_10 : ByteArray) (a2 : Int) (r : Bool) (w : World) (hrt0 : r = true) (hG0 : MaxAt w) (hr0 : Kd.C k44 w A0 l0.length l0) (hc0 : l0.length ≤ c0) (h : donjonlaw18_MailSends.f k l0 a1_0 a1_1 a1_2 a1_3 a1_4 a1_5 a1_6 a1_7 a1_8 a1_9 a1_10 a2 = some r) :
  Calls Try.prog 5 #[.slice A0 l0.length c0, .agg #[.string a1_0, .int .i64 a1_1, .int .i64 a1_2, .int .i64 a1_3, .int .i64 a1_4, .string a1_5, .int .i64 a1_6, .int .i64 a1_7, .int .i64 a1_8, .int .i64 a1_9, .string a1_10], .int .i64 a2] w fun e w' => e = .returned (.bool r) ∧ Below w.heap.size w w' := by
 have HRT := Aside0.mk hrt0
 clear hrt0
 have HG := Aside0.mk hG0
 clear hG0
 have hu28 := Try.underlying28
 have hu44 := Try.underlying44
 have HR0 := Aside0.mk hr0
 have HC0 := Aside0.mk hc0
 clear hr0 hc0
 have HB := Aside0.mk (Below.refl w.heap.size w)
 have H : ((donjonlaw18_known.f k).bind fun t102 => (if t102 = true then (if (wrap64 ((wrap64 ((a1_0.size : Int) + (a1_5.size : Int))) + (a1_10.size : Int))) > 500 then (donjonlaw18_MailSends.j0 k l0 a2 true a1_0 a1_1 a1_2 a1_3 a1_4 a1_5 a1_6 a1_7 a1_8 a1_9 a1_10) else (donjonlaw18_MailSends.j0 k l0 a2 (decide ((l0.length : Int) > 20)) a1_0 a1_1 a1_2 a1_3 a1_4 a1_5 a1_6 a1_7 a1_8 a1_9 a1_10)) else (some false))) = some r := h
 clear h
 replace H := Option.bind_eq_some_iff.mp H
 obtain ⟨t102, A40, H⟩ := H
 replace H : (if t102 = true then (if (wrap64 ((wrap64 ((a1_0.size : Int) + (a1_5.size : Int))) + (a1_10.size : Int))) > 500 then (donjonlaw18_MailSends.j0 k l0 a2 true a1_0 a1_1 a1_2 a1_3 a1_4 a1_5 a1_6 a1_7 a1_8 a1_9 a1_10) else (donjonlaw18_MailSends.j0 k l0 a2 (decide ((l0.length : Int) > 20)) a1_0 a1_1 a1_2 a1_3 a1_4 a1_5 a1_6 a1_7 a1_8 a1_9 a1_10)) else (some false)) = some r := H
 have A4 := Aside0.mk A40
 clear A40
 by_cases c5 : t102 = true
 ·subst c5
  have H1 : (if (wrap64 ((wrap64 ((a1_0.size : Int) + (a1_5.size : Int))) + (a1_10.size : Int))) > 500 then (donjonlaw18_MailSends.j0 k l0 a2 true a1_0 a1_1 a1_2 a1_3 a1_4 a1_5 a1_6 a1_7 a1_8 a1_9 a1_10) else (donjonlaw18_MailSends.j0 k l0 a2 (decide ((l0.length : Int) > 20)) a1_0 a1_1 a1_2 a1_3 a1_4 a1_5 a1_6 a1_7 a1_8 a1_9 a1_10)) = some r := by rw [if_pos rfl] at H; exact H
  clear H
  have H := H1
  clear H1
  have HC6 := Aside0.mk H
  clear H
  go_enter Try.func5, Try.ntmps5
  go_upto_region 3 with (first | ((with_reducible refine gate_dst (N := 4) rfl ?_); (try (refine gate_guard (by rfl) ?_; dsimp only)); refine box_event ?hg (N := 4) ?hd (cs := #[.string a1_0, .int .i64 a1_1, .int .i64 a1_2, .int .i64 a1_3, .int .i64 a1_4, .string a1_5, .int .i64 a1_6, .int .i64 a1_7, .int .i64 a1_8, .int .i64 a1_9, .string a1_10]) (t := 28) ?hr ?_; (case hd => rfl); (case hg => rfl); (case hr => first | (go_simp; done) | (go_simp; rfl)); intro gb101 hg w7 hbox hb; have n0_ := Aside0.mk (below_step (bl_ HB.out) hb); have n1_ := Aside0.mk (hbox); have n2_ := Aside0.mk ((by rw [hg]; exact (below_size (bl_ HB.out)) : w.heap.size ≤ gb101)); have n3_ := Aside0.mk ((by rw [hg]; exact (below_size (bl_ HB.out)) : w.heap.size ≤ gb101)); clear HB; have HB := n0_; have BK101 := n1_; have GW101 := n2_; have GE101 := n3_; clear n0_ n1_ n2_ n3_; clear hb hbox hg) | ((with_reducible refine gate_callee (f := 9) rfl ?_); refine goesL_ (some 18) rfl rfl Try.func9 (by kernel_rfl) rfl #[] rfl (by (try simp only [List.map_toArray, List.map_cons, List.map_nil]); first | done | rfl | (simp only [List.length_drop, List.length_take]; rfl)) ?_; (with_reducible refine (donjonlaw18_known.calls k  true _ A4.out).mono ?_); rintro e w8 ⟨rfl, hb⟩; refine ⟨_, rfl, ?_⟩; have n0_ := Aside0.mk (blk_below (g := gb101) (o := .cells #[.string a1_0, .int .i64 a1_1, .int .i64 a1_2, .int .i64 a1_3, .int .i64 a1_4, .string a1_5, .int .i64 a1_6, .int .i64 a1_7, .int .i64 a1_8, .int .i64 a1_9, .string a1_10] 28 (0, 0)) (bk_ BK101.out) hb); have n1_ := Aside0.mk (below_step (bl_ HB.out) hb); clear BK101 HB; have BK101 := n0_; have HB := n1_; clear n0_ n1_; (try clear hb); (try clear hb2); (try clear hk); (try clear hi)))
  (try simp only [Act.put, xset_a, xset_z, xset_s])
  go_cut [36] (fun v36 wc => ∃ (kq : Nat) (x36_5 : Bool), v36 = .bool x36_5 ∧ Aside0 (donjonlaw18_MailSends.j0 kq l0 a2 x36_5 a1_0 a1_1 a1_2 a1_3 a1_4 a1_5 a1_6 a1_7 a1_8 a1_9 a1_10 = some r) ∧ Aside0 (kq ≤ k) ∧ Aside0 (wc.heap[gb101]? = some (.cells #[.string a1_0, .int .i64 a1_1, .int .i64 a1_2, .int .i64 a1_3, .int .i64 a1_4, .string a1_5, .int .i64 a1_6, .int .i64 a1_7, .int .i64 a1_8, .int .i64 a1_9, .string a1_10] 28 (0, 0))) ∧ Aside0 (Below w.heap.size w wc))
  case first =>
   have H := HC6.out
   clear HC6
   by_cases c9 : (wrap64 ((wrap64 ((a1_0.size : Int) + (a1_5.size : Int))) + (a1_10.size : Int))) > 500
   ·rw [if_pos c9] at H
    have c9b0 : decide (500 < (wrap64 ((wrap64 ((a1_0.size : Int) + (a1_5.size : Int))) + (a1_10.size : Int)))) = true := decide_eq_true c9
    clear c9
    (first | rw [c9b0] | (simp only [i64_w, i32_w]; rw [c9b0]) | skip)
    have H' := Aside0.mk H
    clear H
    obtain ⟨hcz10_0, hcz10_1, hcz10_2, hcz10_3, hcz10_4, hcz10_5, hcz10_6, hcz10_7, hcz10_8, hcz10_9, hcz10_10⟩ := bcs11 BK101.out
    obtain ⟨hfz10_0, hfz10_1, hfz10_2, hfz10_3, hfz10_4, hfz10_5, hfz10_6, hfz10_7, hfz10_8, hfz10_9, hfz10_10⟩ := bfs11 BK101.out
    go_wp2
    go_meet
    case rel => exact ⟨_, (true), (by first | rfl | (simp; done) | (simp [*]; done)), H', ⟨by first | omega | exact Nat.le_refl _⟩, ⟨by (with_reducible repeat (first | refine blk_drewN ?_ _ | refine blk_drew ?_ | refine blk_alloc ?_ _)); exact BK101.out⟩, ⟨by repeat (first | (with_reducible first | exact HB.out | apply below_alloc | apply pw_below_drewN | apply below_drew1 | refine below_set ?_ GE101.out) | exact HB.out)⟩⟩
   ·rw [if_neg c9] at H
    have c9b0 : decide (500 < (wrap64 ((wrap64 ((a1_0.size : Int) + (a1_5.size : Int))) + (a1_10.size : Int)))) = false := decide_eq_false c9
    clear c9
    (first | rw [c9b0] | (simp only [i64_w, i32_w]; rw [c9b0]) | skip)
    have H' := Aside0.mk H
    clear H
    obtain ⟨hcz11_0, hcz11_1, hcz11_2, hcz11_3, hcz11_4, hcz11_5, hcz11_6, hcz11_7, hcz11_8, hcz11_9, hcz11_10⟩ := bcs11 BK101.out
    obtain ⟨hfz11_0, hfz11_1, hfz11_2, hfz11_3, hfz11_4, hfz11_5, hfz11_6, hfz11_7, hfz11_8, hfz11_9, hfz11_10⟩ := bfs11 BK101.out
    go_wp2
    go_meet
    case rel => exact ⟨_, (decide ((l0.length : Int) > 20)), (by first | rfl | (simp; done) | (simp [*]; done)), H', ⟨by first | omega | exact Nat.le_refl _⟩, ⟨by (with_reducible repeat (first | refine blk_drewN ?_ _ | refine blk_drew ?_ | refine blk_alloc ?_ _)); exact BK101.out⟩, ⟨by repeat (first | (with_reducible first | exact HB.out | apply below_alloc | apply pw_below_drewN | apply below_drew1 | refine below_set ?_ GE101.out) | exact HB.out)⟩⟩
  case rest =>
   clear HC6
   try clear p2
   try clear c5
   try clear p6
   try clear c9
   try clear c9b0
   try clear hcz10_0
   try clear hcz10_1
   try clear hcz10_10
   try clear hcz10_2
   try clear hcz10_3
   try clear hcz10_4
   try clear hcz10_5
   try clear hcz10_6
   try clear hcz10_7
   try clear hcz10_8
   try clear hcz10_9
   try clear hcz11_0
   try clear hcz11_1
   try clear hcz11_10
   try clear hcz11_2
   try clear hcz11_3
   try clear hcz11_4
   try clear hcz11_5
   try clear hcz11_6
   try clear hcz11_7
   try clear hcz11_8
   try clear hcz11_9
   try clear hfz10_0
   try clear hfz10_1
   try clear hfz10_10
   try clear hfz10_2
   try clear hfz10_3
   try clear hfz10_4
   try clear hfz10_5
   try clear hfz10_6
   try clear hfz10_7
   try clear hfz10_8
   try clear hfz10_9
   try clear hfz11_0
   try clear hfz11_1
   try clear hfz11_10
   try clear hfz11_2
   try clear hfz11_3
   try clear hfz11_4
   try clear hfz11_5
   try clear hfz11_6
   try clear hfz11_7
   try clear hfz11_8
   try clear hfz11_9
   obtain ⟨kq, x36_5, rfl, HA, HJ5, BK101, HB⟩ := hcut
   cases kq with
   | zero => exact absurd HA.out (by simp [donjonlaw18_MailSends.j0])
   | succ kj5 =>
    have H := HA.out
    clear HA
    simp only [donjonlaw18_MailSends.j0] at H
    by_cases c12 : x36_5 = true
    ·subst c12
     have H1 : (some true) = some r := by rw [if_pos rfl] at H; exact H
     clear H
     have H := H1
     clear H1
     obtain rfl := Option.some.inj H
     go_wp2
     go_ret
     exact ⟨by first | rfl | (simp [errW_none, errW_some] <;> rfl) | (simp [*, errW_none, errW_some] <;> rfl), by repeat (first | (with_reducible first | exact HB.out | apply below_alloc | apply pw_below_drewN | apply below_drew1 | refine below_set ?_ GE101.out) | exact HB.out)⟩
    ·replace c12 := Bool.eq_false_iff.mpr c12
     subst c12
     have H1 : (donjonlaw18_MailSends.l0 kj5 l0 a2 0 a1_0 a1_1 a1_2 a1_3 a1_4 a1_5 a1_6 a1_7 a1_8 a1_9 a1_10) = some r := by rw [if_neg (show ¬ (false = true) by decide)] at H; exact H
     clear H
     have H := H1
     clear H1
     have H' := Aside0.mk H
     clear H
     go_wp2
     go_loopg [7] kj5 (fun kq v7 w' => ∃ (x7_2 : Int), v7 = .int .i64 x7_2 ∧ Aside0 (donjonlaw18_MailSends.l0 kq l0 a2 x7_2 a1_0 a1_1 a1_2 a1_3 a1_4 a1_5 a1_6 a1_7 a1_8 a1_9 a1_10 = some r) ∧ Aside0 (kq ≤ kj5) ∧ Aside0 (w'.heap[gb101]? = some (.cells #[.string a1_0, .int .i64 a1_1, .int .i64 a1_2, .int .i64 a1_3, .int .i64 a1_4, .string a1_5, .int .i64 a1_6, .int .i64 a1_7, .int .i64 a1_8, .int .i64 a1_9, .string a1_10] 28 (0, 0))) ∧ Aside0 (Below w.heap.size w w'))
     case atStart => exact ⟨(0), (by first | rfl | (simp; done) | (simp [*]; done)), H', ⟨Nat.le_refl _⟩, ⟨by (with_reducible repeat (first | refine blk_drewN ?_ _ | refine blk_drew ?_ | refine blk_alloc ?_ _)); exact BK101.out⟩, ⟨by repeat (first | (with_reducible first | exact HB.out | apply below_alloc | apply pw_below_drewN | apply below_drew1 | refine below_set ?_ GE101.out) | exact HB.out)⟩⟩
     case round =>
      clear H'
      try clear c1
      try clear p2
      try clear c5
      try clear p6
      try clear c9
      try clear c9b0
      try clear c12
      try clear hcz10_0
      try clear hcz10_1
      try clear hcz10_10
      try clear hcz10_2
      try clear hcz10_3
      try clear hcz10_4
      try clear hcz10_5
      try clear hcz10_6
      try clear hcz10_7
      try clear hcz10_8
      try clear hcz10_9
      try clear hcz11_0
      try clear hcz11_1
      try clear hcz11_10
      try clear hcz11_2
      try clear hcz11_3
      try clear hcz11_4
      try clear hcz11_5
      try clear hcz11_6
      try clear hcz11_7
      try clear hcz11_8
      try clear hcz11_9
      try clear hfz10_0
      try clear hfz10_1
      try clear hfz10_10
      try clear hfz10_2
      try clear hfz10_3
      try clear hfz10_4
      try clear hfz10_5
      try clear hfz10_6
      try clear hfz10_7
      try clear hfz10_8
      try clear hfz10_9
      try clear hfz11_0
      try clear hfz11_1
      try clear hfz11_10
      try clear hfz11_2
      try clear hfz11_3
      try clear hfz11_4
      try clear hfz11_5
      try clear hfz11_6
      try clear hfz11_7
      try clear hfz11_8
      try clear hfz11_9
      try clear p2
      try clear p6
      obtain ⟨x7_2, rfl, HA, HK2, BK101, HB⟩ := hrel
      cases gk with
      | zero => exact absurd HA.out (by simp [donjonlaw18_MailSends.l0])
      | succ k2 =>
       have H := HA.out
       clear HA
       simp only [donjonlaw18_MailSends.l0] at H
       by_cases c13 : x7_2 < (l0.length : Int)
       ·rw [if_pos c13] at H
        have c13b0 : decide (x7_2 < (l0.length : Int)) = true := decide_eq_true c13
        clear c13
        by_cases c14 : 0 ≤ x7_2
        ·rw [if_pos c14] at H
         have c14b0 : decide (0 ≤ x7_2) = true := decide_eq_true c14
         clear c14
         by_cases c15 : (((rd_T44 l0 x7_2).f2).size : Int) > 100
         ·rw [if_pos c15] at H
          have c15b0 : decide (100 < (((rd_T44 l0 x7_2).f2).size : Int)) = true := decide_eq_true c15
          have c15b1 : decide (100 < ((rd_T44 l0 x7_2).f2).size) = true := decide_eq_true (by omega)
          clear c15
          obtain rfl := Option.some.inj H
          have p103 : 0 ≤ (x7_2 : Int) := of_decide_eq_true (by first | (with_reducible assumption) | assumption)
          have q103 : x7_2 < (l0.length : Int) := of_decide_eq_true (by first | (with_reducible assumption) | assumption)
          obtain ⟨ad103, e103, hx103_0, hx103_1, hx103_2, hx103_3, hx103_4, hx103_5, hx103_6, hx103_7, hx103_8⟩ := at_T44 HR0.out x7_2 p103 q103
          cases e103
          replace hx103_0 := bcell_ HB.out hx103_0
          replace hx103_1 := bcell_ HB.out hx103_1
          replace hx103_2 := bcell_ HB.out hx103_2
          replace hx103_3 := bcell_ HB.out hx103_3
          replace hx103_4 := bcell_ HB.out hx103_4
          replace hx103_5 := bcell_ HB.out hx103_5
          replace hx103_6 := bcell_ HB.out hx103_6
          replace hx103_7 := bcell_ HB.out hx103_7
          replace hx103_8 := bcell_ HB.out hx103_8
          replace p103 := eq_true p103
          replace q103 := eq_true q103
          go_wp2
          go_ret
          exact ⟨by first | rfl | (simp [errW_none, errW_some] <;> rfl) | (simp [*, errW_none, errW_some] <;> rfl), by repeat (first | (with_reducible first | exact HB.out | apply below_alloc | apply pw_below_drewN | apply below_drew1 | refine below_set ?_ GE101.out) | exact HB.out)⟩
         ·rw [if_neg c15] at H
          have c15b0 : decide (100 < (((rd_T44 l0 x7_2).f2).size : Int)) = false := decide_eq_false c15
          have c15b1 : decide (100 < ((rd_T44 l0 x7_2).f2).size) = false := decide_eq_false (by omega)
          clear c15
          have H' := Aside0.mk H
          clear H
          have p103 : 0 ≤ (x7_2 : Int) := of_decide_eq_true (by first | (with_reducible assumption) | assumption)
          have q103 : x7_2 < (l0.length : Int) := of_decide_eq_true (by first | (with_reducible assumption) | assumption)
          obtain ⟨ad103, e103, hx103_0, hx103_1, hx103_2, hx103_3, hx103_4, hx103_5, hx103_6, hx103_7, hx103_8⟩ := at_T44 HR0.out x7_2 p103 q103
          cases e103
          replace hx103_0 := bcell_ HB.out hx103_0
          replace hx103_1 := bcell_ HB.out hx103_1
          replace hx103_2 := bcell_ HB.out hx103_2
          replace hx103_3 := bcell_ HB.out hx103_3
          replace hx103_4 := bcell_ HB.out hx103_4
          replace hx103_5 := bcell_ HB.out hx103_5
          replace hx103_6 := bcell_ HB.out hx103_6
          replace hx103_7 := bcell_ HB.out hx103_7
          replace hx103_8 := bcell_ HB.out hx103_8
          replace p103 := eq_true p103
          replace q103 := eq_true q103
          go_wp2
          go_roundg k2
          case measure => have := HJ5.out; have := HK2.out; omega
          case rel => exact ⟨(wrap64 (x7_2 + 1)), (by first | rfl | (simp; done) | (simp [*]; done)), H', ⟨by have := HJ5.out; have := HK2.out; omega⟩, ⟨by (with_reducible repeat (first | refine blk_drewN ?_ _ | refine blk_drew ?_ | refine blk_alloc ?_ _)); exact BK101.out⟩, ⟨by repeat (first | (with_reducible first | exact HB.out | apply below_alloc | apply pw_below_drewN | apply below_drew1 | refine below_set ?_ GE101.out) | exact HB.out)⟩⟩
        ·rw [if_neg c14] at H
         exact absurd H (by simp)
       ·rw [if_neg c13] at H
        have c13b0 : decide (x7_2 < (l0.length : Int)) = false := decide_eq_false c13
        clear c13
        have H' := Aside0.mk H
        clear H
        go_wp2
        go_loopg [8] k2 (fun kq v8 w' => ∃ (x8_3 : Int) (x102000_3 : ByteArray) (x102001_3 : Int) (x102002_3 : Int) (x102003_3 : Int) (x102004_3 : Int) (x102005_3 : ByteArray) (x102006_3 : Int) (x102007_3 : Int) (x102008_3 : Int) (x102009_3 : Int) (x102010_3 : ByteArray), v8 = .int .i64 x8_3 ∧ Aside0 (donjonlaw18_MailSends.l1 kq l0 a2 x8_3 x102000_3 x102001_3 x102002_3 x102003_3 x102004_3 x102005_3 x102006_3 x102007_3 x102008_3 x102009_3 x102010_3 = some r) ∧ Aside0 (kq ≤ k2) ∧ Aside0 (w'.heap[gb101]? = some (.cells #[.string x102000_3, .int .i64 x102001_3, .int .i64 x102002_3, .int .i64 x102003_3, .int .i64 x102004_3, .string x102005_3, .int .i64 x102006_3, .int .i64 x102007_3, .int .i64 x102008_3, .int .i64 x102009_3, .string x102010_3] 28 (0, 0))) ∧ Aside0 (Below w.heap.size w w'))
        case atStart => exact ⟨(0), (a1_0), (a1_1), (a1_2), (a1_3), (a1_4), (a1_5), (a1_6), (a1_7), (a1_8), (a1_9), (a1_10), (by first | rfl | (simp; done) | (simp [*]; done)), H', ⟨Nat.le_refl _⟩, ⟨by (with_reducible repeat (first | refine blk_drewN ?_ _ | refine blk_drew ?_ | refine blk_alloc ?_ _)); exact BK101.out⟩, ⟨by repeat (first | (with_reducible first | exact HB.out | apply below_alloc | apply pw_below_drewN | apply below_drew1 | refine below_set ?_ GE101.out) | exact HB.out)⟩⟩
        case round =>
         clear H'
         try clear c1
         try clear p1
         try clear q1
         try clear hx1
         try clear p2
         try clear c5
         try clear p6
         try clear c9
         try clear c9b0
         try clear p10
         try clear q10
         try clear hx10
         try clear c12
         try clear c13
         try clear c13b0
         try clear c14
         try clear c14b0
         try clear c15
         try clear c15b0
         try clear c15b1
         try clear hcz10_0
         try clear hcz10_1
         try clear hcz10_10
         try clear hcz10_2
         try clear hcz10_3
         try clear hcz10_4
         try clear hcz10_5
         try clear hcz10_6
         try clear hcz10_7
         try clear hcz10_8
         try clear hcz10_9
         try clear hcz11_0
         try clear hcz11_1
         try clear hcz11_10
         try clear hcz11_2
         try clear hcz11_3
         try clear hcz11_4
         try clear hcz11_5
         try clear hcz11_6
         try clear hcz11_7
         try clear hcz11_8
         try clear hcz11_9
         try clear hfz10_0
         try clear hfz10_1
         try clear hfz10_10
         try clear hfz10_2
         try clear hfz10_3
         try clear hfz10_4
         try clear hfz10_5
         try clear hfz10_6
         try clear hfz10_7
         try clear hfz10_8
         try clear hfz10_9
         try clear hfz11_0
         try clear hfz11_1
         try clear hfz11_10
         try clear hfz11_2
         try clear hfz11_3
         try clear hfz11_4
         try clear hfz11_5
         try clear hfz11_6
         try clear hfz11_7
         try clear hfz11_8
         try clear hfz11_9
         try clear hx103_0
         try clear hx103_1
         try clear hx103_2
         try clear hx103_3
         try clear hx103_4
         try clear hx103_5
         try clear hx103_6
         try clear hx103_7
         try clear hx103_8
         try clear p103
         try clear p2
         try clear p6
         try clear q103
         obtain ⟨x8_3, x102000_3, x102001_3, x102002_3, x102003_3, x102004_3, x102005_3, x102006_3, x102007_3, x102008_3, x102009_3, x102010_3, rfl, HA, HK3, BK101, HB⟩ := hrel
         cases gk with
         | zero => exact absurd HA.out (by simp [donjonlaw18_MailSends.l1])
         | succ k3 =>
          have H := HA.out
          clear HA
          simp only [donjonlaw18_MailSends.l1] at H
          by_cases c16 : x8_3 < 2
          ·rw [if_pos c16] at H
           have c16b0 : decide (x8_3 < 2) = true := decide_eq_true c16
           clear c16
           replace H := Option.bind_eq_some_iff.mp H
           obtain ⟨t104, A170, H⟩ := H
           replace H : ((donjonlaw18_rules.f k3 l0 x102000_3 x102001_3 x102002_3 x102003_3 x102004_3 x102005_3 x102006_3 x102007_3 x102008_3 x102009_3 x102010_3 t104).bind fun t105 => ((mail_Send.f k3 t105 x102000_3 x102001_3 x102002_3 x102003_3 x102004_3 x102005_3 x102006_3 x102007_3 x102008_3 x102009_3 x102010_3).bind fun bt108 => ((donjonref18_Send.f k3 t105 x102000_3 x102001_3 x102002_3 x102003_3 x102004_3 x102005_3 x102006_3 x102007_3 x102008_3 x102009_3 x102010_3).bind fun bt110 => ((mail_Rule.f k3 t105 x102000_3 x102001_3 x102002_3 x102003_3 x102004_3 x102005_3 x102006_3 x102007_3 x102008_3 x102009_3 x102010_3).bind fun bt112 => ((donjonref18_Rule.f k3 t105 x102000_3 x102001_3 x102002_3 x102003_3 x102004_3 x102005_3 x102006_3 x102007_3 x102008_3 x102009_3 x102010_3).bind fun bt123 => (if bt108.1 = bt110.1 then (if bt108.2 = bt110.2 then (if ((!(bt112.1 == bt123.1) || (!(bt112.2.1 == bt123.2.1) || (!(bt112.2.2.1 == bt123.2.2.1) || (!(bt112.2.2.2.1 == bt123.2.2.2.1))))) || ((!(bt112.2.2.2.2.1 == bt123.2.2.2.2.1) || (!(bt112.2.2.2.2.2.1 == bt123.2.2.2.2.2.1) || (!(bt112.2.2.2.2.2.2.1 == bt123.2.2.2.2.2.2.1) || (!(bt112.2.2.2.2.2.2.2.1 == bt123.2.2.2.2.2.2.2.1))))) || (!(bt112.2.2.2.2.2.2.2.2.1.toList == bt123.2.2.2.2.2.2.2.2.1.toList)))) = true then (some false) else (if (bt112.2.2.2.2.2.2.2.2.2 != bt123.2.2.2.2.2.2.2.2.2) = true then (some false) else ((mail_Release.f k3 t105 x102000_3 x102001_3 x102002_3 x102003_3 x102004_3 x102005_3 x102006_3 x102007_3 x102008_3 x102009_3 x102010_3).bind fun t134 => ((donjonref18_Release.f k3 t105 x102000_3 x102001_3 x102002_3 x102003_3 x102004_3 x102005_3 x102006_3 x102007_3 x102008_3 x102009_3 x102010_3).bind fun t135 => (if t134 = t135 then ((donjonlaw18_good.f x102000_3 x102001_3 x102002_3 x102003_3 x102004_3 x102005_3 x102006_3 x102007_3 x102008_3 x102009_3 x102010_3 a2).bind fun bt136 => (donjonlaw18_MailSends.l1 k3 l0 a2 (wrap64 (x8_3 + 1)) bt136.1 bt136.2.1 bt136.2.2.1 bt136.2.2.2.1 bt136.2.2.2.2.1 bt136.2.2.2.2.2.1 bt136.2.2.2.2.2.2.1 bt136.2.2.2.2.2.2.2.1 bt136.2.2.2.2.2.2.2.2.1 bt136.2.2.2.2.2.2.2.2.2.1 bt136.2.2.2.2.2.2.2.2.2.2)) else (some false)))))) else (some false)) else (some false))))))) = some r := H
           have A17 := Aside0.mk A170
           clear A170
           replace H := Option.bind_eq_some_iff.mp H
           obtain ⟨t105, A180, H⟩ := H
           replace H : ((mail_Send.f k3 t105 x102000_3 x102001_3 x102002_3 x102003_3 x102004_3 x102005_3 x102006_3 x102007_3 x102008_3 x102009_3 x102010_3).bind fun bt108 => ((donjonref18_Send.f k3 t105 x102000_3 x102001_3 x102002_3 x102003_3 x102004_3 x102005_3 x102006_3 x102007_3 x102008_3 x102009_3 x102010_3).bind fun bt110 => ((mail_Rule.f k3 t105 x102000_3 x102001_3 x102002_3 x102003_3 x102004_3 x102005_3 x102006_3 x102007_3 x102008_3 x102009_3 x102010_3).bind fun bt112 => ((donjonref18_Rule.f k3 t105 x102000_3 x102001_3 x102002_3 x102003_3 x102004_3 x102005_3 x102006_3 x102007_3 x102008_3 x102009_3 x102010_3).bind fun bt123 => (if bt108.1 = bt110.1 then (if bt108.2 = bt110.2 then (if ((!(bt112.1 == bt123.1) || (!(bt112.2.1 == bt123.2.1) || (!(bt112.2.2.1 == bt123.2.2.1) || (!(bt112.2.2.2.1 == bt123.2.2.2.1))))) || ((!(bt112.2.2.2.2.1 == bt123.2.2.2.2.1) || (!(bt112.2.2.2.2.2.1 == bt123.2.2.2.2.2.1) || (!(bt112.2.2.2.2.2.2.1 == bt123.2.2.2.2.2.2.1) || (!(bt112.2.2.2.2.2.2.2.1 == bt123.2.2.2.2.2.2.2.1))))) || (!(bt112.2.2.2.2.2.2.2.2.1.toList == bt123.2.2.2.2.2.2.2.2.1.toList)))) = true then (some false) else (if (bt112.2.2.2.2.2.2.2.2.2 != bt123.2.2.2.2.2.2.2.2.2) = true then (some false) else ((mail_Release.f k3 t105 x102000_3 x102001_3 x102002_3 x102003_3 x102004_3 x102005_3 x102006_3 x102007_3 x102008_3 x102009_3 x102010_3).bind fun t134 => ((donjonref18_Release.f k3 t105 x102000_3 x102001_3 x102002_3 x102003_3 x102004_3 x102005_3 x102006_3 x102007_3 x102008_3 x102009_3 x102010_3).bind fun t135 => (if t134 = t135 then ((donjonlaw18_good.f x102000_3 x102001_3 x102002_3 x102003_3 x102004_3 x102005_3 x102006_3 x102007_3 x102008_3 x102009_3 x102010_3 a2).bind fun bt136 => (donjonlaw18_MailSends.l1 k3 l0 a2 (wrap64 (x8_3 + 1)) bt136.1 bt136.2.1 bt136.2.2.1 bt136.2.2.2.1 bt136.2.2.2.2.1 bt136.2.2.2.2.2.1 bt136.2.2.2.2.2.2.1 bt136.2.2.2.2.2.2.2.1 bt136.2.2.2.2.2.2.2.2.1 bt136.2.2.2.2.2.2.2.2.2.1 bt136.2.2.2.2.2.2.2.2.2.2)) else (some false)))))) else (some false)) else (some false)))))) = some r := H
           have A18 := Aside0.mk A180
           clear A180
           replace H := Option.bind_eq_some_iff.mp H
           obtain ⟨⟨t108, t109⟩, A190, H⟩ := H
           replace H : ((donjonref18_Send.f k3 t105 x102000_3 x102001_3 x102002_3 x102003_3 x102004_3 x102005_3 x102006_3 x102007_3 x102008_3 x102009_3 x102010_3).bind fun bt110 => ((mail_Rule.f k3 t105 x102000_3 x102001_3 x102002_3 x102003_3 x102004_3 x102005_3 x102006_3 x102007_3 x102008_3 x102009_3 x102010_3).bind fun bt112 => ((donjonref18_Rule.f k3 t105 x102000_3 x102001_3 x102002_3 x102003_3 x102004_3 x102005_3 x102006_3 x102007_3 x102008_3 x102009_3 x102010_3).bind fun bt123 => (if t108 = bt110.1 then (if t109 = bt110.2 then (if ((!(bt112.1 == bt123.1) || (!(bt112.2.1 == bt123.2.1) || (!(bt112.2.2.1 == bt123.2.2.1) || (!(bt112.2.2.2.1 == bt123.2.2.2.1))))) || ((!(bt112.2.2.2.2.1 == bt123.2.2.2.2.1) || (!(bt112.2.2.2.2.2.1 == bt123.2.2.2.2.2.1) || (!(bt112.2.2.2.2.2.2.1 == bt123.2.2.2.2.2.2.1) || (!(bt112.2.2.2.2.2.2.2.1 == bt123.2.2.2.2.2.2.2.1))))) || (!(bt112.2.2.2.2.2.2.2.2.1.toList == bt123.2.2.2.2.2.2.2.2.1.toList)))) = true then (some false) else (if (bt112.2.2.2.2.2.2.2.2.2 != bt123.2.2.2.2.2.2.2.2.2) = true then (some false) else ((mail_Release.f k3 t105 x102000_3 x102001_3 x102002_3 x102003_3 x102004_3 x102005_3 x102006_3 x102007_3 x102008_3 x102009_3 x102010_3).bind fun t134 => ((donjonref18_Release.f k3 t105 x102000_3 x102001_3 x102002_3 x102003_3 x102004_3 x102005_3 x102006_3 x102007_3 x102008_3 x102009_3 x102010_3).bind fun t135 => (if t134 = t135 then ((donjonlaw18_good.f x102000_3 x102001_3 x102002_3 x102003_3 x102004_3 x102005_3 x102006_3 x102007_3 x102008_3 x102009_3 x102010_3 a2).bind fun bt136 => (donjonlaw18_MailSends.l1 k3 l0 a2 (wrap64 (x8_3 + 1)) bt136.1 bt136.2.1 bt136.2.2.1 bt136.2.2.2.1 bt136.2.2.2.2.1 bt136.2.2.2.2.2.1 bt136.2.2.2.2.2.2.1 bt136.2.2.2.2.2.2.2.1 bt136.2.2.2.2.2.2.2.2.1 bt136.2.2.2.2.2.2.2.2.2.1 bt136.2.2.2.2.2.2.2.2.2.2)) else (some false)))))) else (some false)) else (some false))))) = some r := H
           have A19 := Aside0.mk A190
           clear A190
           replace H := Option.bind_eq_some_iff.mp H
           obtain ⟨⟨t110, t111⟩, A200, H⟩ := H
           replace H : ((mail_Rule.f k3 t105 x102000_3 x102001_3 x102002_3 x102003_3 x102004_3 x102005_3 x102006_3 x102007_3 x102008_3 x102009_3 x102010_3).bind fun bt112 => ((donjonref18_Rule.f k3 t105 x102000_3 x102001_3 x102002_3 x102003_3 x102004_3 x102005_3 x102006_3 x102007_3 x102008_3 x102009_3 x102010_3).bind fun bt123 => (if t108 = t110 then (if t109 = t111 then (if ((!(bt112.1 == bt123.1) || (!(bt112.2.1 == bt123.2.1) || (!(bt112.2.2.1 == bt123.2.2.1) || (!(bt112.2.2.2.1 == bt123.2.2.2.1))))) || ((!(bt112.2.2.2.2.1 == bt123.2.2.2.2.1) || (!(bt112.2.2.2.2.2.1 == bt123.2.2.2.2.2.1) || (!(bt112.2.2.2.2.2.2.1 == bt123.2.2.2.2.2.2.1) || (!(bt112.2.2.2.2.2.2.2.1 == bt123.2.2.2.2.2.2.2.1))))) || (!(bt112.2.2.2.2.2.2.2.2.1.toList == bt123.2.2.2.2.2.2.2.2.1.toList)))) = true then (some false) else (if (bt112.2.2.2.2.2.2.2.2.2 != bt123.2.2.2.2.2.2.2.2.2) = true then (some false) else ((mail_Release.f k3 t105 x102000_3 x102001_3 x102002_3 x102003_3 x102004_3 x102005_3 x102006_3 x102007_3 x102008_3 x102009_3 x102010_3).bind fun t134 => ((donjonref18_Release.f k3 t105 x102000_3 x102001_3 x102002_3 x102003_3 x102004_3 x102005_3 x102006_3 x102007_3 x102008_3 x102009_3 x102010_3).bind fun t135 => (if t134 = t135 then ((donjonlaw18_good.f x102000_3 x102001_3 x102002_3 x102003_3 x102004_3 x102005_3 x102006_3 x102007_3 x102008_3 x102009_3 x102010_3 a2).bind fun bt136 => (donjonlaw18_MailSends.l1 k3 l0 a2 (wrap64 (x8_3 + 1)) bt136.1 bt136.2.1 bt136.2.2.1 bt136.2.2.2.1 bt136.2.2.2.2.1 bt136.2.2.2.2.2.1 bt136.2.2.2.2.2.2.1 bt136.2.2.2.2.2.2.2.1 bt136.2.2.2.2.2.2.2.2.1 bt136.2.2.2.2.2.2.2.2.2.1 bt136.2.2.2.2.2.2.2.2.2.2)) else (some false)))))) else (some false)) else (some false)))) = some r := H
           have A20 := Aside0.mk A200
           clear A200
           replace H := Option.bind_eq_some_iff.mp H
           obtain ⟨⟨t112, t113, t114, t115, t116, t117, t118, t119, t120, t121⟩, A210, H⟩ := H
           replace H : ((donjonref18_Rule.f k3 t105 x102000_3 x102001_3 x102002_3 x102003_3 x102004_3 x102005_3 x102006_3 x102007_3 x102008_3 x102009_3 x102010_3).bind fun bt123 => (if t108 = t110 then (if t109 = t111 then (if ((!(t112 == bt123.1) || (!(t113 == bt123.2.1) || (!(t114 == bt123.2.2.1) || (!(t115 == bt123.2.2.2.1))))) || ((!(t116 == bt123.2.2.2.2.1) || (!(t117 == bt123.2.2.2.2.2.1) || (!(t118 == bt123.2.2.2.2.2.2.1) || (!(t119 == bt123.2.2.2.2.2.2.2.1))))) || (!(t120.toList == bt123.2.2.2.2.2.2.2.2.1.toList)))) = true then (some false) else (if (t121 != bt123.2.2.2.2.2.2.2.2.2) = true then (some false) else ((mail_Release.f k3 t105 x102000_3 x102001_3 x102002_3 x102003_3 x102004_3 x102005_3 x102006_3 x102007_3 x102008_3 x102009_3 x102010_3).bind fun t134 => ((donjonref18_Release.f k3 t105 x102000_3 x102001_3 x102002_3 x102003_3 x102004_3 x102005_3 x102006_3 x102007_3 x102008_3 x102009_3 x102010_3).bind fun t135 => (if t134 = t135 then ((donjonlaw18_good.f x102000_3 x102001_3 x102002_3 x102003_3 x102004_3 x102005_3 x102006_3 x102007_3 x102008_3 x102009_3 x102010_3 a2).bind fun bt136 => (donjonlaw18_MailSends.l1 k3 l0 a2 (wrap64 (x8_3 + 1)) bt136.1 bt136.2.1 bt136.2.2.1 bt136.2.2.2.1 bt136.2.2.2.2.1 bt136.2.2.2.2.2.1 bt136.2.2.2.2.2.2.1 bt136.2.2.2.2.2.2.2.1 bt136.2.2.2.2.2.2.2.2.1 bt136.2.2.2.2.2.2.2.2.2.1 bt136.2.2.2.2.2.2.2.2.2.2)) else (some false)))))) else (some false)) else (some false))) = some r := H
           have A21 := Aside0.mk A210
           clear A210
           replace H := Option.bind_eq_some_iff.mp H
           obtain ⟨⟨t123, t124, t125, t126, t127, t128, t129, t130, t131, t132⟩, A220, H⟩ := H
           replace H : (if t108 = t110 then (if t109 = t111 then (if ((!(t112 == t123) || (!(t113 == t124) || (!(t114 == t125) || (!(t115 == t126))))) || ((!(t116 == t127) || (!(t117 == t128) || (!(t118 == t129) || (!(t119 == t130))))) || (!(t120.toList == t131.toList)))) = true then (some false) else (if (t121 != t132) = true then (some false) else ((mail_Release.f k3 t105 x102000_3 x102001_3 x102002_3 x102003_3 x102004_3 x102005_3 x102006_3 x102007_3 x102008_3 x102009_3 x102010_3).bind fun t134 => ((donjonref18_Release.f k3 t105 x102000_3 x102001_3 x102002_3 x102003_3 x102004_3 x102005_3 x102006_3 x102007_3 x102008_3 x102009_3 x102010_3).bind fun t135 => (if t134 = t135 then ((donjonlaw18_good.f x102000_3 x102001_3 x102002_3 x102003_3 x102004_3 x102005_3 x102006_3 x102007_3 x102008_3 x102009_3 x102010_3 a2).bind fun bt136 => (donjonlaw18_MailSends.l1 k3 l0 a2 (wrap64 (x8_3 + 1)) bt136.1 bt136.2.1 bt136.2.2.1 bt136.2.2.2.1 bt136.2.2.2.2.1 bt136.2.2.2.2.2.1 bt136.2.2.2.2.2.2.1 bt136.2.2.2.2.2.2.2.1 bt136.2.2.2.2.2.2.2.2.1 bt136.2.2.2.2.2.2.2.2.2.1 bt136.2.2.2.2.2.2.2.2.2.2)) else (some false)))))) else (some false)) else (some false)) = some r := H
           have A22 := Aside0.mk A220
           clear A220
           by_cases c23 : t108 = t110
           ·rw [if_pos c23] at H
            have c23b0 : (t108 == t110) = true := beq_iff_eq.mpr c23
            have c23b1 : (t108 != t110) = false := bne_eq_false_iff_eq.mpr c23
            clear c23
            by_cases c24 : t109 = t111
            ·rw [if_pos c24] at H
             have c24b0 : (t109 == t111) = true := beq_iff_eq.mpr c24
             have c24b1 : (t109 != t111) = false := bne_eq_false_iff_eq.mpr c24
             clear c24
             by_cases c25 : ((!(t112 == t123) || (!(t113 == t124) || (!(t114 == t125) || (!(t115 == t126))))) || ((!(t116 == t127) || (!(t117 == t128) || (!(t118 == t129) || (!(t119 == t130))))) || (!(t120.toList == t131.toList)))) = true
             ·rw [if_pos c25] at H
              have c25b0 : ((!(t112 == t123) || (!(t113 == t124) || (!(t114 == t125) || (!(t115 == t126))))) || ((!(t116 == t127) || (!(t117 == t128) || (!(t118 == t129) || (!(t119 == t130))))) || (!(t120.toList == t131.toList)))) = true := c25
              clear c25
              obtain rfl := Option.some.inj H
              exact absurd HRT.out (by decide)
             ·rw [if_neg c25] at H
              have c25b0 : ((!(t112 == t123) || (!(t113 == t124) || (!(t114 == t125) || (!(t115 == t126))))) || ((!(t116 == t127) || (!(t117 == t128) || (!(t118 == t129) || (!(t119 == t130))))) || (!(t120.toList == t131.toList)))) = false := by simpa using c25
              clear c25
              by_cases c26 : (t121 != t132) = true
              ·rw [if_pos c26] at H
               have c26b0 : (t121 != t132) = true := c26
               (try (have c26b1 : decide (t121 = t132) = false := by simpa using c26))
               (try (have c26b2 : (t121 == t132) = false := by simpa using c26))
               (try (have c26b3 : ¬ (t121 = t132) := by simpa using c26))
               clear c26
               obtain rfl := Option.some.inj H
               exact absurd HRT.out (by decide)
              ·rw [if_neg c26] at H
               have c26b0 : (t121 != t132) = false := by simpa using c26
               (try (have c26b1 : decide (t121 = t132) = true := by simpa using c26))
               (try (have c26b2 : (t121 == t132) = true := by simpa using c26))
               clear c26
               replace H := Option.bind_eq_some_iff.mp H
               obtain ⟨t134, A270, H⟩ := H
               replace H : ((donjonref18_Release.f k3 t105 x102000_3 x102001_3 x102002_3 x102003_3 x102004_3 x102005_3 x102006_3 x102007_3 x102008_3 x102009_3 x102010_3).bind fun t135 => (if t134 = t135 then ((donjonlaw18_good.f x102000_3 x102001_3 x102002_3 x102003_3 x102004_3 x102005_3 x102006_3 x102007_3 x102008_3 x102009_3 x102010_3 a2).bind fun bt136 => (donjonlaw18_MailSends.l1 k3 l0 a2 (wrap64 (x8_3 + 1)) bt136.1 bt136.2.1 bt136.2.2.1 bt136.2.2.2.1 bt136.2.2.2.2.1 bt136.2.2.2.2.2.1 bt136.2.2.2.2.2.2.1 bt136.2.2.2.2.2.2.2.1 bt136.2.2.2.2.2.2.2.2.1 bt136.2.2.2.2.2.2.2.2.2.1 bt136.2.2.2.2.2.2.2.2.2.2)) else (some false))) = some r := H
               have A27 := Aside0.mk A270
               clear A270
               replace H := Option.bind_eq_some_iff.mp H
               obtain ⟨t135, A280, H⟩ := H
               replace H : (if t134 = t135 then ((donjonlaw18_good.f x102000_3 x102001_3 x102002_3 x102003_3 x102004_3 x102005_3 x102006_3 x102007_3 x102008_3 x102009_3 x102010_3 a2).bind fun bt136 => (donjonlaw18_MailSends.l1 k3 l0 a2 (wrap64 (x8_3 + 1)) bt136.1 bt136.2.1 bt136.2.2.1 bt136.2.2.2.1 bt136.2.2.2.2.1 bt136.2.2.2.2.2.1 bt136.2.2.2.2.2.2.1 bt136.2.2.2.2.2.2.2.1 bt136.2.2.2.2.2.2.2.2.1 bt136.2.2.2.2.2.2.2.2.2.1 bt136.2.2.2.2.2.2.2.2.2.2)) else (some false)) = some r := H
               have A28 := Aside0.mk A280
               clear A280
               by_cases c29 : t134 = t135
               ·rw [if_pos c29] at H
                have c29b0 : (t134 == t135) = true := beq_iff_eq.mpr c29
                have c29b1 : (t134 != t135) = false := bne_eq_false_iff_eq.mpr c29
                clear c29
                replace H := Option.bind_eq_some_iff.mp H
                obtain ⟨⟨t136, t137, t138, t139, t140, t141, t142, t143, t144, t145, t146⟩, A300, H⟩ := H
                replace H : (donjonlaw18_MailSends.l1 k3 l0 a2 (wrap64 (x8_3 + 1)) t136 t137 t138 t139 t140 t141 t142 t143 t144 t145 t146) = some r := H
                have A30 := Aside0.mk A300
                clear A300
                have H' := Aside0.mk H
                clear H
                try go_wp2
                have n0_ := Aside0.mk (blk_drew BK101.out)
                have n1_ := Aside0.mk (below_drew1 HB.out)
                clear BK101 HB
                have BK101 := n0_; have HB := n1_
                clear n0_ n1_
                refine start_ (n := 6) (S := fun w' => w'.cell? ⟨gb101, 0, none⟩ = some (.string x102000_3) ∧ w'.cell? ⟨gb101, 1, none⟩ = some (.int .i64 x102001_3) ∧ w'.cell? ⟨gb101, 2, none⟩ = some (.int .i64 x102002_3) ∧ w'.cell? ⟨gb101, 3, none⟩ = some (.int .i64 x102003_3) ∧ w'.cell? ⟨gb101, 4, none⟩ = some (.int .i64 x102004_3) ∧ w'.cell? ⟨gb101, 5, none⟩ = some (.string x102005_3) ∧ w'.cell? ⟨gb101, 6, none⟩ = some (.int .i64 x102006_3) ∧ w'.cell? ⟨gb101, 7, none⟩ = some (.int .i64 x102007_3) ∧ w'.cell? ⟨gb101, 8, none⟩ = some (.int .i64 x102008_3) ∧ w'.cell? ⟨gb101, 9, none⟩ = some (.int .i64 x102009_3) ∧ w'.cell? ⟨gb101, 10, none⟩ = some (.string x102010_3)) (ds := []) #[false, false, false, false, false, false] (by kernel_rfl) rfl rfl ⟨(blk_cell BK101.out 0).trans rfl, (blk_cell BK101.out 1).trans rfl, (blk_cell BK101.out 2).trans rfl, (blk_cell BK101.out 3).trans rfl, (blk_cell BK101.out 4).trans rfl, (blk_cell BK101.out 5).trans rfl, (blk_cell BK101.out 6).trans rfl, (blk_cell BK101.out 7).trans rfl, (blk_cell BK101.out 8).trans rfl, (blk_cell BK101.out 9).trans rfl, (blk_cell BK101.out 10).trans rfl⟩ (fun hHeld => ?_)
                generalize wr.drew = w31 at BK101 HB hHeld ⊢
                refine pure_ (i := 0) (N := some 54) (v := ?_) (a' := ?_) #[true, false, false, false, false, false] rfl rfl (by kernel_rfl) (fun _ _ _ h => h) (Or.inl ⟨by rfl, ?_⟩) ?_ ?_
                rotate_left
                ·intro w'
                 go_simp
                 with_reducible rfl
                rotate_left
                ·simp only [Act.put, xset_a, xset_z, xset_s, i64_w, i32_w]
                 rfl
                refine pure_ (i := 2) (N := some 56) (v := ?_) (a' := ?_) #[true, false, true, false, false, false] rfl rfl (by kernel_rfl) (fun _ _ _ h => h) (Or.inl ⟨by rfl, ?_⟩) ?_ ?_
                rotate_left
                ·intro w'
                 go_simp
                 with_reducible rfl
                rotate_left
                ·simp only [Act.put, xset_a, xset_z, xset_s, i64_w, i32_w]
                 rfl
                refine take_ (i := 1) (N := some 55) (v := ?_) (a' := ?_) #[true, true, true, false, false, false] rfl rfl (by kernel_rfl) (fun _ _ _ h => h) (Or.inl ⟨by rfl, ?_⟩) hHeld ?_ ?_
                rotate_left
                ·rintro w' ⟨s0, s1, s2, s3, s4, s5, s6, s7, s8, s9, s10⟩
                 go_simp
                 with_reducible rfl
                rotate_left
                ·simp only [Act.put, xset_a, xset_z, xset_s, i64_w, i32_w]
                 rfl
                refine one_ (i := 3) (N := some 57) #[true, true, true, true, false, false] rfl rfl (by kernel_rfl) (by decide) (fun K hK => ?_)
                refine goes_ Try.func10 (by kernel_rfl) rfl #[.int .i64 a2, .int .i64 9] (by rfl) rfl rfl (by (try simp only [List.map_toArray, List.map_cons, List.map_nil]); first | done | rfl | (simp only [List.length_drop, List.length_take]; rfl)) ?_
                with_reducible refine (donjonlaw18_within.calls a2 9 t104 _ A17.out).mono ?_
                rintro e w' ⟨rfl, ⟨nd, rfl⟩⟩
                refine ⟨_, rfl, ?_⟩
                refine hK.out _ _ ⟨(blk_cell BK101.out 0).trans rfl, (blk_cell BK101.out 1).trans rfl, (blk_cell BK101.out 2).trans rfl, (blk_cell BK101.out 3).trans rfl, (blk_cell BK101.out 4).trans rfl, (blk_cell BK101.out 5).trans rfl, (blk_cell BK101.out 6).trans rfl, (blk_cell BK101.out 7).trans rfl, (blk_cell BK101.out 8).trans rfl, (blk_cell BK101.out 9).trans rfl, (blk_cell BK101.out 10).trans rfl⟩ (fun hHeld => ?_)
                clear hK K
                refine norm_ (a' := ?_) ?_ ?_
                rotate_left
                ·show Act.put _ (some 57) _ = _
                 simp only [Act.put, xset_a, xset_z, xset_s, i64_w, i32_w]
                 rfl
                refine one_ (i := 4) (N := some 58) #[true, true, true, true, true, false] rfl rfl (by kernel_rfl) (by decide) (fun K hK => ?_)
                refine goes_ Try.func17 (by kernel_rfl) rfl #[.slice A0 l0.length c0, .agg #[.string x102000_3, .int .i64 x102001_3, .int .i64 x102002_3, .int .i64 x102003_3, .int .i64 x102004_3, .string x102005_3, .int .i64 x102006_3, .int .i64 x102007_3, .int .i64 x102008_3, .int .i64 x102009_3, .string x102010_3], .int .i64 t104] (by rfl) rfl rfl (by (try simp only [List.map_toArray, List.map_cons, List.map_nil]); first | done | rfl | (simp only [List.length_drop, List.length_take]; rfl)) ?_
                with_reducible refine (donjonlaw18_rules.calls k3 _ _ l0 x102000_3 x102001_3 x102002_3 x102003_3 x102004_3 x102005_3 x102006_3 x102007_3 x102008_3 x102009_3 x102010_3 t104 t105 _ ?side1 ?side2 A18.out).mono ?_
                (case side1 => repeat (first | exact (Kd.C_below HR0.out (bl_ HB.out)) | (with_reducible refine Kd.C_alloc ?_ _) | (with_reducible refine Kd.C_drewN ?_ _) | (with_reducible refine Kd.C_drew ?_)))
                (case side2 => exact HC0.out)
                rintro e w32 ⟨v106, rfl, ho0, hb⟩
                refine ⟨_, rfl, ?_⟩
                have n0_ := Aside0.mk (Kd.R_lower ho0 (below_size (bl_ HB.out)))
                have n1_ := Aside0.mk (blk_below (g := gb101) (o := .cells #[.string x102000_3, .int .i64 x102001_3, .int .i64 x102002_3, .int .i64 x102003_3, .int .i64 x102004_3, .string x102005_3, .int .i64 x102006_3, .int .i64 x102007_3, .int .i64 x102008_3, .int .i64 x102009_3, .string x102010_3] 28 (0, 0)) (bk_ BK101.out) hb)
                have n2_ := Aside0.mk (below_step (bl_ HB.out) hb)
                clear BK101 HB
                have HO107 := n0_; have BK101 := n1_; have HB := n2_
                clear n0_ n1_ n2_
                (try clear hb)
                (try clear hb2)
                (try clear hk)
                (try clear hi)
                (try clear ho0)
                refine hK.out _ _ ⟨(blk_cell BK101.out 0).trans rfl, (blk_cell BK101.out 1).trans rfl, (blk_cell BK101.out 2).trans rfl, (blk_cell BK101.out 3).trans rfl, (blk_cell BK101.out 4).trans rfl, (blk_cell BK101.out 5).trans rfl, (blk_cell BK101.out 6).trans rfl, (blk_cell BK101.out 7).trans rfl, (blk_cell BK101.out 8).trans rfl, (blk_cell BK101.out 9).trans rfl, (blk_cell BK101.out 10).trans rfl⟩ (fun hHeld => ?_)
                clear hK K
                refine norm_ (a' := ?_) ?_ ?_
                rotate_left
                ·show Act.put _ (some 58) _ = _
                 simp only [Act.put, xset_a, xset_z, xset_s, i64_w, i32_w]
                 rfl
                refine pure_ (i := 5) (N := some 9) (v := ?_) (a' := ?_) #[true, true, true, true, true, true] rfl rfl (by kernel_rfl) (fun _ _ _ h => h) (Or.inl ⟨by rfl, ?_⟩) ?_ ?_
                rotate_left
                ·intro w'
                 go_simp
                 with_reducible rfl
                rotate_left
                ·simp only [Act.put, xset_a, xset_z, xset_s, i64_w, i32_w]
                 rfl
                refine done_ (by kernel_rfl) ?_
                obtain ⟨hcz33_0, hcz33_1, hcz33_2, hcz33_3, hcz33_4, hcz33_5, hcz33_6, hcz33_7, hcz33_8, hcz33_9, hcz33_10⟩ := bcs11 BK101.out
                obtain ⟨hfz33_0, hfz33_1, hfz33_2, hfz33_3, hfz33_4, hfz33_5, hfz33_6, hfz33_7, hfz33_8, hfz33_9, hfz33_10⟩ := bfs11 BK101.out
                obtain ⟨Ao34, co34, eo34⟩ := Kd.R_slice HO107.out
                subst eo34
                try go_wp2_with (first | ((with_reducible refine gate_callee (f := 11) rfl ?_); refine goesL_ (some 62) rfl rfl Try.func11 (by kernel_rfl) rfl #[.slice Ao34 t105.length co34, .agg #[.string x102000_3, .int .i64 x102001_3, .int .i64 x102002_3, .int .i64 x102003_3, .int .i64 x102004_3, .string x102005_3, .int .i64 x102006_3, .int .i64 x102007_3, .int .i64 x102008_3, .int .i64 x102009_3, .string x102010_3]] rfl (by (try simp only [List.map_toArray, List.map_cons, List.map_nil]); first | done | rfl | (simp only [List.length_drop, List.length_take]; rfl)) ?_; (with_reducible refine (mail_Send.calls k3 _ _ t105 x102000_3 x102001_3 x102002_3 x102003_3 x102004_3 x102005_3 x102006_3 x102007_3 x102008_3 x102009_3 x102010_3 t108 t109 _ ?side1 ?side2 A19.out).mono ?_); (case side1 => repeat (first | exact (Kd.R_reads' HO107.out).2.2 | (with_reducible refine Kd.C_alloc ?_ _) | (with_reducible refine Kd.C_drewN ?_ _) | (with_reducible refine Kd.C_drew ?_))); (case side2 => exact (Kd.R_reads' HO107.out).2.1); rintro e w35 ⟨rfl, hb⟩; refine ⟨_, rfl, ?_⟩; have n0_ := Aside0.mk (Kd.R_below (kr_ HO107.out) hb); have n1_ := Aside0.mk (blk_below (g := gb101) (o := .cells #[.string x102000_3, .int .i64 x102001_3, .int .i64 x102002_3, .int .i64 x102003_3, .int .i64 x102004_3, .string x102005_3, .int .i64 x102006_3, .int .i64 x102007_3, .int .i64 x102008_3, .int .i64 x102009_3, .string x102010_3] 28 (0, 0)) (bk_ BK101.out) hb); have n2_ := Aside0.mk (below_step (bl_ HB.out) hb); clear HO107 BK101 HB; have HO107 := n0_; have BK101 := n1_; have HB := n2_; clear n0_ n1_ n2_; (try clear hb); (try clear hb2); (try clear hk); (try clear hi); obtain ⟨hcz36_0, hcz36_1, hcz36_2, hcz36_3, hcz36_4, hcz36_5, hcz36_6, hcz36_7, hcz36_8, hcz36_9, hcz36_10⟩ := bcs11 BK101.out; obtain ⟨hfz36_0, hfz36_1, hfz36_2, hfz36_3, hfz36_4, hfz36_5, hfz36_6, hfz36_7, hfz36_8, hfz36_9, hfz36_10⟩ := bfs11 BK101.out) | ((with_reducible refine gate_callee (f := 18) rfl ?_); refine goesL_ (some 68) rfl rfl Try.func18 (by kernel_rfl) rfl #[.slice Ao34 t105.length co34, .agg #[.string x102000_3, .int .i64 x102001_3, .int .i64 x102002_3, .int .i64 x102003_3, .int .i64 x102004_3, .string x102005_3, .int .i64 x102006_3, .int .i64 x102007_3, .int .i64 x102008_3, .int .i64 x102009_3, .string x102010_3]] rfl (by (try simp only [List.map_toArray, List.map_cons, List.map_nil]); first | done | rfl | (simp only [List.length_drop, List.length_take]; rfl)) ?_; (with_reducible refine (donjonref18_Send.calls k3 _ _ t105 x102000_3 x102001_3 x102002_3 x102003_3 x102004_3 x102005_3 x102006_3 x102007_3 x102008_3 x102009_3 x102010_3 t110 t111 _ ?side1 ?side2 A20.out).mono ?_); (case side1 => repeat (first | exact (Kd.R_reads' HO107.out).2.2 | (with_reducible refine Kd.C_alloc ?_ _) | (with_reducible refine Kd.C_drewN ?_ _) | (with_reducible refine Kd.C_drew ?_))); (case side2 => exact (Kd.R_reads' HO107.out).2.1); rintro e w37 ⟨rfl, hb⟩; refine ⟨_, rfl, ?_⟩; have n0_ := Aside0.mk (Kd.R_below (kr_ HO107.out) hb); have n1_ := Aside0.mk (blk_below (g := gb101) (o := .cells #[.string x102000_3, .int .i64 x102001_3, .int .i64 x102002_3, .int .i64 x102003_3, .int .i64 x102004_3, .string x102005_3, .int .i64 x102006_3, .int .i64 x102007_3, .int .i64 x102008_3, .int .i64 x102009_3, .string x102010_3] 28 (0, 0)) (bk_ BK101.out) hb); have n2_ := Aside0.mk (below_step (bl_ HB.out) hb); clear HO107 BK101 HB; have HO107 := n0_; have BK101 := n1_; have HB := n2_; clear n0_ n1_ n2_; (try clear hb); (try clear hb2); (try clear hk); (try clear hi); obtain ⟨hcz38_0, hcz38_1, hcz38_2, hcz38_3, hcz38_4, hcz38_5, hcz38_6, hcz38_7, hcz38_8, hcz38_9, hcz38_10⟩ := bcs11 BK101.out; obtain ⟨hfz38_0, hfz38_1, hfz38_2, hfz38_3, hfz38_4, hfz38_5, hfz38_6, hfz38_7, hfz38_8, hfz38_9, hfz38_10⟩ := bfs11 BK101.out) | ((with_reducible refine gate_callee (f := 19) rfl ?_); refine goesL_ (some 74) rfl rfl Try.func19 (by kernel_rfl) rfl #[.slice Ao34 t105.length co34, .agg #[.string x102000_3, .int .i64 x102001_3, .int .i64 x102002_3, .int .i64 x102003_3, .int .i64 x102004_3, .string x102005_3, .int .i64 x102006_3, .int .i64 x102007_3, .int .i64 x102008_3, .int .i64 x102009_3, .string x102010_3]] rfl (by (try simp only [List.map_toArray, List.map_cons, List.map_nil]); first | done | rfl | (simp only [List.length_drop, List.length_take]; rfl)) ?_; (with_reducible refine (mail_Rule.calls k3 _ _ t105 x102000_3 x102001_3 x102002_3 x102003_3 x102004_3 x102005_3 x102006_3 x102007_3 x102008_3 x102009_3 x102010_3 t112 t113 t114 t115 t116 t117 t118 t119 t120 t121 _ ?side1 ?side2 A21.out).mono ?_); (case side1 => repeat (first | exact (Kd.R_reads' HO107.out).2.2 | (with_reducible refine Kd.C_alloc ?_ _) | (with_reducible refine Kd.C_drewN ?_ _) | (with_reducible refine Kd.C_drew ?_))); (case side2 => exact (Kd.R_reads' HO107.out).2.1); rintro e w39 ⟨rfl, hb⟩; refine ⟨_, rfl, ?_⟩; have n0_ := Aside0.mk (Kd.R_below (kr_ HO107.out) hb); have n1_ := Aside0.mk (blk_below (g := gb101) (o := .cells #[.string x102000_3, .int .i64 x102001_3, .int .i64 x102002_3, .int .i64 x102003_3, .int .i64 x102004_3, .string x102005_3, .int .i64 x102006_3, .int .i64 x102007_3, .int .i64 x102008_3, .int .i64 x102009_3, .string x102010_3] 28 (0, 0)) (bk_ BK101.out) hb); have n2_ := Aside0.mk (below_step (bl_ HB.out) hb); clear HO107 BK101 HB; have HO107 := n0_; have BK101 := n1_; have HB := n2_; clear n0_ n1_ n2_; (try clear hb); (try clear hb2); (try clear hk); (try clear hi)) | ((with_reducible refine gate_dst (N := 14) rfl ?_); (try (refine gate_guard (by rfl) ?_; dsimp only)); refine box_event ?hg (N := 14) ?hd (cs := #[.int .i64 0, .int .i64 0, .int .i64 0, .int .i64 0, .int .i64 0, .int .i64 0, .int .i64 0, .int .i64 0, .string ⟨#[]⟩]) (t := 44) ?hr ?_; (case hd => rfl); (case hg => rfl); (case hr => first | (go_simp; done) | (go_simp; rfl)); intro gb122 hg w40 hbox hb; have n0_ := Aside0.mk (Kd.R_below (Kd.R_elderB (kr_ HO107.out) gb122 (Nat.le_of_eq hg.symm)) hb); have n1_ := Aside0.mk (blk_below (g := gb101) (o := .cells #[.string x102000_3, .int .i64 x102001_3, .int .i64 x102002_3, .int .i64 x102003_3, .int .i64 x102004_3, .string x102005_3, .int .i64 x102006_3, .int .i64 x102007_3, .int .i64 x102008_3, .int .i64 x102009_3, .string x102010_3] 28 (0, 0)) (bk_ BK101.out) hb); have n2_ := Aside0.mk (below_step (bl_ HB.out) hb); have n3_ := Aside0.mk (hbox); have n4_ := Aside0.mk ((by rw [hg]; exact (below_size (bl_ HB.out)) : w.heap.size ≤ gb122)); have n5_ := Aside0.mk ((by rw [hg]; exact (below_size (bl_ HB.out)) : w.heap.size ≤ gb122)); have n6_ := Aside0.mk ((by rw [hg]; exact Nat.ne_of_lt (blk_lt (g := gb101) (o := .cells #[.string x102000_3, .int .i64 x102001_3, .int .i64 x102002_3, .int .i64 x102003_3, .int .i64 x102004_3, .string x102005_3, .int .i64 x102006_3, .int .i64 x102007_3, .int .i64 x102008_3, .int .i64 x102009_3, .string x102010_3] 28 (0, 0)) (bk_ BK101.out)) : gb101 ≠ gb122)); have n7_ := Aside0.mk ((by rw [hg]; exact Nat.ne_of_gt (blk_lt (g := gb101) (o := .cells #[.string x102000_3, .int .i64 x102001_3, .int .i64 x102002_3, .int .i64 x102003_3, .int .i64 x102004_3, .string x102005_3, .int .i64 x102006_3, .int .i64 x102007_3, .int .i64 x102008_3, .int .i64 x102009_3, .string x102010_3] 28 (0, 0)) (bk_ BK101.out)) : gb122 ≠ gb101)); clear HO107 BK101 HB; have HO107 := n0_; have BK101 := n1_; have HB := n2_; have BK122 := n3_; have GW122 := n4_; have GE122 := n5_; have NB101_122 := n6_; have NB122_101 := n7_; clear n0_ n1_ n2_ n3_ n4_ n5_ n6_ n7_; clear hb hbox hg; have hnb41 := NB122_101.out; have hnc41 := NB101_122.out; obtain ⟨hcz42_0, hcz42_1, hcz42_2, hcz42_3, hcz42_4, hcz42_5, hcz42_6, hcz42_7, hcz42_8⟩ := bcs9 BK122.out; obtain ⟨hfz42_0, hfz42_1, hfz42_2, hfz42_3, hfz42_4, hfz42_5, hfz42_6, hfz42_7, hfz42_8⟩ := bfs9 BK122.out; obtain ⟨hcz43_0, hcz43_1, hcz43_2, hcz43_3, hcz43_4, hcz43_5, hcz43_6, hcz43_7, hcz43_8, hcz43_9, hcz43_10⟩ := bcs11 BK101.out; obtain ⟨hfz43_0, hfz43_1, hfz43_2, hfz43_3, hfz43_4, hfz43_5, hfz43_6, hfz43_7, hfz43_8, hfz43_9, hfz43_10⟩ := bfs11 BK101.out) | ((with_reducible refine gate_callee (f := 20) rfl ?_); refine goesL_ (some 80) rfl rfl Try.func20 (by kernel_rfl) rfl #[.slice Ao34 t105.length co34, .agg #[.string x102000_3, .int .i64 x102001_3, .int .i64 x102002_3, .int .i64 x102003_3, .int .i64 x102004_3, .string x102005_3, .int .i64 x102006_3, .int .i64 x102007_3, .int .i64 x102008_3, .int .i64 x102009_3, .string x102010_3]] rfl (by (try simp only [List.map_toArray, List.map_cons, List.map_nil]); first | done | rfl | (simp only [List.length_drop, List.length_take]; rfl)) ?_; (with_reducible refine (donjonref18_Rule.calls k3 _ _ t105 x102000_3 x102001_3 x102002_3 x102003_3 x102004_3 x102005_3 x102006_3 x102007_3 x102008_3 x102009_3 x102010_3 t123 t124 t125 t126 t127 t128 t129 t130 t131 t132 _ ?side1 ?side2 A22.out).mono ?_); (case side1 => refine (Kd.R_reads' (e := 44) (base := w.heap.size) (ok := fun k_ => (True ∧ k_ ≠ gb122)) (n := t105.length) (c := co34) ?_).2.2; exact (by (with_reducible repeat (first | apply Kd.R_alloc | apply Kd.R_drewN | apply Kd.R_drew)); exact (Kd.R_mono (Kd.R_far (p := ⟨gb122, 8, none⟩) (Kd.R_far (p := ⟨gb122, 7, none⟩) (Kd.R_far (p := ⟨gb122, 6, none⟩) (Kd.R_far (p := ⟨gb122, 5, none⟩) (Kd.R_far (p := ⟨gb122, 4, none⟩) (Kd.R_far (p := ⟨gb122, 3, none⟩) (Kd.R_far (p := ⟨gb122, 2, none⟩) (Kd.R_far (p := ⟨gb122, 1, none⟩) (Kd.R_far (p := ⟨gb122, 0, none⟩) (Kd.R_mono HO107.out (fun k_ hk => (⟨hk, hk.2⟩ : _ ∧ k_ ≠ gb122))) (fun _ hk => hk.2) (.int .i64 t112)) (fun _ hk => hk.2) (.int .i64 t113)) (fun _ hk => hk.2) (.int .i64 t114)) (fun _ hk => hk.2) (.int .i64 t115)) (fun _ hk => hk.2) (.int .i64 t116)) (fun _ hk => hk.2) (.int .i64 t117)) (fun _ hk => hk.2) (.int .i64 t118)) (fun _ hk => hk.2) (.int .i64 t119)) (fun _ hk => hk.2) (.string t120)) (fun _ h_ => h_.1)))); (case side2 => exact (Kd.R_reads' HO107.out).2.1); rintro e w44 ⟨rfl, hb⟩; refine ⟨_, rfl, ?_⟩; have n0_ := Aside0.mk (Kd.R_below (by (with_reducible repeat (first | apply Kd.R_alloc | apply Kd.R_drewN | apply Kd.R_drew)); exact (Kd.R_mono (Kd.R_far (p := ⟨gb122, 8, none⟩) (Kd.R_far (p := ⟨gb122, 7, none⟩) (Kd.R_far (p := ⟨gb122, 6, none⟩) (Kd.R_far (p := ⟨gb122, 5, none⟩) (Kd.R_far (p := ⟨gb122, 4, none⟩) (Kd.R_far (p := ⟨gb122, 3, none⟩) (Kd.R_far (p := ⟨gb122, 2, none⟩) (Kd.R_far (p := ⟨gb122, 1, none⟩) (Kd.R_far (p := ⟨gb122, 0, none⟩) (Kd.R_mono HO107.out (fun k_ hk => (⟨hk, hk.2⟩ : _ ∧ k_ ≠ gb122))) (fun _ hk => hk.2) (.int .i64 t112)) (fun _ hk => hk.2) (.int .i64 t113)) (fun _ hk => hk.2) (.int .i64 t114)) (fun _ hk => hk.2) (.int .i64 t115)) (fun _ hk => hk.2) (.int .i64 t116)) (fun _ hk => hk.2) (.int .i64 t117)) (fun _ hk => hk.2) (.int .i64 t118)) (fun _ hk => hk.2) (.int .i64 t119)) (fun _ hk => hk.2) (.string t120)) (fun _ h_ => h_.1))) hb); have n1_ := Aside0.mk (blk_below (g := gb101) (o := .cells #[.string x102000_3, .int .i64 x102001_3, .int .i64 x102002_3, .int .i64 x102003_3, .int .i64 x102004_3, .string x102005_3, .int .i64 x102006_3, .int .i64 x102007_3, .int .i64 x102008_3, .int .i64 x102009_3, .string x102010_3] 28 (0, 0)) (by (iterate 9 ((with_reducible repeat (first | refine blk_drewN ?_ _ | refine blk_drew ?_ | refine blk_alloc ?_ _)); refine blk_far ?_ NB101_122.out _)); (with_reducible repeat (first | refine blk_drewN ?_ _ | refine blk_drew ?_ | refine blk_alloc ?_ _)); exact BK101.out) hb); have n2_ := Aside0.mk (blk_below (g := gb122) (o := .cells #[.int .i64 t112, .int .i64 t113, .int .i64 t114, .int .i64 t115, .int .i64 t116, .int .i64 t117, .int .i64 t118, .int .i64 t119, .string t120] 44 (0, 0)) (by (with_reducible repeat (first | refine blk_drewN ?_ _ | refine blk_drew ?_ | refine blk_alloc ?_ _)); refine puts9 (cs := #[.int .i64 0, .int .i64 0, .int .i64 0, .int .i64 0, .int .i64 0, .int .i64 0, .int .i64 0, .int .i64 0, .string ⟨#[]⟩]) ?_ rfl; (with_reducible repeat (first | refine blk_drewN ?_ _ | refine blk_drew ?_ | refine blk_alloc ?_ _)); exact BK122.out) hb); have n3_ := Aside0.mk (below_step (bl_ HB.out) hb); clear HO107 BK101 BK122 HB; have HO107 := n0_; have BK101 := n1_; have BK122 := n2_; have HB := n3_; clear n0_ n1_ n2_ n3_; (try clear hb); (try clear hb2); (try clear hk); (try clear hi)) | ((with_reducible refine gate_dst (N := 16) rfl ?_); (try (refine gate_guard (by rfl) ?_; dsimp only)); refine box_event ?hg (N := 16) ?hd (cs := #[.int .i64 0, .int .i64 0, .int .i64 0, .int .i64 0, .int .i64 0, .int .i64 0, .int .i64 0, .int .i64 0, .string ⟨#[]⟩]) (t := 44) ?hr ?_; (case hd => rfl); (case hg => rfl); (case hr => first | (go_simp; done) | (go_simp; rfl)); intro gb133 hg w45 hbox hb; have n0_ := Aside0.mk (Kd.R_below (Kd.R_elderB (kr_ HO107.out) gb133 (Nat.le_of_eq hg.symm)) hb); have n1_ := Aside0.mk (blk_below (g := gb101) (o := .cells #[.string x102000_3, .int .i64 x102001_3, .int .i64 x102002_3, .int .i64 x102003_3, .int .i64 x102004_3, .string x102005_3, .int .i64 x102006_3, .int .i64 x102007_3, .int .i64 x102008_3, .int .i64 x102009_3, .string x102010_3] 28 (0, 0)) (bk_ BK101.out) hb); have n2_ := Aside0.mk (blk_below (g := gb122) (o := .cells #[.int .i64 t112, .int .i64 t113, .int .i64 t114, .int .i64 t115, .int .i64 t116, .int .i64 t117, .int .i64 t118, .int .i64 t119, .string t120] 44 (0, 0)) (bk_ BK122.out) hb); have n3_ := Aside0.mk (below_step (bl_ HB.out) hb); have n4_ := Aside0.mk (hbox); have n5_ := Aside0.mk ((by rw [hg]; exact (below_size (bl_ HB.out)) : w.heap.size ≤ gb133)); have n6_ := Aside0.mk ((by rw [hg]; exact (below_size (bl_ HB.out)) : w.heap.size ≤ gb133)); have n7_ := Aside0.mk ((by rw [hg]; exact Nat.ne_of_lt (blk_lt (g := gb101) (o := .cells #[.string x102000_3, .int .i64 x102001_3, .int .i64 x102002_3, .int .i64 x102003_3, .int .i64 x102004_3, .string x102005_3, .int .i64 x102006_3, .int .i64 x102007_3, .int .i64 x102008_3, .int .i64 x102009_3, .string x102010_3] 28 (0, 0)) (bk_ BK101.out)) : gb101 ≠ gb133)); have n8_ := Aside0.mk ((by rw [hg]; exact Nat.ne_of_gt (blk_lt (g := gb101) (o := .cells #[.string x102000_3, .int .i64 x102001_3, .int .i64 x102002_3, .int .i64 x102003_3, .int .i64 x102004_3, .string x102005_3, .int .i64 x102006_3, .int .i64 x102007_3, .int .i64 x102008_3, .int .i64 x102009_3, .string x102010_3] 28 (0, 0)) (bk_ BK101.out)) : gb133 ≠ gb101)); have n9_ := Aside0.mk ((by rw [hg]; exact Nat.ne_of_lt (blk_lt (g := gb122) (o := .cells #[.int .i64 t112, .int .i64 t113, .int .i64 t114, .int .i64 t115, .int .i64 t116, .int .i64 t117, .int .i64 t118, .int .i64 t119, .string t120] 44 (0, 0)) (bk_ BK122.out)) : gb122 ≠ gb133)); have n10_ := Aside0.mk ((by rw [hg]; exact Nat.ne_of_gt (blk_lt (g := gb122) (o := .cells #[.int .i64 t112, .int .i64 t113, .int .i64 t114, .int .i64 t115, .int .i64 t116, .int .i64 t117, .int .i64 t118, .int .i64 t119, .string t120] 44 (0, 0)) (bk_ BK122.out)) : gb133 ≠ gb122)); clear HO107 BK101 BK122 HB; have HO107 := n0_; have BK101 := n1_; have BK122 := n2_; have HB := n3_; have BK133 := n4_; have GW133 := n5_; have GE133 := n6_; have NB101_133 := n7_; have NB133_101 := n8_; have NB122_133 := n9_; have NB133_122 := n10_; clear n0_ n1_ n2_ n3_ n4_ n5_ n6_ n7_ n8_ n9_ n10_; clear hb hbox hg; have hnb46 := NB133_101.out; have hnc46 := NB101_133.out; have hnb47 := NB133_122.out; have hnc47 := NB122_133.out; obtain ⟨hcz48_0, hcz48_1, hcz48_2, hcz48_3, hcz48_4, hcz48_5, hcz48_6, hcz48_7, hcz48_8⟩ := bcs9 BK133.out; obtain ⟨hfz48_0, hfz48_1, hfz48_2, hfz48_3, hfz48_4, hfz48_5, hfz48_6, hfz48_7, hfz48_8⟩ := bfs9 BK133.out))
                have n0_ : Aside0 (Kd.R k44 44 (((((((((w45.setCell ⟨gb133, 0, none⟩ (.int .i64 t123)).setCell ⟨gb133, 1, none⟩ (.int .i64 t124)).setCell ⟨gb133, 2, none⟩ (.int .i64 t125)).setCell ⟨gb133, 3, none⟩ (.int .i64 t126)).setCell ⟨gb133, 4, none⟩ (.int .i64 t127)).setCell ⟨gb133, 5, none⟩ (.int .i64 t128)).setCell ⟨gb133, 6, none⟩ (.int .i64 t129)).setCell ⟨gb133, 7, none⟩ (.int .i64 t130)).setCell ⟨gb133, 8, none⟩ (.string t131)) w.heap.size (fun k_ => k_ ≠ gb122 ∧ k_ ≠ gb133) (.slice Ao34 t105.length co34) t105) := ⟨by (with_reducible repeat (first | apply Kd.R_alloc | apply Kd.R_drewN | apply Kd.R_drew)); exact Kd.R_mono (Kd.R_far (p := ⟨gb133, 8, none⟩) (Kd.R_far (p := ⟨gb133, 7, none⟩) (Kd.R_far (p := ⟨gb133, 6, none⟩) (Kd.R_far (p := ⟨gb133, 5, none⟩) (Kd.R_far (p := ⟨gb133, 4, none⟩) (Kd.R_far (p := ⟨gb133, 3, none⟩) (Kd.R_far (p := ⟨gb133, 2, none⟩) (Kd.R_far (p := ⟨gb133, 1, none⟩) (Kd.R_far (p := ⟨gb133, 0, none⟩) (Kd.R_mono HO107.out (fun k_ hk => (⟨hk, hk.2⟩ : _ ∧ k_ ≠ gb133))) (fun _ hk => hk.2) (.int .i64 t123)) (fun _ hk => hk.2) (.int .i64 t124)) (fun _ hk => hk.2) (.int .i64 t125)) (fun _ hk => hk.2) (.int .i64 t126)) (fun _ hk => hk.2) (.int .i64 t127)) (fun _ hk => hk.2) (.int .i64 t128)) (fun _ hk => hk.2) (.int .i64 t129)) (fun _ hk => hk.2) (.int .i64 t130)) (fun _ hk => hk.2) (.string t131)) (fun _ hk => ⟨hk.1.1.2, hk.1.2⟩)⟩
                have n1_ : Aside0 ((((((((((w45.setCell ⟨gb133, 0, none⟩ (.int .i64 t123)).setCell ⟨gb133, 1, none⟩ (.int .i64 t124)).setCell ⟨gb133, 2, none⟩ (.int .i64 t125)).setCell ⟨gb133, 3, none⟩ (.int .i64 t126)).setCell ⟨gb133, 4, none⟩ (.int .i64 t127)).setCell ⟨gb133, 5, none⟩ (.int .i64 t128)).setCell ⟨gb133, 6, none⟩ (.int .i64 t129)).setCell ⟨gb133, 7, none⟩ (.int .i64 t130)).setCell ⟨gb133, 8, none⟩ (.string t131)).heap[gb101]? = some (.cells #[.string x102000_3, .int .i64 x102001_3, .int .i64 x102002_3, .int .i64 x102003_3, .int .i64 x102004_3, .string x102005_3, .int .i64 x102006_3, .int .i64 x102007_3, .int .i64 x102008_3, .int .i64 x102009_3, .string x102010_3] 28 (0, 0))) := ⟨by (iterate 9 ((with_reducible repeat (first | refine blk_drewN ?_ _ | refine blk_drew ?_ | refine blk_alloc ?_ _)); refine blk_far ?_ NB101_133.out _)); (with_reducible repeat (first | refine blk_drewN ?_ _ | refine blk_drew ?_ | refine blk_alloc ?_ _)); exact BK101.out⟩
                have n2_ : Aside0 ((((((((((w45.setCell ⟨gb133, 0, none⟩ (.int .i64 t123)).setCell ⟨gb133, 1, none⟩ (.int .i64 t124)).setCell ⟨gb133, 2, none⟩ (.int .i64 t125)).setCell ⟨gb133, 3, none⟩ (.int .i64 t126)).setCell ⟨gb133, 4, none⟩ (.int .i64 t127)).setCell ⟨gb133, 5, none⟩ (.int .i64 t128)).setCell ⟨gb133, 6, none⟩ (.int .i64 t129)).setCell ⟨gb133, 7, none⟩ (.int .i64 t130)).setCell ⟨gb133, 8, none⟩ (.string t131)).heap[gb122]? = some (.cells #[.int .i64 t112, .int .i64 t113, .int .i64 t114, .int .i64 t115, .int .i64 t116, .int .i64 t117, .int .i64 t118, .int .i64 t119, .string t120] 44 (0, 0))) := ⟨by (iterate 9 ((with_reducible repeat (first | refine blk_drewN ?_ _ | refine blk_drew ?_ | refine blk_alloc ?_ _)); refine blk_far ?_ NB122_133.out _)); (with_reducible repeat (first | refine blk_drewN ?_ _ | refine blk_drew ?_ | refine blk_alloc ?_ _)); exact BK122.out⟩
                have n3_ : Aside0 ((((((((((w45.setCell ⟨gb133, 0, none⟩ (.int .i64 t123)).setCell ⟨gb133, 1, none⟩ (.int .i64 t124)).setCell ⟨gb133, 2, none⟩ (.int .i64 t125)).setCell ⟨gb133, 3, none⟩ (.int .i64 t126)).setCell ⟨gb133, 4, none⟩ (.int .i64 t127)).setCell ⟨gb133, 5, none⟩ (.int .i64 t128)).setCell ⟨gb133, 6, none⟩ (.int .i64 t129)).setCell ⟨gb133, 7, none⟩ (.int .i64 t130)).setCell ⟨gb133, 8, none⟩ (.string t131)).heap[gb133]? = some (.cells #[.int .i64 t123, .int .i64 t124, .int .i64 t125, .int .i64 t126, .int .i64 t127, .int .i64 t128, .int .i64 t129, .int .i64 t130, .string t131] 44 (0, 0))) := ⟨by (with_reducible repeat (first | refine blk_drewN ?_ _ | refine blk_drew ?_ | refine blk_alloc ?_ _)); refine puts9 (cs := #[.int .i64 0, .int .i64 0, .int .i64 0, .int .i64 0, .int .i64 0, .int .i64 0, .int .i64 0, .int .i64 0, .string ⟨#[]⟩]) ?_ rfl; (with_reducible repeat (first | refine blk_drewN ?_ _ | refine blk_drew ?_ | refine blk_alloc ?_ _)); exact BK133.out⟩
                have n4_ : Aside0 (Below w.heap.size w (((((((((w45.setCell ⟨gb133, 0, none⟩ (.int .i64 t123)).setCell ⟨gb133, 1, none⟩ (.int .i64 t124)).setCell ⟨gb133, 2, none⟩ (.int .i64 t125)).setCell ⟨gb133, 3, none⟩ (.int .i64 t126)).setCell ⟨gb133, 4, none⟩ (.int .i64 t127)).setCell ⟨gb133, 5, none⟩ (.int .i64 t128)).setCell ⟨gb133, 6, none⟩ (.int .i64 t129)).setCell ⟨gb133, 7, none⟩ (.int .i64 t130)).setCell ⟨gb133, 8, none⟩ (.string t131))) := ⟨by repeat (first | (with_reducible first | exact HB.out | apply below_alloc | apply pw_below_drewN | apply below_drew1 | refine below_set ?_ GE101.out | refine below_set ?_ GE122.out | refine below_set ?_ GE133.out) | exact HB.out)⟩
                (try clear HO107)
                (try clear BK101)
                (try clear BK122)
                (try clear BK133)
                (try clear HB)
                generalize (((((((((w45.setCell ⟨gb133, 0, none⟩ (.int .i64 t123)).setCell ⟨gb133, 1, none⟩ (.int .i64 t124)).setCell ⟨gb133, 2, none⟩ (.int .i64 t125)).setCell ⟨gb133, 3, none⟩ (.int .i64 t126)).setCell ⟨gb133, 4, none⟩ (.int .i64 t127)).setCell ⟨gb133, 5, none⟩ (.int .i64 t128)).setCell ⟨gb133, 6, none⟩ (.int .i64 t129)).setCell ⟨gb133, 7, none⟩ (.int .i64 t130)).setCell ⟨gb133, 8, none⟩ (.string t131)) = w49 at n0_ n1_ n2_ n3_ n4_ ⊢
                have HO107 := n0_; have BK101 := n1_; have BK122 := n2_; have BK133 := n3_; have HB := n4_
                clear n0_ n1_ n2_ n3_ n4_
                have n0_ := Aside0.mk (Kd.R_drew HO107.out)
                have n1_ := Aside0.mk (blk_drew BK101.out)
                have n2_ := Aside0.mk (blk_drew BK122.out)
                have n3_ := Aside0.mk (blk_drew BK133.out)
                have n4_ := Aside0.mk (below_drew1 HB.out)
                clear HO107 BK101 BK122 BK133 HB
                have HO107 := n0_; have BK101 := n1_; have BK122 := n2_; have BK133 := n3_; have HB := n4_
                clear n0_ n1_ n2_ n3_ n4_
                refine start_ (n := 27) (S := fun w' => w'.cell? ⟨gb122, 0, none⟩ = some (.int .i64 t112) ∧ w'.cell? ⟨gb122, 1, none⟩ = some (.int .i64 t113) ∧ w'.cell? ⟨gb122, 2, none⟩ = some (.int .i64 t114) ∧ w'.cell? ⟨gb122, 3, none⟩ = some (.int .i64 t115) ∧ w'.cell? ⟨gb122, 4, none⟩ = some (.int .i64 t116) ∧ w'.cell? ⟨gb122, 5, none⟩ = some (.int .i64 t117) ∧ w'.cell? ⟨gb122, 6, none⟩ = some (.int .i64 t118) ∧ w'.cell? ⟨gb122, 7, none⟩ = some (.int .i64 t119) ∧ w'.cell? ⟨gb122, 8, none⟩ = some (.string t120) ∧ w'.cell? ⟨gb133, 0, none⟩ = some (.int .i64 t123) ∧ w'.cell? ⟨gb133, 1, none⟩ = some (.int .i64 t124) ∧ w'.cell? ⟨gb133, 2, none⟩ = some (.int .i64 t125) ∧ w'.cell? ⟨gb133, 3, none⟩ = some (.int .i64 t126) ∧ w'.cell? ⟨gb133, 4, none⟩ = some (.int .i64 t127) ∧ w'.cell? ⟨gb133, 5, none⟩ = some (.int .i64 t128) ∧ w'.cell? ⟨gb133, 6, none⟩ = some (.int .i64 t129) ∧ w'.cell? ⟨gb133, 7, none⟩ = some (.int .i64 t130) ∧ w'.cell? ⟨gb133, 8, none⟩ = some (.string t131) ∧ w'.cell? ⟨gb101, 0, none⟩ = some (.string x102000_3) ∧ w'.cell? ⟨gb101, 1, none⟩ = some (.int .i64 x102001_3) ∧ w'.cell? ⟨gb101, 2, none⟩ = some (.int .i64 x102002_3) ∧ w'.cell? ⟨gb101, 3, none⟩ = some (.int .i64 x102003_3) ∧ w'.cell? ⟨gb101, 4, none⟩ = some (.int .i64 x102004_3) ∧ w'.cell? ⟨gb101, 5, none⟩ = some (.string x102005_3) ∧ w'.cell? ⟨gb101, 6, none⟩ = some (.int .i64 x102006_3) ∧ w'.cell? ⟨gb101, 7, none⟩ = some (.int .i64 x102007_3) ∧ w'.cell? ⟨gb101, 8, none⟩ = some (.int .i64 x102008_3) ∧ w'.cell? ⟨gb101, 9, none⟩ = some (.int .i64 x102009_3) ∧ w'.cell? ⟨gb101, 10, none⟩ = some (.string x102010_3)) (ds := []) #[false, false, false, false, false, false, false, false, false, false, false, false, false, false, false, false, false, false, false, false, false, false, false, false, false, false, false] (by kernel_rfl) rfl rfl ⟨(blk_cell BK122.out 0).trans rfl, (blk_cell BK122.out 1).trans rfl, (blk_cell BK122.out 2).trans rfl, (blk_cell BK122.out 3).trans rfl, (blk_cell BK122.out 4).trans rfl, (blk_cell BK122.out 5).trans rfl, (blk_cell BK122.out 6).trans rfl, (blk_cell BK122.out 7).trans rfl, (blk_cell BK122.out 8).trans rfl, (blk_cell BK133.out 0).trans rfl, (blk_cell BK133.out 1).trans rfl, (blk_cell BK133.out 2).trans rfl, (blk_cell BK133.out 3).trans rfl, (blk_cell BK133.out 4).trans rfl, (blk_cell BK133.out 5).trans rfl, (blk_cell BK133.out 6).trans rfl, (blk_cell BK133.out 7).trans rfl, (blk_cell BK133.out 8).trans rfl, (blk_cell BK101.out 0).trans rfl, (blk_cell BK101.out 1).trans rfl, (blk_cell BK101.out 2).trans rfl, (blk_cell BK101.out 3).trans rfl, (blk_cell BK101.out 4).trans rfl, (blk_cell BK101.out 5).trans rfl, (blk_cell BK101.out 6).trans rfl, (blk_cell BK101.out 7).trans rfl, (blk_cell BK101.out 8).trans rfl, (blk_cell BK101.out 9).trans rfl, (blk_cell BK101.out 10).trans rfl⟩ (fun hHeld => ?_); refine with_tabW donjonlaw18_MailSends.tab18 donjonlaw18_MailSends.bits18 (fun HT_ HW_ => ?_)
                generalize w49.drew = w50 at HO107 BK101 BK122 BK133 HB hHeld ⊢
                refine pure_ (i := 0) (N := some 83) (v := ?_) (a' := ?_) #[true, false, false, false, false, false, false, false, false, false, false, false, false, false, false, false, false, false, false, false, false, false, false, false, false, false, false] rfl rfl (any_of HT_.out (by kernel_rfl)) (fun _ _ _ h => h) (Or.inl ⟨by rfl, ?_⟩) ?_ ?_
                rotate_left
                ·intro w'
                 go_simp
                 with_reducible rfl
                rotate_left
                ·simp only [Act.put, xset_a, xset_z, xset_s, i64_w, i32_w]
                 rfl
                refine pure_ (i := 1) (N := some 84) (v := ?_) (a' := ?_) #[true, true, false, false, false, false, false, false, false, false, false, false, false, false, false, false, false, false, false, false, false, false, false, false, false, false, false] rfl rfl (any_of HT_.out (by kernel_rfl)) (fun _ _ _ h => h) (Or.inl ⟨by rfl, ?_⟩) ?_ ?_
                rotate_left
                ·intro w'
                 go_simp
                 with_reducible rfl
                rotate_left
                ·simp only [Act.put, xset_a, xset_z, xset_s, i64_w, i32_w]
                 rfl
                refine pure_ (i := 2) (N := some 85) (v := ?_) (a' := ?_) #[true, true, true, false, false, false, false, false, false, false, false, false, false, false, false, false, false, false, false, false, false, false, false, false, false, false, false] rfl rfl (any_of HT_.out (by kernel_rfl)) (fun _ _ _ h => h) (Or.inl ⟨by rfl, ?_⟩) ?_ ?_
                rotate_left
                ·intro w'
                 go_simp
                 with_reducible rfl
                rotate_left
                ·simp only [Act.put, xset_a, xset_z, xset_s, i64_w, i32_w]
                 rfl
                refine pure_ (i := 3) (N := some 86) (v := ?_) (a' := ?_) #[true, true, true, true, false, false, false, false, false, false, false, false, false, false, false, false, false, false, false, false, false, false, false, false, false, false, false] rfl rfl (any_of HT_.out (by kernel_rfl)) (fun _ _ _ h => h) (Or.inl ⟨by rfl, ?_⟩) ?_ ?_
                rotate_left
                ·intro w'
                 go_simp
                 with_reducible rfl
                rotate_left
                ·simp only [Act.put, xset_a, xset_z, xset_s, i64_w, i32_w]
                 rfl
                refine pure_ (i := 4) (N := some 87) (v := ?_) (a' := ?_) #[true, true, true, true, true, false, false, false, false, false, false, false, false, false, false, false, false, false, false, false, false, false, false, false, false, false, false] rfl rfl (any_of HT_.out (by kernel_rfl)) (fun _ _ _ h => h) (Or.inl ⟨by rfl, ?_⟩) ?_ ?_
                rotate_left
                ·intro w'
                 go_simp
                 with_reducible rfl
                rotate_left
                ·simp only [Act.put, xset_a, xset_z, xset_s, i64_w, i32_w]
                 rfl
                refine pure_ (i := 5) (N := some 88) (v := ?_) (a' := ?_) #[true, true, true, true, true, true, false, false, false, false, false, false, false, false, false, false, false, false, false, false, false, false, false, false, false, false, false] rfl rfl (any_of HT_.out (by kernel_rfl)) (fun _ _ _ h => h) (Or.inl ⟨by rfl, ?_⟩) ?_ ?_
                rotate_left
                ·intro w'
                 go_simp
                 with_reducible rfl
                rotate_left
                ·simp only [Act.put, xset_a, xset_z, xset_s, i64_w, i32_w]
                 rfl
                refine pure_ (i := 6) (N := some 89) (v := ?_) (a' := ?_) #[true, true, true, true, true, true, true, false, false, false, false, false, false, false, false, false, false, false, false, false, false, false, false, false, false, false, false] rfl rfl (any_of HT_.out (by kernel_rfl)) (fun _ _ _ h => h) (Or.inl ⟨by rfl, ?_⟩) ?_ ?_
                rotate_left
                ·intro w'
                 go_simp
                 with_reducible rfl
                rotate_left
                ·simp only [Act.put, xset_a, xset_z, xset_s, i64_w, i32_w]
                 rfl
                refine pure_ (i := 7) (N := some 90) (v := ?_) (a' := ?_) #[true, true, true, true, true, true, true, true, false, false, false, false, false, false, false, false, false, false, false, false, false, false, false, false, false, false, false] rfl rfl (any_of HT_.out (by kernel_rfl)) (fun _ _ _ h => h) (Or.inl ⟨by rfl, ?_⟩) ?_ ?_
                rotate_left
                ·intro w'
                 go_simp
                 with_reducible rfl
                rotate_left
                ·simp only [Act.put, xset_a, xset_z, xset_s, i64_w, i32_w]
                 rfl
                refine pure_ (i := 8) (N := some 91) (v := ?_) (a' := ?_) #[true, true, true, true, true, true, true, true, true, false, false, false, false, false, false, false, false, false, false, false, false, false, false, false, false, false, false] rfl rfl (any_of HT_.out (by kernel_rfl)) (fun _ _ _ h => h) (Or.inl ⟨by rfl, ?_⟩) ?_ ?_
                rotate_left
                ·intro w'
                 go_simp
                 with_reducible rfl
                rotate_left
                ·simp only [Act.put, xset_a, xset_z, xset_s, i64_w, i32_w]
                 rfl
                refine take_ (i := 9) (N := some 92) (v := ?_) (a' := ?_) #[true, true, true, true, true, true, true, true, true, true, false, false, false, false, false, false, false, false, false, false, false, false, false, false, false, false, false] rfl rfl (take_ofW HT_.out HW_.out (by kernel_rfl)) (fun _ _ _ h => h) (Or.inl ⟨by rfl, ?_⟩) hHeld ?_ ?_
                rotate_left
                ·rintro w' ⟨s0, s1, s2, s3, s4, s5, s6, s7, s8, s9, s10, s11, s12, s13, s14, s15, s16, s17, s18, s19, s20, s21, s22, s23, s24, s25, s26, s27, s28⟩
                 go_simp
                 with_reducible rfl
                rotate_left
                ·simp only [Act.put, xset_a, xset_z, xset_s, i64_w, i32_w]
                 rfl
                refine take_ (i := 10) (N := some 93) (v := ?_) (a' := ?_) #[true, true, true, true, true, true, true, true, true, true, true, false, false, false, false, false, false, false, false, false, false, false, false, false, false, false, false] rfl rfl (take_ofW HT_.out HW_.out (by kernel_rfl)) (fun _ _ _ h => h) (Or.inl ⟨by rfl, ?_⟩) hHeld ?_ ?_
                rotate_left
                ·rintro w' ⟨s0, s1, s2, s3, s4, s5, s6, s7, s8, s9, s10, s11, s12, s13, s14, s15, s16, s17, s18, s19, s20, s21, s22, s23, s24, s25, s26, s27, s28⟩
                 go_simp
                 with_reducible rfl
                rotate_left
                ·simp only [Act.put, xset_a, xset_z, xset_s, i64_w, i32_w]
                 rfl
                refine pure_ (i := 11) (N := some 94) (v := ?_) (a' := ?_) #[true, true, true, true, true, true, true, true, true, true, true, true, false, false, false, false, false, false, false, false, false, false, false, false, false, false, false] rfl rfl (any_of HT_.out (by kernel_rfl)) (fun _ _ _ h => h) (Or.inl ⟨by rfl, ?_⟩) ?_ ?_
                rotate_left
                ·intro w'
                 go_simp
                 with_reducible rfl
                rotate_left
                ·simp only [Act.put, xset_a, xset_z, xset_s, i64_w, i32_w]
                 rfl
                refine pure_ (i := 12) (N := some 95) (v := ?_) (a' := ?_) #[true, true, true, true, true, true, true, true, true, true, true, true, true, false, false, false, false, false, false, false, false, false, false, false, false, false, false] rfl rfl (any_of HT_.out (by kernel_rfl)) (fun _ _ _ h => h) (Or.inl ⟨by rfl, ?_⟩) ?_ ?_
                rotate_left
                ·intro w'
                 go_simp
                 with_reducible rfl
                rotate_left
                ·simp only [Act.put, xset_a, xset_z, xset_s, i64_w, i32_w]
                 rfl
                refine pure_ (i := 13) (N := some 96) (v := ?_) (a' := ?_) #[true, true, true, true, true, true, true, true, true, true, true, true, true, true, false, false, false, false, false, false, false, false, false, false, false, false, false] rfl rfl (any_of HT_.out (by kernel_rfl)) (fun _ _ _ h => h) (Or.inl ⟨by rfl, ?_⟩) ?_ ?_
                rotate_left
                ·intro w'
                 go_simp
                 with_reducible rfl
                rotate_left
                ·simp only [Act.put, xset_a, xset_z, xset_s, i64_w, i32_w]
                 rfl
                refine pure_ (i := 14) (N := some 97) (v := ?_) (a' := ?_) #[true, true, true, true, true, true, true, true, true, true, true, true, true, true, true, false, false, false, false, false, false, false, false, false, false, false, false] rfl rfl (any_of HT_.out (by kernel_rfl)) (fun _ _ _ h => h) (Or.inl ⟨by rfl, ?_⟩) ?_ ?_
                rotate_left
                ·intro w'
                 go_simp
                 with_reducible rfl
                rotate_left
                ·simp only [Act.put, xset_a, xset_z, xset_s, i64_w, i32_w]
                 rfl
                refine pure_ (i := 15) (N := some 98) (v := ?_) (a' := ?_) #[true, true, true, true, true, true, true, true, true, true, true, true, true, true, true, true, false, false, false, false, false, false, false, false, false, false, false] rfl rfl (any_of HT_.out (by kernel_rfl)) (fun _ _ _ h => h) (Or.inl ⟨by rfl, ?_⟩) ?_ ?_
                rotate_left
                ·intro w'
                 go_simp
                 with_reducible rfl
                rotate_left
                ·simp only [Act.put, xset_a, xset_z, xset_s, i64_w, i32_w]
                 rfl
                refine pure_ (i := 16) (N := some 99) (v := ?_) (a' := ?_) #[true, true, true, true, true, true, true, true, true, true, true, true, true, true, true, true, true, false, false, false, false, false, false, false, false, false, false] rfl rfl (any_of HT_.out (by kernel_rfl)) (fun _ _ _ h => h) (Or.inl ⟨by rfl, ?_⟩) ?_ ?_
                rotate_left
                ·intro w'
                 go_simp
                 with_reducible rfl
                rotate_left
                ·simp only [Act.put, xset_a, xset_z, xset_s, i64_w, i32_w]
                 rfl
                refine pure_ (i := 17) (N := some 100) (v := ?_) (a' := ?_) #[true, true, true, true, true, true, true, true, true, true, true, true, true, true, true, true, true, true, false, false, false, false, false, false, false, false, false] rfl rfl (any_of HT_.out (by kernel_rfl)) (fun _ _ _ h => h) (Or.inl ⟨by rfl, ?_⟩) ?_ ?_
                rotate_left
                ·intro w'
                 go_simp
                 with_reducible rfl
                rotate_left
                ·simp only [Act.put, xset_a, xset_z, xset_s, i64_w, i32_w]
                 rfl
                refine pure_ (i := 18) (N := some 101) (v := ?_) (a' := ?_) #[true, true, true, true, true, true, true, true, true, true, true, true, true, true, true, true, true, true, true, false, false, false, false, false, false, false, false] rfl rfl (any_of HT_.out (by kernel_rfl)) (fun _ _ _ h => h) (Or.inl ⟨by rfl, ?_⟩) ?_ ?_
                rotate_left
                ·intro w'
                 go_simp
                 with_reducible rfl
                rotate_left
                ·simp only [Act.put, xset_a, xset_z, xset_s, i64_w, i32_w]
                 rfl
                refine pure_ (i := 19) (N := some 102) (v := ?_) (a' := ?_) #[true, true, true, true, true, true, true, true, true, true, true, true, true, true, true, true, true, true, true, true, false, false, false, false, false, false, false] rfl rfl (any_of HT_.out (by kernel_rfl)) (fun _ _ _ h => h) (Or.inl ⟨by rfl, ?_⟩) ?_ ?_
                rotate_left
                ·intro w'
                 go_simp
                 with_reducible rfl
                rotate_left
                ·simp only [Act.put, xset_a, xset_z, xset_s, i64_w, i32_w]
                 rfl
                refine pure_ (i := 22) (N := some 105) (v := ?_) (a' := ?_) #[true, true, true, true, true, true, true, true, true, true, true, true, true, true, true, true, true, true, true, true, false, false, true, false, false, false, false] rfl rfl (any_of HT_.out (by kernel_rfl)) (fun _ _ _ h => h) (Or.inl ⟨by rfl, ?_⟩) ?_ ?_
                rotate_left
                ·intro w'
                 go_simp
                 with_reducible rfl
                rotate_left
                ·simp only [Act.put, xset_a, xset_z, xset_s, i64_w, i32_w]
                 rfl
                refine take_ (i := 20) (N := some 103) (v := ?_) (a' := ?_) #[true, true, true, true, true, true, true, true, true, true, true, true, true, true, true, true, true, true, true, true, true, false, true, false, false, false, false] rfl rfl (take_ofW HT_.out HW_.out (by kernel_rfl)) (fun _ _ _ h => h) (Or.inl ⟨by rfl, ?_⟩) hHeld ?_ ?_
                rotate_left
                ·rintro w' ⟨s0, s1, s2, s3, s4, s5, s6, s7, s8, s9, s10, s11, s12, s13, s14, s15, s16, s17, s18, s19, s20, s21, s22, s23, s24, s25, s26, s27, s28⟩
                 go_simp
                 with_reducible rfl
                rotate_left
                ·simp only [Act.put, xset_a, xset_z, xset_s, i64_w, i32_w]
                 rfl
                refine take_ (i := 23) (N := some 106) (v := ?_) (a' := ?_) #[true, true, true, true, true, true, true, true, true, true, true, true, true, true, true, true, true, true, true, true, true, false, true, true, false, false, false] rfl rfl (take_ofW HT_.out HW_.out (by kernel_rfl)) (fun _ _ _ h => h) (Or.inl ⟨by rfl, ?_⟩) hHeld ?_ ?_
                rotate_left
                ·rintro w' ⟨s0, s1, s2, s3, s4, s5, s6, s7, s8, s9, s10, s11, s12, s13, s14, s15, s16, s17, s18, s19, s20, s21, s22, s23, s24, s25, s26, s27, s28⟩
                 go_simp
                 with_reducible rfl
                rotate_left
                ·simp only [Act.put, xset_a, xset_z, xset_s, i64_w, i32_w]
                 rfl
                refine one_ (i := 21) (N := some 104) #[true, true, true, true, true, true, true, true, true, true, true, true, true, true, true, true, true, true, true, true, true, true, true, true, false, false, false] rfl rfl (one_of HT_.out (by kernel_rfl)) (by decide) (fun K hK => ?_)
                refine goes_ Try.func21 (by kernel_rfl) rfl #[.slice Ao34 t105.length co34, .agg #[.string x102000_3, .int .i64 x102001_3, .int .i64 x102002_3, .int .i64 x102003_3, .int .i64 x102004_3, .string x102005_3, .int .i64 x102006_3, .int .i64 x102007_3, .int .i64 x102008_3, .int .i64 x102009_3, .string x102010_3]] (by rfl) rfl rfl (by (try simp only [List.map_toArray, List.map_cons, List.map_nil]); first | done | rfl | (simp only [List.length_drop, List.length_take]; rfl)) ?_
                with_reducible refine (mail_Release.calls k3 _ _ t105 x102000_3 x102001_3 x102002_3 x102003_3 x102004_3 x102005_3 x102006_3 x102007_3 x102008_3 x102009_3 x102010_3 t134 _ (by first | exact HG.out | exact MaxAt.below HG.out (bl_ HB.out)) ?side1 ?side2 A27.out).mono ?_
                (case side1 => repeat (first | exact (Kd.R_reads' HO107.out).2.2 | (with_reducible refine Kd.C_alloc ?_ _) | (with_reducible refine Kd.C_drewN ?_ _) | (with_reducible refine Kd.C_drew ?_)))
                (case side2 => exact (Kd.R_reads' HO107.out).2.1)
                rintro e w51 ⟨rfl, hb⟩
                refine ⟨_, rfl, ?_⟩
                have n0_ := Aside0.mk (Kd.R_below (kr_ HO107.out) hb)
                have n1_ := Aside0.mk (blk_below (g := gb101) (o := .cells #[.string x102000_3, .int .i64 x102001_3, .int .i64 x102002_3, .int .i64 x102003_3, .int .i64 x102004_3, .string x102005_3, .int .i64 x102006_3, .int .i64 x102007_3, .int .i64 x102008_3, .int .i64 x102009_3, .string x102010_3] 28 (0, 0)) (bk_ BK101.out) hb)
                have n2_ := Aside0.mk (blk_below (g := gb122) (o := .cells #[.int .i64 t112, .int .i64 t113, .int .i64 t114, .int .i64 t115, .int .i64 t116, .int .i64 t117, .int .i64 t118, .int .i64 t119, .string t120] 44 (0, 0)) (bk_ BK122.out) hb)
                have n3_ := Aside0.mk (blk_below (g := gb133) (o := .cells #[.int .i64 t123, .int .i64 t124, .int .i64 t125, .int .i64 t126, .int .i64 t127, .int .i64 t128, .int .i64 t129, .int .i64 t130, .string t131] 44 (0, 0)) (bk_ BK133.out) hb)
                have n4_ := Aside0.mk (below_step (bl_ HB.out) hb)
                clear HO107 BK101 BK122 BK133 HB
                have HO107 := n0_; have BK101 := n1_; have BK122 := n2_; have BK133 := n3_; have HB := n4_
                clear n0_ n1_ n2_ n3_ n4_
                (try clear hb)
                (try clear hb2)
                (try clear hk)
                (try clear hi)
                refine hK.out _ _ ⟨(blk_cell BK122.out 0).trans rfl, (blk_cell BK122.out 1).trans rfl, (blk_cell BK122.out 2).trans rfl, (blk_cell BK122.out 3).trans rfl, (blk_cell BK122.out 4).trans rfl, (blk_cell BK122.out 5).trans rfl, (blk_cell BK122.out 6).trans rfl, (blk_cell BK122.out 7).trans rfl, (blk_cell BK122.out 8).trans rfl, (blk_cell BK133.out 0).trans rfl, (blk_cell BK133.out 1).trans rfl, (blk_cell BK133.out 2).trans rfl, (blk_cell BK133.out 3).trans rfl, (blk_cell BK133.out 4).trans rfl, (blk_cell BK133.out 5).trans rfl, (blk_cell BK133.out 6).trans rfl, (blk_cell BK133.out 7).trans rfl, (blk_cell BK133.out 8).trans rfl, (blk_cell BK101.out 0).trans rfl, (blk_cell BK101.out 1).trans rfl, (blk_cell BK101.out 2).trans rfl, (blk_cell BK101.out 3).trans rfl, (blk_cell BK101.out 4).trans rfl, (blk_cell BK101.out 5).trans rfl, (blk_cell BK101.out 6).trans rfl, (blk_cell BK101.out 7).trans rfl, (blk_cell BK101.out 8).trans rfl, (blk_cell BK101.out 9).trans rfl, (blk_cell BK101.out 10).trans rfl⟩ (fun hHeld => ?_)
                clear hK K
                refine norm_ (a' := ?_) ?_ ?_
                rotate_left
                ·show Act.put _ (some 104) _ = _
                 simp only [Act.put, xset_a, xset_z, xset_s, i64_w, i32_w]
                 rfl
                refine one_ (i := 24) (N := some 107) #[true, true, true, true, true, true, true, true, true, true, true, true, true, true, true, true, true, true, true, true, true, true, true, true, true, false, false] rfl rfl (one_of HT_.out (by kernel_rfl)) (by decide) (fun K hK => ?_)
                refine goes_ Try.func22 (by kernel_rfl) rfl #[.slice Ao34 t105.length co34, .agg #[.string x102000_3, .int .i64 x102001_3, .int .i64 x102002_3, .int .i64 x102003_3, .int .i64 x102004_3, .string x102005_3, .int .i64 x102006_3, .int .i64 x102007_3, .int .i64 x102008_3, .int .i64 x102009_3, .string x102010_3]] (by rfl) rfl rfl (by (try simp only [List.map_toArray, List.map_cons, List.map_nil]); first | done | rfl | (simp only [List.length_drop, List.length_take]; rfl)) ?_
                with_reducible refine (donjonref18_Release.calls k3 _ _ t105 x102000_3 x102001_3 x102002_3 x102003_3 x102004_3 x102005_3 x102006_3 x102007_3 x102008_3 x102009_3 x102010_3 t135 _ ?side1 ?side2 A28.out).mono ?_
                (case side1 => repeat (first | exact (Kd.R_reads' HO107.out).2.2 | (with_reducible refine Kd.C_alloc ?_ _) | (with_reducible refine Kd.C_drewN ?_ _) | (with_reducible refine Kd.C_drew ?_)))
                (case side2 => exact (Kd.R_reads' HO107.out).2.1)
                rintro e w52 ⟨rfl, hb⟩
                refine ⟨_, rfl, ?_⟩
                have n0_ := Aside0.mk (Kd.R_below (kr_ HO107.out) hb)
                have n1_ := Aside0.mk (blk_below (g := gb101) (o := .cells #[.string x102000_3, .int .i64 x102001_3, .int .i64 x102002_3, .int .i64 x102003_3, .int .i64 x102004_3, .string x102005_3, .int .i64 x102006_3, .int .i64 x102007_3, .int .i64 x102008_3, .int .i64 x102009_3, .string x102010_3] 28 (0, 0)) (bk_ BK101.out) hb)
                have n2_ := Aside0.mk (blk_below (g := gb122) (o := .cells #[.int .i64 t112, .int .i64 t113, .int .i64 t114, .int .i64 t115, .int .i64 t116, .int .i64 t117, .int .i64 t118, .int .i64 t119, .string t120] 44 (0, 0)) (bk_ BK122.out) hb)
                have n3_ := Aside0.mk (blk_below (g := gb133) (o := .cells #[.int .i64 t123, .int .i64 t124, .int .i64 t125, .int .i64 t126, .int .i64 t127, .int .i64 t128, .int .i64 t129, .int .i64 t130, .string t131] 44 (0, 0)) (bk_ BK133.out) hb)
                have n4_ := Aside0.mk (below_step (bl_ HB.out) hb)
                clear HO107 BK101 BK122 BK133 HB
                have HO107 := n0_; have BK101 := n1_; have BK122 := n2_; have BK133 := n3_; have HB := n4_
                clear n0_ n1_ n2_ n3_ n4_
                (try clear hb)
                (try clear hb2)
                (try clear hk)
                (try clear hi)
                refine hK.out _ _ ⟨(blk_cell BK122.out 0).trans rfl, (blk_cell BK122.out 1).trans rfl, (blk_cell BK122.out 2).trans rfl, (blk_cell BK122.out 3).trans rfl, (blk_cell BK122.out 4).trans rfl, (blk_cell BK122.out 5).trans rfl, (blk_cell BK122.out 6).trans rfl, (blk_cell BK122.out 7).trans rfl, (blk_cell BK122.out 8).trans rfl, (blk_cell BK133.out 0).trans rfl, (blk_cell BK133.out 1).trans rfl, (blk_cell BK133.out 2).trans rfl, (blk_cell BK133.out 3).trans rfl, (blk_cell BK133.out 4).trans rfl, (blk_cell BK133.out 5).trans rfl, (blk_cell BK133.out 6).trans rfl, (blk_cell BK133.out 7).trans rfl, (blk_cell BK133.out 8).trans rfl, (blk_cell BK101.out 0).trans rfl, (blk_cell BK101.out 1).trans rfl, (blk_cell BK101.out 2).trans rfl, (blk_cell BK101.out 3).trans rfl, (blk_cell BK101.out 4).trans rfl, (blk_cell BK101.out 5).trans rfl, (blk_cell BK101.out 6).trans rfl, (blk_cell BK101.out 7).trans rfl, (blk_cell BK101.out 8).trans rfl, (blk_cell BK101.out 9).trans rfl, (blk_cell BK101.out 10).trans rfl⟩ (fun hHeld => ?_)
                clear hK K
                refine norm_ (a' := ?_) ?_ ?_
                rotate_left
                ·show Act.put _ (some 107) _ = _
                 simp only [Act.put, xset_a, xset_z, xset_s, i64_w, i32_w]
                 rfl
                refine pure_ (i := 25) (N := some 108) (v := ?_) (a' := ?_) #[true, true, true, true, true, true, true, true, true, true, true, true, true, true, true, true, true, true, true, true, true, true, true, true, true, true, false] rfl rfl (any_of HT_.out (by kernel_rfl)) (fun _ _ _ h => h) (Or.inl ⟨by rfl, ?_⟩) ?_ ?_
                rotate_left
                ·intro w'
                 go_simp
                 with_reducible rfl
                rotate_left
                ·simp only [Act.put, xset_a, xset_z, xset_s, i64_w, i32_w]
                 rfl
                refine pure_ (i := 26) (N := some 109) (v := ?_) (a' := ?_) #[true, true, true, true, true, true, true, true, true, true, true, true, true, true, true, true, true, true, true, true, true, true, true, true, true, true, true] rfl rfl (any_of HT_.out (by kernel_rfl)) (fun _ _ _ h => h) (Or.inl ⟨by rfl, ?_⟩) ?_ ?_
                rotate_left
                ·intro w'
                 go_simp
                 with_reducible rfl
                rotate_left
                ·simp only [Act.put, xset_a, xset_z, xset_s, i64_w, i32_w]
                 rfl
                refine done_ (done_of HT_.out (by kernel_rfl)) ?_
                obtain ⟨hcz53_0, hcz53_1, hcz53_2, hcz53_3, hcz53_4, hcz53_5, hcz53_6, hcz53_7, hcz53_8, hcz53_9, hcz53_10⟩ := bcs11 BK101.out
                obtain ⟨hfz53_0, hfz53_1, hfz53_2, hfz53_3, hfz53_4, hfz53_5, hfz53_6, hfz53_7, hfz53_8, hfz53_9, hfz53_10⟩ := bfs11 BK101.out
                try go_wp2_with (first | ((with_reducible refine gate_callee (f := 12) rfl ?_); refine goesL_ (some 112) rfl rfl Try.func12 (by kernel_rfl) rfl #[.agg #[.string x102000_3, .int .i64 x102001_3, .int .i64 x102002_3, .int .i64 x102003_3, .int .i64 x102004_3, .string x102005_3, .int .i64 x102006_3, .int .i64 x102007_3, .int .i64 x102008_3, .int .i64 x102009_3, .string x102010_3], .int .i64 a2] rfl (by (try simp only [List.map_toArray, List.map_cons, List.map_nil]); first | done | rfl | (simp only [List.length_drop, List.length_take]; rfl)) ?_; (with_reducible refine (donjonlaw18_good.calls x102000_3 x102001_3 x102002_3 x102003_3 x102004_3 x102005_3 x102006_3 x102007_3 x102008_3 x102009_3 x102010_3 a2 t136 t137 t138 t139 t140 t141 t142 t143 t144 t145 t146 _ A30.out).mono ?_); rintro e w54 ⟨rfl, hb⟩; refine ⟨_, rfl, ?_⟩; have n0_ := Aside0.mk (Kd.R_below (kr_ HO107.out) hb); have n1_ := Aside0.mk (blk_below (g := gb101) (o := .cells #[.string x102000_3, .int .i64 x102001_3, .int .i64 x102002_3, .int .i64 x102003_3, .int .i64 x102004_3, .string x102005_3, .int .i64 x102006_3, .int .i64 x102007_3, .int .i64 x102008_3, .int .i64 x102009_3, .string x102010_3] 28 (0, 0)) (bk_ BK101.out) hb); have n2_ := Aside0.mk (blk_below (g := gb122) (o := .cells #[.int .i64 t112, .int .i64 t113, .int .i64 t114, .int .i64 t115, .int .i64 t116, .int .i64 t117, .int .i64 t118, .int .i64 t119, .string t120] 44 (0, 0)) (bk_ BK122.out) hb); have n3_ := Aside0.mk (blk_below (g := gb133) (o := .cells #[.int .i64 t123, .int .i64 t124, .int .i64 t125, .int .i64 t126, .int .i64 t127, .int .i64 t128, .int .i64 t129, .int .i64 t130, .string t131] 44 (0, 0)) (bk_ BK133.out) hb); have n4_ := Aside0.mk (below_step (bl_ HB.out) hb); clear HO107 BK101 BK122 BK133 HB; have HO107 := n0_; have BK101 := n1_; have BK122 := n2_; have BK133 := n3_; have HB := n4_; clear n0_ n1_ n2_ n3_ n4_; (try clear hb); (try clear hb2); (try clear hk); (try clear hi); obtain ⟨hcz55_0, hcz55_1, hcz55_2, hcz55_3, hcz55_4, hcz55_5, hcz55_6, hcz55_7, hcz55_8, hcz55_9, hcz55_10⟩ := bcs11 BK101.out; obtain ⟨hfz55_0, hfz55_1, hfz55_2, hfz55_3, hfz55_4, hfz55_5, hfz55_6, hfz55_7, hfz55_8, hfz55_9, hfz55_10⟩ := bfs11 BK101.out))
                go_roundg k3
                case measure => have := HJ5.out; have := HK2.out; have := HK3.out; omega
                case rel => exact ⟨(wrap64 (x8_3 + 1)), (t136), (t137), (t138), (t139), (t140), (t141), (t142), (t143), (t144), (t145), (t146), (by first | rfl | (simp; done) | (simp [*]; done)), H', ⟨by have := HJ5.out; have := HK2.out; have := HK3.out; omega⟩, ⟨by (with_reducible repeat (first | refine blk_drewN ?_ _ | refine blk_drew ?_ | refine blk_alloc ?_ _)); refine puts11 (cs := #[.string x102000_3, .int .i64 x102001_3, .int .i64 x102002_3, .int .i64 x102003_3, .int .i64 x102004_3, .string x102005_3, .int .i64 x102006_3, .int .i64 x102007_3, .int .i64 x102008_3, .int .i64 x102009_3, .string x102010_3]) ?_ rfl; (with_reducible repeat (first | refine blk_drewN ?_ _ | refine blk_drew ?_ | refine blk_alloc ?_ _)); exact BK101.out⟩, ⟨by repeat (first | (with_reducible first | exact HB.out | apply below_alloc | apply pw_below_drewN | apply below_drew1 | refine below_set ?_ GE101.out | refine below_set ?_ GE122.out | refine below_set ?_ GE133.out) | exact HB.out)⟩⟩
               ·rw [if_neg c29] at H
                have c29b0 : (t134 == t135) = false := beq_eq_false_iff_ne.mpr c29
                have c29b1 : (t134 != t135) = true := bne_iff_ne.mpr c29
                obtain rfl := Option.some.inj H
                exact absurd HRT.out (by decide)
            ·rw [if_neg c24] at H
             have c24b0 : (t109 == t111) = false := beq_eq_false_iff_ne.mpr c24
             have c24b1 : (t109 != t111) = true := bne_iff_ne.mpr c24
             obtain rfl := Option.some.inj H
             exact absurd HRT.out (by decide)
           ·rw [if_neg c23] at H
            have c23b0 : (t108 == t110) = false := beq_eq_false_iff_ne.mpr c23
            have c23b1 : (t108 != t110) = true := bne_iff_ne.mpr c23
            obtain rfl := Option.some.inj H
            exact absurd HRT.out (by decide)
          ·rw [if_neg c16] at H
           have c16b0 : decide (x8_3 < 2) = false := decide_eq_false c16
           clear c16
           obtain rfl := Option.some.inj H
           go_wp2
           go_ret
           exact ⟨by first | rfl | (simp [errW_none, errW_some] <;> rfl) | (simp [*, errW_none, errW_some] <;> rfl), by repeat (first | (with_reducible first | exact HB.out | apply below_alloc | apply pw_below_drewN | apply below_drew1 | refine below_set ?_ GE101.out) | exact HB.out)⟩
 ·replace c5 := Bool.eq_false_iff.mpr c5
  subst c5
  have H1 : (some false) = some r := by rw [if_neg (show ¬ (false = true) by decide)] at H; exact H
  clear H
  have H := H1
  clear H1
  obtain rfl := Option.some.inj H
  exact absurd HRT.out (by decide)

end Go.Proofs.Ytdbnjjkapelekaa.X
