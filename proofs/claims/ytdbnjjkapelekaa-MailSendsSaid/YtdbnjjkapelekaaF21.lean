/- Written by a program of this session over the kit's print: YtdbnjjkapelekaaF21. -/
import Derived.Test.YtdbnjjkapelekaaH
import Derived.Test.YtdbnjjkapelekaaF19
import Derived.Test.YtdbnjjkapelekaaF19
import Derived.Test.YtdbnjjkapelekaaMaxAt
import Derived.Test.YtdbnjjkapelekaaShelf
import Derived.WalkKit
import Derived.BigCall
namespace Go.Proofs.Ytdbnjjkapelekaa.X
open Go.RowKit Go.Proofs.YtdbnjjkapelekaaW.PrintWords Go.Proofs.YtdbnjjkapelekaaW.PrintLast Go.Proofs.YtdbnjjkapelekaaW.PrintMore Go.Proofs.Ytdbnjjkapelekaa.More
attribute [local go_sem] max2_int min2_int max_two min_two max_three min_three max_four min_four binOp_string_leq binOp_string_gtr   -- for this text's walks alone
set_option linter.unusedVariables false
set_option linter.unusedSimpArgs false

/-! ### mail_Release: function 21 -/
def mail_Release.f (k : Nat) (l0 : List (S44)) (a1_0 : ByteArray) (a1_1 : Int) (a1_2 : Int) (a1_3 : Int) (a1_4 : Int) (a1_5 : ByteArray) (a1_6 : Int) (a1_7 : Int) (a1_8 : Int) (a1_9 : Int) (a1_10 : ByteArray) : Option Int :=
  if a1_10.size < 4294967281 then (mail_Rule.f k l0 a1_0 a1_1 a1_2 a1_3 a1_4 a1_5 a1_6 a1_7 a1_8 a1_9 a1_10).bind fun t => some (if t.2.2.2.2.2.2.2.2.2 = true then (if Lib.contains a1_10.data.toList t.2.2.2.2.2.2.2.2.1.data.toList = true then 6 else 0) else 19) else none
theorem mail_Release.mono : ∀ a0 a1 a2 a3 a4 a5 a6 a7 a8 a9 a10 a11 k, LeO (mail_Release.f k a0 a1 a2 a3 a4 a5 a6 a7 a8 a9 a10 a11) (mail_Release.f (k + 1) a0 a1 a2 a3 a4 a5 a6 a7 a8 a9 a10 a11) := by
  intro a0 a1 a2 a3 a4 a5 a6 a7 a8 a9 a10 a11 k
  unfold mail_Release.f
  refine LeO.ite ?_ (LeO.refl _)
  exact LeO.bind (mail_Rule.mono _ _ _ _ _ _ _ _ _ _ _ _ _) (fun _ => LeO.refl _)
set_option maxRecDepth 100000 in
set_option maxHeartbeats 4000000 in
theorem mail_Release.calls (k : Nat) (A0 : Option Addr) (c0 : Nat) (l0 : List (S44)) (a1_0 : ByteArray) (a1_1 : Int) (a1_2 : Int) (a1_3 : Int) (a1_4 : Int) (a1_5 : ByteArray) (a1_6 : Int) (a1_7 : Int) (a1_8 : Int) (a1_9 : Int) (a1_10 : ByteArray) (r : Int) (w : World) (hG : MaxAt w) (hr0 : Kd.C k44 w A0 l0.length l0) (hc0 : l0.length ≤ c0) (h : mail_Release.f k l0 a1_0 a1_1 a1_2 a1_3 a1_4 a1_5 a1_6 a1_7 a1_8 a1_9 a1_10 = some r) :
    Calls Try.prog 21 #[.slice A0 l0.length c0, .agg #[.string a1_0, .int .i64 a1_1, .int .i64 a1_2, .int .i64 a1_3, .int .i64 a1_4, .string a1_5, .int .i64 a1_6, .int .i64 a1_7, .int .i64 a1_8, .int .i64 a1_9, .string a1_10]] w fun e w' => e = .returned (.int .i64 r) ∧ Below w.heap.size w w' := by
  unfold mail_Release.f at h
  by_cases hs : a1_10.size < 4294967281
  · rw [if_pos hs] at h
    obtain ⟨⟨r1, r2, r3, r4, r5, r6, r7, r8, r9, r10⟩, hq, h2⟩ := Option.bind_eq_some_iff.mp h
    have hr := Option.some.inj h2
    dsimp only at hr
    have HS := Aside0.mk hs
    have HQ := Aside0.mk hq
    have HR := Aside0.mk hr
    have HG := Aside0.mk hG
    have HC0 := Aside0.mk (Kd.C_below hr0 (below_alloc (Below.refl _ w) (.cells #[.string a1_0, .int .i64 a1_1, .int .i64 a1_2, .int .i64 a1_3, .int .i64 a1_4, .string a1_5, .int .i64 a1_6, .int .i64 a1_7, .int .i64 a1_8, .int .i64 a1_9, .string a1_10] 28)))
    have HL := Aside0.mk hc0
    clear h h2 hs hq hr hG hr0 hc0
    go_enter Try.func21, Try.ntmps21
    go_wp2_with fail
    refine (mail_Rule.calls k A0 c0 l0 a1_0 a1_1 a1_2 a1_3 a1_4 a1_5 a1_6 a1_7 a1_8 a1_9 a1_10 r1 r2 r3 r4 r5 r6 r7 r8 r9 r10 _ HC0.out HL.out HQ.out).mono ?_
    rintro e w1 ⟨rfl, hb1⟩
    have HB1 : Aside0 (Below w.heap.size w w1) := ⟨below_step (below_alloc (Below.refl _ w) _) hb1⟩
    have c0_ : w1.cell? ⟨w.heap.size, 10, none⟩ = some (.string a1_10) := (blk_cell (blk_below (blk_new w (.cells #[.string a1_0, .int .i64 a1_1, .int .i64 a1_2, .int .i64 a1_3, .int .i64 a1_4, .string a1_5, .int .i64 a1_6, .int .i64 a1_7, .int .i64 a1_8, .int .i64 a1_9, .string a1_10] 28)) hb1) 10).trans rfl
    have z0_ : w.heap.size < w1.heap.size := blk_lt (blk_below (blk_new w (.cells #[.string a1_0, .int .i64 a1_1, .int .i64 a1_2, .int .i64 a1_3, .int .i64 a1_4, .string a1_5, .int .i64 a1_6, .int .i64 a1_7, .int .i64 a1_8, .int .i64 a1_9, .string a1_10] 28)) hb1)
    clear hb1
    cases r10 with
    | false =>
      go_wp2_with fail
      go_ret
      have e1 := HR.out
      simp only [Bool.false_eq_true, if_false] at e1
      exact ⟨by rw [← e1]; rfl, by with_reducible repeat (first | exact HB1.out | apply below_alloc | apply below_drew1)⟩
    | true =>
      obtain ⟨m, hm⟩ := (HG.out.below HB1.out)
      have HM := Aside0.mk hm
      clear hm
      have hm1 : ∀ o, (w1.alloc o).cell? ⟨0, 0, none⟩ = some (.int .i64 m) := fun o => ((below_alloc (Below.refl _ w1) o).cell (World.block_lt_of_cell? w1 _ HM.out)).trans HM.out
      have HM1 := Aside0.mk hm1
      clear hm1
      obtain ⟨b, hb⟩ : ∃ b, Lib.contains a1_10.data.toList r9.data.toList = b := ⟨_, rfl⟩
      have HBb := Aside0.mk hb
      clear hb
      go_wp2_with fail
      refine (Try.strings_Contains a1_10 r9 m _ HS.out (HM1.out _)).mono ?_
      rintro e w2 ⟨rfl, rfl⟩
      rw [HBb.out]
      have e1 := HR.out
      rw [HBb.out] at e1
      simp only [if_true] at e1
      have HE := Aside0.mk e1
      clear e1
      cases b
      all_goals
        go_wp2_with fail
        go_ret
        have e1 := HE.out
        simp only [Bool.false_eq_true, if_false, if_true] at e1
        exact ⟨by rw [← e1]; rfl, by with_reducible repeat (first | exact HB1.out | apply below_alloc | apply below_drew1)⟩
  · rw [if_neg hs] at h
    exact absurd h (by simp)

end Go.Proofs.Ytdbnjjkapelekaa.X
