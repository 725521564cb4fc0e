/- Entries such as may be; what known tells. -/
import Derived.Test.YtihknjmibnonjaaDoorF12
import Derived.Test.YtihknjmibnonjaaDoorAText
import Derived.Test.YtihknjmibnonjaaDoorPLab4
namespace Go.Proofs.YtihknjmibnonjaaDoor.X
open Go.RowKit Go.Proofs.YtihknjmibnonjaaDoorW.PrintWords Go.Proofs.YtihknjmibnonjaaDoorW.PrintLast Go.Proofs.YtihknjmibnonjaaDoorW.PrintMore Go.Proofs.YtihknjmibnonjaaDoor.More Go.Proofs.YtihknjmibnonjaaDoor.Pure Go.Proofs.YtihknjmibnonjaaDoor.Lib
set_option linter.unusedVariables false
set_option linter.unusedSimpArgs false
/-- A label such as may be. -/
def goodS (x : SL) : SL := ⟨x.f0 % 4, x.f1 % 256, x.f2 % 4, x.f3 % 256⟩
theorem goodS_f (x : SL) : donjonlaw4_Good.f x.f0 x.f1 x.f2 x.f3 = some ((goodS x).f0, (goodS x).f1, (goodS x).f2, (goodS x).f3) := good4_f _ _ _ _
theorem goodS_lab (x : SL) : labOk (goodS x) := by
  refine ⟨⟨?_, ?_⟩, ⟨?_, ?_⟩, ⟨?_, ?_⟩, ⟨?_, ?_⟩⟩ <;> simp only [goodS] <;> omega
theorem goodS_ok (x : SL) : okL (goodS x) := (goodS_lab x).wf
theorem eq_beq (x y : SL) : (y.f0 == x.f0 && (y.f1 == x.f1 && (y.f2 == x.f2 && (y.f3 == x.f3)))) = decide (y = x) := by
  by_cases h : y = x
  · subst h; simp
  · rw [decide_eq_false h]
    refine Bool.eq_false_iff.2 fun e => h ?_
    simp only [Bool.and_eq_true, beq_iff_eq] at e
    cases x; cases y
    simp_all
theorem within14_f (a n : Int) (h0 : 0 < n) (h1 : n ≤ 1000) : donjonlaw14_within.f a n = some (a % n) := by
  obtain ⟨r, e, _, _, h⟩ := within_small (a := a) (n := n) (by omega) (by omega)
  rw [← h]
  unfold donjonlaw14_within.f
  exact e
/-- A text's first bytes. -/
def cutB (n : Nat) (s : ByteArray) : ByteArray := if (s.size : Int) > n then s.extract 0 n else s
theorem cutB_le (n : Nat) (s : ByteArray) : (cutB n s).size ≤ n := by
  unfold cutB
  split
  · rw [ByteArray.size_extract]
    omega
  · omega
/-- An entry such as may be. -/
def goodE (e : SE) : SE := ⟨e.f0, goodS e.f1, cutB 12 e.f2, 1 + e.f3 % 14, cutB 30 e.f4, e.f5 % 38⟩
theorem goodE_may (e : SE) : mayE (goodE e) := by
  have h1 := cutB_le 12 e.f2
  have h2 := cutB_le 30 e.f4
  refine ⟨goodS_lab _, ?_, ?_, ?_, ?_, ?_, ?_⟩ <;> simp only [goodE] <;> omega
theorem good_f (e : SE) : donjonlaw14_good.f e.f0 e.f1.f0 e.f1.f1 e.f1.f2 e.f1.f3 e.f2 e.f3 e.f4 e.f5 =
    some ((goodE e).f0, (goodE e).f1.f0, (goodE e).f1.f1, (goodE e).f1.f2, (goodE e).f1.f3, (goodE e).f2, (goodE e).f3, (goodE e).f4, (goodE e).f5) := by
  unfold donjonlaw14_good.f
  rw [goodS_f, within14_f _ 14 (by omega) (by omega), within14_f _ 38 (by omega) (by omega)]
  simp only [Option.bind_some]
  have ew : wrap64 (1 + e.f3 % 14) = 1 + e.f3 % 14 := wrap64_id (by omega) (by omega)
  rw [ew]
  by_cases h1 : (e.f2.size : Int) > 12
  · rw [if_pos h1, if_pos (by omega), if_pos (by omega)]
    have c1 : cutB 12 e.f2 = e.f2.extract 0 12 := if_pos h1
    by_cases h2 : (e.f4.size : Int) > 30
    · rw [if_pos h2, if_pos (by omega), if_pos (by omega)]
      have c2 : cutB 30 e.f4 = e.f4.extract 0 30 := if_pos h2
      simp only [goodE, c1, c2]
    · rw [if_neg h2]
      have c2 : cutB 30 e.f4 = e.f4 := if_neg h2
      simp only [goodE, c1, c2]
  · rw [if_neg h1]
    have c1 : cutB 12 e.f2 = e.f2 := if_neg h1
    by_cases h2 : (e.f4.size : Int) > 30
    · rw [if_pos h2, if_pos (by omega), if_pos (by omega)]
      have c2 : cutB 30 e.f4 = e.f4.extract 0 30 := if_pos h2
      simp only [goodE, c1, c2]
    · rw [if_neg h2]
      have c2 : cutB 30 e.f4 = e.f4 := if_neg h2
      simp only [goodE, c1, c2]
theorem good_run (e : SE) (w : World) : Calls Tryd.prog 12 #[ev e] w fun r w' => r = .returned (ev (goodE e)) ∧ Below w.heap.size w w' :=
  donjonlaw14_good.calls _ _ _ _ _ _ _ _ _ _ _ _ _ _ _ _ _ _ w (good_f e)
theorem goodS_run (x : SL) (w : World) : Calls Tryd.prog 9 #[lv x] w fun r w' => r = .returned (lv (goodS x)) ∧ Below w.heap.size w w' :=
  donjonlaw4_Good.calls _ _ _ _ _ _ _ _ w (goodS_f x)
def knownE : SE := ⟨1, ⟨0, 0, 3, 255⟩, ⟨#[97]⟩, 2, ⟨#[47, 120]⟩, 0⟩
theorem known_text : textE knownE ⟨#[111, 107]⟩ = ⟨#[49, 32, 48, 46, 48, 46, 51, 46, 50, 53, 53, 32, 97, 32, 115, 101, 103, 32, 47, 120, 32, 111, 107]⟩ := by decide +kernel
set_option maxRecDepth 100000 in
theorem known14 (w : World) (hG : Laid w) : Calls Tryd.prog 8 #[] w fun e w' => e = .returned (.bool true) ∧ Below w.heap.size w w' := by
  have hT := fun W (h : Laid W) => audit_Text.calls knownE ⟨#[111, 107]⟩ W h (by decide) ⟨rfl, rfl, rfl, rfl⟩ (by decide) (by decide) (by decide) (if_pos rfl)
  rw [known_text] at hT
  have HT := Aside0.mk hT
  have HG := Aside0.mk hG
  clear hT hG
  go_enter Tryd.func8, Tryd.ntmps8
  go_wp2_with fail
  refine (HT.out _ HG.out).mono ?_
  rintro e w1 ⟨rfl, hb⟩
  have HB := Aside0.mk hb
  clear hb
  go_wp2
  go_ret
  exact ⟨rfl, HB.out⟩
end Go.Proofs.YtihknjmibnonjaaDoor.X
