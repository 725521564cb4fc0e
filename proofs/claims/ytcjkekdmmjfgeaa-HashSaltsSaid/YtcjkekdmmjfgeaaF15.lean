/- Written by a program of this session over the kit's print: YtcjkekdmmjfgeaaF15. -/
import Derived.Test.YtcjkekdmmjfgeaaH
import Derived.Test.YtcjkekdmmjfgeaaF16
import Derived.Lib.SlBytesConst
namespace Go.Proofs.Ytcjkekdmmjfgeaa.X
open Go.RowKit Go.Proofs.YtcjkekdmmjfgeaaW.PrintWords Go.Proofs.YtcjkekdmmjfgeaaW.PrintLast Go.Proofs.YtcjkekdmmjfgeaaW.PrintMore Go.Proofs.Ytcjkekdmmjfgeaa.More
attribute [local go_sem] max2_int min2_int max_two min_two max_three min_three max_four min_four   -- for this text's walks alone
set_option linter.unusedVariables false
set_option linter.unusedSimpArgs false

/-! ### donjonlaw8_known: function 15 -/
def donjonlaw8_known.f : Option Bool := some true
theorem donjonlaw8_known.one : hash_Chain.f 2 14695981039346656037 [97] = some 12638187200555641996 := by decide +kernel
set_option maxHeartbeats 4000000 in
set_option maxRecDepth 100000 in
theorem donjonlaw8_known.calls (r : Bool) (w : World) (h : donjonlaw8_known.f = some r) :
    Calls Try.prog 15 #[] w fun e w' => e = .returned (.bool r) ∧ Below w.heap.size w w' := by
  obtain rfl : true = r := Option.some.inj h
  clear h
  have kc := fun (w : World) (C : Array Value) (n c : Nat) => Lib.run_convert_bytes_const (P := Try.prog) w 23 5 C n c Try.underlying23 Try.underlying5
  have HR : Aside0 (Kd.C (Kd.int .u8) (w.alloc (.cells #[.int .u8 97] 5 (1, 2))) (some ⟨w.heap.size, 0, none⟩) 1 [97]) := ⟨⟨rfl, by decide, fun _ => ⟨_, rfl, fun j p hj => by
    have hj0 : j = 0 := by
      have := (List.getElem?_eq_some_iff.1 hj).1
      simp at this
      omega
    subst hj0
    simp at hj
    subst hj
    refine ⟨[.int .u8 97], rfl, rfl, fun i u hu => ?_⟩
    have hi0 : i = 0 := by
      have := (List.getElem?_eq_some_iff.1 hu).1
      simp at this
      omega
    subst hi0
    simp at hu
    subst hu
    exact World.cell?_alloc_mark w #[.int .u8 97] 5 (1, 2) 0⟩⟩⟩
  go_enter Try.func15, Try.ntmps15
  go_wp2_with (go_at_call 16; refine (hash_Chain.calls 2 14695981039346656037 _ _ [97] _ _ HR.out (by decide) donjonlaw8_known.one).mono ?_; rintro e w' ⟨rfl, ⟨nd, rfl⟩⟩)
  go_ret
  exact ⟨rfl, pw_below_drewN (below_alloc (Below.refl _ _) _) _⟩

end Go.Proofs.Ytcjkekdmmjfgeaa.X
