/- Written by a program of this session over the kit's print: YtophnhmlknbmeaaF6. -/
import Derived.Test.YtophnhmlknbmeaaH
import Derived.Test.YtophnhmlknbmeaaF13
namespace Go.Proofs.Ytophnhmlknbmeaa.X
open Go.RowKit Go.Proofs.YtophnhmlknbmeaaW.PrintWords Go.Proofs.YtophnhmlknbmeaaW.PrintLast Go.Proofs.YtophnhmlknbmeaaW.PrintMore Go.Proofs.Ytophnhmlknbmeaa.More
attribute [local go_sem] max2_int min2_int max_two min_two max_three min_three max_four min_four binOp_string_leq binOp_string_gtr   -- for this text's walks alone
set_option linter.unusedVariables false
set_option linter.unusedSimpArgs false

/-! ### donjonlaw10_known: function 6 -/
def donjonlaw10_known.f  : Option (Bool) := (node_EncodeMessage.f (⟨#[]⟩ : ByteArray) 0 0 3 255 (⟨#[]⟩ : ByteArray) 0 0 3 255 (⟨#[]⟩ : ByteArray)).bind fun t101 => (some ((strOfNums t101).toList == ([0, 0, 0, 3, 255, 0, 0, 0, 3, 255, 0] : List UInt8)))
set_option maxHeartbeats 8000000 in
set_option maxRecDepth 100000 in
theorem donjonlaw10_known.calls  (r : Bool) (w : World) (h : donjonlaw10_known.f  = some r) :
    Calls Try.prog 6 #[] w fun e w' => e = .returned (.bool r) ∧ Below w.heap.size w w' := by
  have hu23 := Try.underlying23
  have hu42 := Try.underlying42
  have HB := Aside0.mk (Below.refl w.heap.size w)
  have H : ((node_EncodeMessage.f (⟨#[]⟩ : ByteArray) 0 0 3 255 (⟨#[]⟩ : ByteArray) 0 0 3 255 (⟨#[]⟩ : ByteArray)).bind fun t101 => (some ((strOfNums t101).toList == ([0, 0, 0, 3, 255, 0, 0, 0, 3, 255, 0] : List UInt8)))) = some r := h
  clear h
  replace H := Option.bind_eq_some_iff.mp H
  obtain ⟨t101, A10, H⟩ := H
  replace H : (some ((strOfNums t101).toList == ([0, 0, 0, 3, 255, 0, 0, 0, 3, 255, 0] : List UInt8))) = some r := H
  have A1 := Aside0.mk A10
  clear A10
  obtain rfl := Option.some.inj H
  go_enter Try.func6, Try.ntmps6
  go_wp2_with (first | ((with_reducible refine gate_callee (f := 13) rfl ?_); refine goesL_ (some 5) rfl rfl Try.func13 (by kernel_rfl) rfl #[.agg #[.string (⟨#[]⟩ : ByteArray), .int .i64 0, .int .i64 0, .int .i64 3, .int .i64 255, .string (⟨#[]⟩ : ByteArray), .int .i64 0, .int .i64 0, .int .i64 3, .int .i64 255, .string (⟨#[]⟩ : ByteArray)]] rfl (by (try simp only [List.map_toArray, List.map_cons, List.map_nil]); first | done | rfl | (simp only [List.length_drop, List.length_take]; rfl)) ?_; (with_reducible refine (node_EncodeMessage.calls (⟨#[]⟩ : ByteArray) 0 0 3 255 (⟨#[]⟩ : ByteArray) 0 0 3 255 (⟨#[]⟩ : ByteArray) t101 _ A1.out).mono ?_); rintro e w2 ⟨v102, rfl, ho0, hb⟩; refine ⟨_, rfl, ?_⟩; have n0_ := Aside0.mk (Kd.R_lower ho0 (below_size (by repeat (first | (with_reducible first | exact HB.out | apply below_alloc | apply pw_below_drewN | apply below_drew1) | exact HB.out)))); have n1_ := Aside0.mk (below_step (by repeat (first | (with_reducible first | exact HB.out | apply below_alloc | apply pw_below_drewN | apply below_drew1) | exact HB.out)) hb); clear HB; have HO103 := n0_; have HB := n1_; clear n0_ n1_; (try clear hb); (try clear hb2); (try clear hk); (try clear hi); (try clear ho0); have hcv3 := own_string (P := Try.prog) Try.underlying38 Try.underlying5 Try.underlying9 (Kd.own_of_R HO103.out)))
  go_ret
  exact ⟨by first | rfl | (simp [errW_none, errW_some] <;> rfl) | (simp [*, errW_none, errW_some] <;> rfl), by repeat (first | (with_reducible first | exact HB.out | apply below_alloc | apply pw_below_drewN | apply below_drew1) | exact HB.out)⟩

end Go.Proofs.Ytophnhmlknbmeaa.X
