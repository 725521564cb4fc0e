/- Written by a program of this session over the kit's print: YtinbhijeonghaaaE31. -/
import Derived.Test.YtinbhijeonghaaaH
namespace Go.Proofs.Ytinbhijeonghaaa.X
open Go.RowKit Go.Proofs.YtinbhijeonghaaaW.PrintWords Go.Proofs.YtinbhijeonghaaaW.PrintLast Go.Proofs.YtinbhijeonghaaaW.PrintMore Go.Proofs.Ytinbhijeonghaaa.More
attribute [local go_sem] max2_int min2_int max_two min_two max_three min_three max_four min_four binOp_string_leq binOp_string_gtr   -- for this text's walks alone
set_option linter.unusedVariables false
set_option linter.unusedSimpArgs false

theorem eqA31 (d : Nat) (w : World) (x0 y0 : ByteArray) (x1 y1 : Int) :
    (Op.equalIn (d + 2) 31 (.agg #[.string x0, .int .i64 x1]) (.agg #[.string y0, .int .i64 y1])).run Try.prog w = .ok (x0.toList == y0.toList && (x1 == y1)) w := by
  refine eqA_of Try.underlying31 (by kernel_rfl) ?_
  refine eqf_cons (by rfl) (by go_simp; rfl) (by go_simp; rfl) (by go_simp) ?_
  exact eqf_last (by rfl) (by go_simp; rfl) (by go_simp; rfl) (by go_simp)
end Go.Proofs.Ytinbhijeonghaaa.X
