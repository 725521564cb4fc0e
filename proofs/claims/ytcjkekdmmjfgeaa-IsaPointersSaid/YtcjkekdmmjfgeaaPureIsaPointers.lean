/- IsaPointers, over numbers: pointers are written into words, and words read as pointers, as the document says; one whose parts fit is read as it was written. For every input. -/
import Derived.Test.YtcjkekdmmjfgeaaF6
import Derived.Test.YtcjkekdmmjfgeaaPIsa
namespace Go.Proofs.Ytcjkekdmmjfgeaa.Pure
open Go.RowKit Go.Proofs.Ytcjkekdmmjfgeaa.X Go.Proofs.YtcjkekdmmjfgeaaW.PrintWords Go.Proofs.YtcjkekdmmjfgeaaW.PrintLast Go.Proofs.Ytcjkekdmmjfgeaa.Lib

theorem pointer_of {s o r : Int} : Go.bits .or .i64 (Go.bits .or .i64 (wrap64 (r % 8 * 281474976710656)) (wrap64 (s % 65536 * 4294967296))) (o % 4294967296) = r % 8 * 281474976710656 + s % 65536 * 4294967296 + o % 4294967296 := by
  rw [wrap64_id (by omega) (by omega), wrap64_id (by omega) (by omega)]
  rw [or_apart 48 (r % 8 * 281474976710656) (s % 65536 * 4294967296) (by omega) (by omega) (by omega) (by omega) (by omega) (by omega)]
  rw [or_apart 32 (r % 8 * 281474976710656 + s % 65536 * 4294967296) (o % 4294967296) (by omega) (by omega) (by omega) (by omega) (by omega) (by omega)]

theorem IsaPointers : ∀ (a0_0 : Int) (a0_1 : Int) (a0_2 : Int) (a1 : Int), (Lit.int .i64 a0_0).wf = true → (Lit.int .i64 a0_1).wf = true → (Lit.int .i64 a0_2).wf = true → (Lit.int .i64 a1).wf = true → ∃ k, donjonlaw15_IsaPointers.f k a0_0 a0_1 a0_2 a1 = some true := by
  intro s o r w _ _ _ _
  refine ⟨1, ?_⟩
  unfold donjonlaw15_IsaPointers.f
  rw [known15]
  simp only [Option.bind_some, if_true, isa_EncodePointer.f, donjonref15_EncodePointer.f, isa_DecodePointer.f, donjonref15_DecodePointer.f]
  rw [and_4294967295]
  simp only [if_true]
  rw [and_65535, and_4294967295, and_7, uand_65535, uand_7, u64_wrap, wrap64_id (by omega) (by omega), wrap64_id (by omega) (by omega)]
  have e1 : w / 4294967296 % 65536 = w % 18446744073709551616 / 4294967296 % 65536 := by omega
  have e2 : w / 281474976710656 % 8 = w % 18446744073709551616 / 281474976710656 % 8 := by omega
  rw [e1, e2]
  simp only [BEq.rfl, Bool.not_true, Bool.or_false]
  simp only [donjonlaw15_IsaPointers.j0, donjonlaw15_within.f]
  rw [if_neg (by simp)]
  obtain ⟨r1, f1, h1, h2, _⟩ := within_small (a := s) (n := 65536) (by omega) (by omega)
  obtain ⟨r2, f2, h3, h4, _⟩ := within_small (a := o) (n := 4294967296) (by omega) (by omega)
  obtain ⟨r3, f3, h5, h6, _⟩ := within_small (a := r) (n := 8) (by omega) (by omega)
  rw [f1, f2, f3]
  simp only [Option.bind_some, isa_EncodePointer.f, isa_DecodePointer.f]
  simp only [and_7, and_65535, and_4294967295]
  rw [pointer_of]
  have g1 : (r3 % 8 * 281474976710656 + r1 % 65536 * 4294967296 + r2 % 4294967296) / 4294967296 % 65536 = r1 := by omega
  have g2 : (r3 % 8 * 281474976710656 + r1 % 65536 * 4294967296 + r2 % 4294967296) % 4294967296 = r2 := by omega
  have g3 : (r3 % 8 * 281474976710656 + r1 % 65536 * 4294967296 + r2 % 4294967296) / 281474976710656 % 8 = r3 := by omega
  rw [g1, g2, g3]
  simp
end Go.Proofs.Ytcjkekdmmjfgeaa.Pure
