/- IsaWords, over numbers: any instruction is encoded, or refused, any word is decoded, or refused, as the document says; there and back it is the same. For every input. -/
import Derived.Test.YtcjkekdmmjfgeaaF7
import Derived.Test.YtcjkekdmmjfgeaaPIsa
namespace Go.Proofs.Ytcjkekdmmjfgeaa.Pure
open Go.RowKit Go.Proofs.Ytcjkekdmmjfgeaa.X Go.Proofs.YtcjkekdmmjfgeaaW.PrintWords Go.Proofs.YtcjkekdmmjfgeaaW.PrintLast Go.Proofs.Ytcjkekdmmjfgeaa.Lib

theorem words_end (k : Nat) (w : Int) (hw : -9223372036854775808 ≤ w ∧ w ≤ 9223372036854775807) (x5 : Int) (h5 : ¬ x5 < 2) (a b c : Int) : donjonlaw15_IsaWords.l0 (k + 3) w x5 a b c = some true := by
  rw [donjonlaw15_IsaWords.l0]
  rw [if_neg h5, decode_f, ref_decode_f]
  simp only [Option.bind_some, BEq.rfl, Bool.not_true, Bool.or_false]
  rw [if_neg (by simp)]
  have e : ((dec w).2.2.2 != (dec w).2.2.2) = false := by simp
  rw [e, donjonlaw15_IsaWords.j2, if_neg (by simp)]
  by_cases h : (dec w).2.2.2 = 0
  · rw [if_pos h, encode_f]
    obtain ⟨hf, hv⟩ := encV_dec hw h
    rw [enc_ok hf, hv]
    simp
  · rw [if_neg h]
theorem words_round (k : Nat) (w x5 : Int) (h0 : 0 ≤ x5) (h5 : x5 < 2) (a b c : Int) (hnext : ∀ o p n, donjonlaw15_IsaWords.l0 k w (x5 + 1) o p n = some true) : donjonlaw15_IsaWords.l0 (k + 2) w x5 a b c = some true := by
  rw [donjonlaw15_IsaWords.l0]
  rw [if_pos h5, encode_f, ref_encode_f]
  simp only [Option.bind_some, if_true]
  have e : ((enc a b c).2 != (enc a b c).2) = false := by simp
  rw [e, donjonlaw15_IsaWords.j1, if_neg (by simp), wrap64_id (by omega) (by omega)]
  obtain ⟨o, p, n, hg, hf⟩ := good_f a b c
  by_cases h : (enc a b c).2 = 0
  · have hf2 := enc_fits h
    rw [if_pos h, decode_f, enc_ok hf2]
    simp only [Option.bind_some]
    rw [dec_encV hf2]
    simp only [if_true, BEq.rfl, Bool.not_true, Bool.or_false]
    rw [if_neg (by simp), hg]
    exact hnext o p n
  · rw [if_neg h, hg]
    exact hnext o p n

theorem IsaWords : ∀ (a0_0 : Int) (a0_1 : Int) (a0_2 : Int) (a1 : Int), (Lit.int .i64 a0_0).wf = true → (Lit.int .i64 a0_1).wf = true → (Lit.int .i64 a0_2).wf = true → (Lit.int .i64 a1).wf = true → ∃ k, donjonlaw15_IsaWords.f k a0_0 a0_1 a0_2 a1 = some true := by
  intro a b c w _ _ _ hw
  refine ⟨7, ?_⟩
  unfold donjonlaw15_IsaWords.f
  rw [known15]
  simp only [Option.bind_some, if_true]
  exact words_round 5 w 0 (by omega) (by omega) a b c (fun o p n => words_round 3 w 1 (by omega) (by omega) o p n (fun o p n => words_end 0 w (wf_i64 hw) 2 (by omega) o p n))
end Go.Proofs.Ytcjkekdmmjfgeaa.Pure
