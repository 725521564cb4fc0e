/- MailLimits, over numbers and lists: texts of MaxText bytes are taken, longer ones, names that are none, labels that may not be, are refused. For every input. -/
import Derived.Test.YtdbnjjkapelekaaF3
import Derived.Test.YtdbnjjkapelekaaBits
namespace Go.Proofs.Ytdbnjjkapelekaa.Pure
open Go.RowKit Go.Proofs.Ytdbnjjkapelekaa.X Go.Proofs.YtdbnjjkapelekaaW.PrintWords Go.Proofs.YtdbnjjkapelekaaW.PrintLast Go.Proofs.Ytdbnjjkapelekaa.Lib

theorem limits_known : donjonlaw18_known.f 20 = some true := by decide +kernel
set_option maxRecDepth 100000 in
theorem limits_text : ∀ n : Fin 60, mail_Send.f 20 [] (⟨#[97]⟩ : ByteArray) 0 0 0 0 (⟨#[98]⟩ : ByteArray) 0 0 0 0 (strOfNums (List.replicate n.val 0)) = some (if n.val ≤ 40 then (1, 0) else (0, 5)) := by decide +kernel
set_option maxRecDepth 100000 in
theorem limits_sec : ∀ b : Fin 100, mail_Send.f 19 [] (⟨#[97]⟩ : ByteArray) (wrap64 (3 + (1 + (b.val : Int)))) 0 0 0 (⟨#[98]⟩ : ByteArray) 0 0 0 0 (⟨#[]⟩ : ByteArray) = some (0, 1) := by decide +kernel
set_option maxRecDepth 100000 in
theorem limits_cats : ∀ b : Fin 100, mail_Send.f 19 [] (⟨#[97]⟩ : ByteArray) 0 0 0 0 (⟨#[98]⟩ : ByteArray) 0 0 0 (wrap64 (255 + (1 + (b.val : Int)))) (⟨#[]⟩ : ByteArray) = some (0, 1) := by decide +kernel
theorem limits_j (which b : Int) (hb0 : 0 ≤ b) (hb : b < 100) (s : ByteArray) : donjonlaw18_MailLimits.j0 20 which (1 + b) false (⟨#[97]⟩ : ByteArray) 0 0 0 0 (⟨#[98]⟩ : ByteArray) 0 0 0 0 s = some true := by
  rw [donjonlaw18_MailLimits.j0, if_neg (by simp)]
  obtain ⟨r, e, h1, h2, _⟩ := within_small (a := which) (n := 5) (by omega) (by omega)
  have g : donjonlaw18_within.f which 5 = some r := e
  rw [g, Option.bind_some]
  clear e g
  have hr : r = 0 ∨ r = 1 ∨ r = 2 ∨ r = 3 ∨ r = 4 := by omega
  rcases hr with rfl | rfl | rfl | rfl | rfl
  · rw [if_pos rfl]
    decide +kernel
  · rw [if_neg (by decide), if_pos rfl]
    decide +kernel
  · have h := limits_sec ⟨b.toNat, by omega⟩
    have e : ((⟨b.toNat, by omega⟩ : Fin 100).val : Int) = b := by simp; omega
    rw [e] at h
    rw [if_neg (by decide), if_neg (by decide), if_pos rfl, h]
    rfl
  · have h := limits_cats ⟨b.toNat, by omega⟩
    have e : ((⟨b.toNat, by omega⟩ : Fin 100).val : Int) = b := by simp; omega
    rw [e] at h
    rw [if_neg (by decide), if_neg (by decide), if_neg (by decide), if_pos rfl, h]
    rfl
  · rw [if_neg (by decide), if_neg (by decide), if_neg (by decide), if_neg (by decide), if_pos rfl]
    decide +kernel

theorem MailLimits : ∀ (a0 : Int) (a1 : Int) (a2 : Int), (Lit.int .i64 a0).wf = true → (Lit.int .i64 a1).wf = true → (Lit.int .i64 a2).wf = true → ∃ k, donjonlaw18_MailLimits.f k a0 a1 a2 = some true := by
  intro a0 a1 a2 _ _ _
  refine ⟨20, ?_⟩
  unfold donjonlaw18_MailLimits.f
  rw [limits_known, Option.bind_some, if_pos rfl]
  obtain ⟨n, e0, h1, h2, _⟩ := within_small (a := a0) (n := 60) (by omega) (by omega)
  obtain ⟨b, e1, h3, h4, _⟩ := within_small (a := a2) (n := 100) (by omega) (by omega)
  have g0 : donjonlaw18_within.f a0 60 = some n := e0
  have g1 : donjonlaw18_within.f a2 100 = some b := e1
  clear e0 e1
  have h := limits_text ⟨n.toNat, by omega⟩
  rw [g0, Option.bind_some, g1, Option.bind_some, if_pos h1, if_pos (by omega), Option.bind_some, h, Option.bind_some, wrap64_id (by omega) (by omega)]
  have hj := limits_j a1 b h3 h4 (strOfNums (List.replicate n.toNat 0))
  by_cases hn : n.toNat ≤ 40
  · have hd : decide (n ≤ 40) = true := decide_eq_true (by omega)
    simp only [hn, if_true, hd]
    rw [if_neg (by decide)]
    exact hj
  · have hd : decide (n ≤ 40) = false := decide_eq_false (by omega)
    simp only [hn, if_false, hd]
    rw [if_neg (by decide), if_neg (by decide)]
    exact hj
end Go.Proofs.Ytdbnjjkapelekaa.Pure
