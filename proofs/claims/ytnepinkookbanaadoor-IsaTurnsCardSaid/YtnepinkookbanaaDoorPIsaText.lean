/- The instructions' texts: what is written is read again; what is read is written so. -/
import Derived.Test.YtnepinkookbanaaDoorF35
import Derived.Test.YtnepinkookbanaaDoorPIsa2
import Derived.Test.YtnepinkookbanaaDoorPParse
import Derived.Lib.AtoiTie
namespace Go.Proofs.YtnepinkookbanaaDoor.Pure
open Go.RowKit Go.Proofs.YtnepinkookbanaaDoor.X Go.Proofs.YtnepinkookbanaaDoorW.PrintWords Go.Proofs.YtnepinkookbanaaDoorW.PrintLast Go.Proofs.YtnepinkookbanaaDoor.Lib

theorem byte_small {n : Nat} (h : n < 256) : (UInt8.ofNat n).toNat = n := by
  rw [UInt8.toNat_ofNat']
  omega
theorem dec_all (u : Nat) : ∀ b ∈ Lib.decDigits u, 48 ≤ b.toNat ∧ b.toNat ≤ 57 := by
  induction u using Nat.strongRecOn with
  | _ u ih =>
    intro b hb
    rw [Lib.decDigits] at hb
    split at hb
    · rw [List.mem_singleton] at hb
      rw [hb, byte_small (by omega)]
      omega
    · rw [List.mem_append, List.mem_singleton] at hb
      rcases hb with hb | hb
      · exact ih (u / 10) (by omega) b hb
      · rw [hb, byte_small (by omega)]
        omega
theorem decFrom_app (ys : List UInt8) : ∀ (xs : List UInt8) (acc n : Nat), Lib.decFrom acc xs = some n → Lib.decFrom acc (xs ++ ys) = Lib.decFrom n ys
  | [], acc, n, h => by
    obtain rfl := Option.some.inj h
    rfl
  | b :: r, acc, n, h => by
    have e1 : ∀ l : List UInt8, Lib.decFrom acc (b :: l) = (Lib.digitVal b).bind fun d => Lib.decFrom (acc * 10 + d) l := fun l => by
      show (match Lib.digitVal b with | some d => Lib.decFrom (acc * 10 + d) l | none => none) = _
      cases Lib.digitVal b <;> rfl
    rw [List.cons_append, e1]
    rw [e1] at h
    cases hd : Lib.digitVal b with
    | none => rw [hd] at h; exact absurd h (by simp)
    | some d =>
      rw [hd, Option.bind_some] at h
      rw [Option.bind_some]
      exact decFrom_app ys r _ n h
theorem digit_byte {d : Nat} (h : d < 10) : Lib.digitVal (UInt8.ofNat (48 + d)) = some d := by
  unfold Lib.digitVal
  rw [byte_small (by omega), if_pos (by omega)]
  congr 1
  omega
theorem dec_val (u : Nat) : Lib.decFrom 0 (Lib.decDigits u) = some u := by
  induction u using Nat.strongRecOn with
  | _ u ih =>
    rw [Lib.decDigits]
    split
    · rename_i h
      unfold Lib.decFrom
      rw [digit_byte h]
      show some (0 * 10 + u) = some u
      congr 1
      omega
    · rw [decFrom_app _ _ 0 (u / 10) (ih (u / 10) (by omega))]
      unfold Lib.decFrom
      rw [digit_byte (by omega)]
      show some (u / 10 * 10 + u % 10) = some u
      congr 1
      omega
theorem dec_len : ∀ (d u : Nat), u < 10 ^ (d + 1) → 1 ≤ (Lib.decDigits u).length ∧ (Lib.decDigits u).length ≤ d + 1
  | 0, u, h => by
    rw [Lib.decDigits, dif_pos (by simpa using h)]
    simp
  | d + 1, u, h => by
    rw [Lib.decDigits]
    split
    · simp
    · have h2 : u / 10 < 10 ^ (d + 1) := by
        rw [Nat.pow_succ] at h
        omega
      have := dec_len d (u / 10) h2
      rw [List.length_append, List.length_singleton]
      omega
/-- A numeral's signs. -/
theorem itoa_signs (n : Int) : ∀ b ∈ Lib.itoa n, b.toNat = 45 ∨ (48 ≤ b.toNat ∧ b.toNat ≤ 57) := by
  intro b hb
  unfold Lib.itoa at hb
  split at hb
  · rcases List.mem_cons.1 hb with rfl | hb
    · exact .inl rfl
    · exact .inr (dec_all _ b hb)
  · exact .inr (dec_all _ b hb)
theorem itoa_blank (n : Int) : 32 ∉ Lib.itoa n := by
  intro h
  have := itoa_signs n 32 h
  have e : (32 : UInt8).toNat = 32 := rfl
  omega
theorem itoa_len {n : Int} (h0 : -4294967296 ≤ n) (h1 : n ≤ 4294967296) : 1 ≤ (Lib.itoa n).length ∧ (Lib.itoa n).length ≤ 11 := by
  unfold Lib.itoa
  split
  · have := dec_len 9 n.natAbs (by omega)
    rw [List.length_cons]
    omega
  · have := dec_len 9 n.toNat (by omega)
    omega
theorem atoi_itoa (n : Int) : Lib.atoi (Lib.itoa n) = some n := by
  unfold Lib.itoa
  split
  · rename_i h
    have hv := dec_val n.natAbs
    have hl : (Lib.decDigits n.natAbs).isEmpty = false := by
      cases hd : Lib.decDigits n.natAbs with
      | nil => rw [hd] at hv; simp [Lib.decFrom] at hv; omega
      | cons a l => rfl
    have e : Lib.atoi (45 :: Lib.decDigits n.natAbs) = (Lib.decNat (Lib.decDigits n.natAbs)).map fun (m : Nat) => -(m : Int) := rfl
    rw [e]
    unfold Lib.decNat
    rw [hl, if_neg (by decide), hv, Option.map_some]
    congr 1
    omega
  · rename_i h
    have hv := dec_val n.toNat
    have ha := dec_all n.toNat
    cases hd : Lib.decDigits n.toNat with
    | nil =>
      have := congrArg List.length hd
      rw [Lib.decDigits] at this
      split at this <;> simp at this
    | cons a l =>
      rw [hd] at hv ha
      have h3 := ha a List.mem_cons_self
      have e45 : (a == 45) = false := by
        rw [beq_eq_false_iff_ne]
        intro e
        subst e
        have : (45 : UInt8).toNat = 45 := rfl
        omega
      have e43 : (a == 43) = false := by
        rw [beq_eq_false_iff_ne]
        intro e
        subst e
        have : (43 : UInt8).toNat = 43 := rfl
        omega
      unfold Lib.atoi Lib.decNat
      simp only [e45, e43, Bool.false_eq_true, if_false, List.isEmpty_cons, hv, Option.map_some]
      congr 1
      omega
theorem atoiV_itoa {n : Int} (h0 : -4294967296 ≤ n) (h1 : n ≤ 4294967296) : atoiV (Lib.itoa n) = n := by
  have hl := itoa_len h0 h1
  unfold atoiV
  rw [Lib.atoiAll_short _ (by omega), atoi_itoa]
  rfl
/-! ### The text -/
theorem op_blank : ∀ n : Fin 23, (32 : UInt8) ∉ (opName n.val).data.toList ∧ (opName n.val).data.toList.length ≤ 5 := by decide +kernel
theorem op_apart : ∀ i j : Fin 23, (opName i.val).data.toList = (opName j.val).data.toList → i = j := by decide +kernel
theorem itext_list (o p n : Int) : (itextV o p n).data.toList = (opName o.toNat).data.toList ++ 32 :: (Lib.itoa p ++ 32 :: Lib.itoa n) := by
  have e : (itextV o p n).data.toList = (opName o.toNat).data.toList ++ ([32] ++ (Lib.itoa p ++ ([32] ++ (Lib.itoa n ++ [])))) := rfl
  rw [e]
  simp
theorem part_list32 (s : ByteArray) (i : Nat) : (ipartV s i).data.toList = (Lib.splitK [32] 0 (Lib.count s.data.toList [32]) s.data.toList).getD i [] := by
  have e : (piecesV s 32).map (·.data.toList) = Lib.splitK [32] 0 (Lib.count s.data.toList [32]) s.data.toList := Lib.splitB_data ⟨#[32]⟩ 0 _ s
  unfold ipartV
  rw [← e, List.getD_eq_getElem?_getD, List.getD_eq_getElem?_getD, List.getElem?_map]
  cases (piecesV s 32)[i]? <;> rfl
theorem iloop_text {o p n : Int} (h : fits o p n) (l0 : ByteArray) (hl : l0.data.toList = (opName o.toNat).data.toList) : ∀ m : Nat, m ≤ 23 → 23 - m ≤ o.toNat → iloop (itextV o p n) l0 p n m = (o, p, n, 0)
  | 0, _, h2 => by
    have := h.2.1
    have := h.1
    omega
  | m + 1, hm, h2 => by
    obtain ⟨h0, h1, h3, h4, h5, h6⟩ := h
    rw [iloop]
    by_cases e : 22 - m = o.toNat
    · have eo : ((22 - m : Nat) : Int) = o := by omega
      rw [if_pos (by rw [Lib.toList_data, Lib.toList_data, hl, e]), eo, if_pos, if_pos rfl]
      unfold ipOk
      simp only [Bool.and_eq_true, decide_eq_true_eq]
      omega
    · rw [if_neg]
      · exact iloop_text ⟨h0, h1, h3, h4, h5, h6⟩ l0 hl m (by omega) (by omega)
      · intro hx
        rw [Lib.toList_data, Lib.toList_data, hl] at hx
        have := op_apart ⟨22 - m, by omega⟩ ⟨o.toNat, by omega⟩ hx
        rw [Fin.mk.injEq] at this
        exact e this
theorem iparse_text {o p n : Int} (h : fits o p n) : iparseV (itextV o p n) = (o, p, n, 0) := by
  have hf := h
  obtain ⟨h0, h1, h3, h4, h5, h6⟩ := h
  have nb := (op_blank ⟨o.toNat, by omega⟩).1
  have hl := itext_list o p n
  have hc : Lib.count (itextV o p n).data.toList [32] = 2 := by
    rw [Lib.count_one, hl]
    simp [List.count_append, List.count_eq_zero.2 nb, List.count_eq_zero.2 (itoa_blank p), List.count_eq_zero.2 (itoa_blank n)]
  have hs : Lib.splitK [32] 0 2 (itextV o p n).data.toList = [(opName o.toNat).data.toList, Lib.itoa p, Lib.itoa n] := by
    rw [hl, split_sign _ _ _ _ nb, split_sign _ _ _ _ (itoa_blank p)]
    rfl
  have p0 : (ipartV (itextV o p n) 0).data.toList = (opName o.toNat).data.toList := by rw [part_list32, hc, hs]; rfl
  have p1 : (ipartV (itextV o p n) 1).data.toList = Lib.itoa p := by rw [part_list32, hc, hs]; rfl
  have p2 : (ipartV (itextV o p n) 2).data.toList = Lib.itoa n := by rw [part_list32, hc, hs]; rfl
  unfold iparseV
  rw [if_pos hc, p1, p2, atoiV_itoa (by omega) (by omega), atoiV_itoa (by omega) (by omega)]
  exact iloop_text hf _ p0 23 (Nat.le_refl _) (by omega)
theorem iloop_ways (s l0 : ByteArray) (p n : Int) : ∀ m : Nat, m ≤ 23 → iloop s l0 p n m = (0, 0, 0, 6) ∨ ∃ o : Int, iloop s l0 p n m = (o, p, n, 0) ∧ fits o p n ∧ itextV o p n = s
  | 0, _ => .inl rfl
  | m + 1, hm => by
    rw [iloop]
    by_cases h1 : (opName (22 - m)).toList = l0.toList
    · rw [if_pos h1]
      by_cases h2 : ipOk p n = true
      · rw [if_pos h2]
        by_cases h3 : (itextV ((22 - m : Nat) : Int) p n).toList = s.toList
        · rw [if_pos h3]
          unfold ipOk at h2
          simp only [Bool.and_eq_true, decide_eq_true_eq] at h2
          exact .inr ⟨_, rfl, ⟨by omega, by omega, by omega, by omega, by omega, by omega⟩, bytes_eq h3⟩
        · rw [if_neg h3]
          exact iloop_ways s l0 p n m (by omega)
      · rw [if_neg h2]
        exact iloop_ways s l0 p n m (by omega)
    · rw [if_neg h1]
      exact iloop_ways s l0 p n m (by omega)
/-- What is read is an instruction such as may be, and the text is its own; else nothing is told. -/
theorem iparse_ways (s : ByteArray) : iparseV s = (0, 0, 0, 6) ∨ ∃ o p n, iparseV s = (o, p, n, 0) ∧ fits o p n ∧ itextV o p n = s := by
  unfold iparseV
  split
  · rcases iloop_ways s (ipartV s 0) (atoiV (ipartV s 1).data.toList) (atoiV (ipartV s 2).data.toList) 23 (Nat.le_refl _) with e | ⟨o, e, hf, ht⟩
    · exact .inl e
    · exact .inr ⟨o, _, _, e, hf, ht⟩
  · exact .inl rfl
end Go.Proofs.YtnepinkookbanaaDoor.Pure
