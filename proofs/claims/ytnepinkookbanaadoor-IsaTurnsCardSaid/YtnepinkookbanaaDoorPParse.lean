/- What label.Parse tells of a label's text. -/
import Derived.Test.YtnepinkookbanaaDoorF24
import Derived.Test.YtnepinkookbanaaDoorPLab
namespace Go.Proofs.YtnepinkookbanaaDoor.Pure
open Go.RowKit Go.Proofs.YtnepinkookbanaaDoor.X Go.Proofs.YtnepinkookbanaaDoorW.PrintWords Go.Proofs.YtnepinkookbanaaDoorW.PrintLast Go.Proofs.YtnepinkookbanaaDoor.Lib Go.Proofs.YtnepinkookbanaaDoorW.PrintMore

theorem index_sign (x y : List UInt8) (c : UInt8) (h : c ∉ x) : Lib.index (x ++ c :: y) [c] = (x.length : Int) := by
  induction x with
  | nil => simp [Lib.index]
  | cons b x ih =>
    rw [List.mem_cons, not_or] at h
    have h2 := ih h.2
    show (if [c].isPrefixOf (b :: (x ++ c :: y)) = true then (0 : Int) else if (Lib.index (x ++ c :: y) [c] == -1) = true then -1 else Lib.index (x ++ c :: y) [c] + 1) = _
    rw [if_neg (by simp [List.isPrefixOf, h.1]), h2, if_neg (by first | (simp; done) | (simp; omega))]
    simp
theorem index_none (x : List UInt8) (c : UInt8) (h : c ∉ x) : Lib.index x [c] = -1 := by
  induction x with
  | nil => simp [Lib.index]
  | cons b x ih =>
    rw [List.mem_cons, not_or] at h
    have h2 := ih h.2
    show (if [c].isPrefixOf (b :: x) = true then (0 : Int) else if (Lib.index x [c] == -1) = true then -1 else Lib.index x [c] + 1) = _
    rw [if_neg (by simp [List.isPrefixOf, h.1]), h2, if_pos (by decide)]
theorem split_sign (x y : List UInt8) (c : UInt8) (k : Nat) (h : c ∉ x) : Lib.splitK [c] 0 (k + 1) (x ++ c :: y) = x :: Lib.splitK [c] 0 k y := by
  rw [Lib.splitK, index_sign x y c h, if_neg (by first | (simp; done) | (simp; omega)), Int.toNat_natCast, Nat.add_zero, List.take_left, List.length_singleton]
  congr 2
  rw [show x ++ c :: y = (x ++ [c]) ++ y by simp, List.drop_left' (by simp)]
theorem itoa_small : ∀ n : Fin 256, 46 ∉ Lib.itoa (n.val : Int) ∧ atoiV (Lib.itoa (n.val : Int)) = (n.val : Int) := by decide +kernel
theorem numeral_part {n : Int} (h0 : 0 ≤ n) (h1 : n < 256) : 46 ∉ Lib.itoa n ∧ atoiV (Lib.itoa n) = n := by
  have h := itoa_small ⟨n.toNat, by omega⟩
  have e : ((n.toNat : Nat) : Int) = n := by omega
  simp only [e] at h
  exact h
theorem textV_list (a b c d : Int) : (textV a b c d).data.toList = Lib.itoa a ++ 46 :: (Lib.itoa b ++ 46 :: (Lib.itoa c ++ 46 :: Lib.itoa d)) := by
  have e : (textV a b c d).data.toList = Lib.itoa a ++ ([46] ++ (Lib.itoa b ++ ([46] ++ (Lib.itoa c ++ ([46] ++ (Lib.itoa d ++ [])))))) := rfl
  rw [e]
  simp
theorem part_list (s : ByteArray) (i : Nat) : ((piecesV s 46).getD i ByteArray.empty).data.toList = (Lib.splitK [46] 0 (Lib.count s.data.toList [46]) s.data.toList).getD i [] := by
  have e : (piecesV s 46).map (·.data.toList) = Lib.splitK [46] 0 (Lib.count s.data.toList [46]) s.data.toList := Lib.splitB_data ⟨#[46]⟩ 0 _ s
  rw [← e, List.getD_eq_getElem?_getD, List.getD_eq_getElem?_getD, List.getElem?_map]
  cases (piecesV s 46)[i]? <;> rfl
/-- A label's text is read as that label. -/
theorem parse_text {a b c d : Int} (h : Lab a b c d) : parseV (textV a b c d) = (a, b, c, d, 0) := by
  obtain ⟨a0, a1, b0, b1, c0, c1, d0, d1⟩ := h
  obtain ⟨na, ea⟩ := numeral_part a0 (by omega : a < 256)
  obtain ⟨nb, eb⟩ := numeral_part b0 b1
  obtain ⟨nc, ec⟩ := numeral_part c0 (by omega : c < 256)
  obtain ⟨nd, ed⟩ := numeral_part d0 d1
  have hl := textV_list a b c d
  have hc : Lib.count (textV a b c d).data.toList [46] = 3 := by
    rw [Lib.count_one, hl]
    simp [List.count_append, List.count_eq_zero.2 na, List.count_eq_zero.2 nb, List.count_eq_zero.2 nc, List.count_eq_zero.2 nd]
  have hs : Lib.splitK [46] 0 3 (textV a b c d).data.toList = [Lib.itoa a, Lib.itoa b, Lib.itoa c, Lib.itoa d] := by
    rw [hl, split_sign _ _ _ _ na, split_sign _ _ _ _ nb, split_sign _ _ _ _ nc]
    rfl
  have p : ∀ i, partV (textV a b c d) i = atoiV ([Lib.itoa a, Lib.itoa b, Lib.itoa c, Lib.itoa d].getD i []) := fun i => by
    unfold partV
    rw [part_list, hc, hs]
  have p0 : partV (textV a b c d) 0 = a := (p 0).trans ea
  have p1 : partV (textV a b c d) 1 = b := (p 1).trans eb
  have p2 : partV (textV a b c d) 2 = c := (p 2).trans ec
  have p3 : partV (textV a b c d) 3 = d := (p 3).trans ed
  have ok : labOk a b c d = true := by
    unfold labOk
    simp only [Bool.and_eq_true, decide_eq_true_eq]
    omega
  unfold parseV
  rw [p0, p1, p2, p3, if_pos ⟨hc, ok, rfl⟩]
/-- What is read is a label, and the text is its own; else nothing is told. -/
theorem parse_ways (s : ByteArray) : parseV s = (0, 0, 0, 0, 1) ∨ ∃ a b c d, parseV s = (a, b, c, d, 0) ∧ Lab a b c d ∧ (textV a b c d).toList = s.toList := by
  unfold parseV
  by_cases h : Lib.countB s ⟨#[46]⟩ = 3 ∧ labOk (partV s 0) (partV s 1) (partV s 2) (partV s 3) = true ∧ (textV (partV s 0) (partV s 1) (partV s 2) (partV s 3)).toList = s.toList
  · rw [if_pos h]
    have ok := h.2.1
    unfold labOk at ok
    simp only [Bool.and_eq_true, decide_eq_true_eq] at ok
    exact .inr ⟨_, _, _, _, rfl, ⟨by omega, by omega, by omega, by omega, by omega, by omega, by omega, by omega⟩, h.2.2⟩
  · rw [if_neg h]
    exact .inl rfl
theorem bytes_eq {x y : ByteArray} (h : x.toList = y.toList) : x = y := by
  rw [Lib.toList_data, Lib.toList_data] at h
  obtain ⟨⟨a⟩⟩ := x
  obtain ⟨⟨b⟩⟩ := y
  have e : a = b := h
  subst e
  rfl
end Go.Proofs.YtnepinkookbanaaDoor.Pure
