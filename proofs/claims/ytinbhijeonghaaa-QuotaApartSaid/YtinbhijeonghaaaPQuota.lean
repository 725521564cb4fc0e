/- Rows of labels in plain numbers: one more, in its place; how often a label stands there; a row in order is what its sort tells. -/
import Derived.Test.YtinbhijeonghaaaF18
import Derived.Test.YtinbhijeonghaaaF20
import Derived.Test.YtinbhijeonghaaaQSort
import Derived.Test.YtinbhijeonghaaaPLab4
namespace Go.Proofs.Ytinbhijeonghaaa.Pure
open Go.RowKit Go.Proofs.Ytinbhijeonghaaa.X Go.Proofs.YtinbhijeonghaaaW.PrintWords Go.Proofs.YtinbhijeonghaaaW.PrintLast Go.Proofs.Ytinbhijeonghaaa.Lib Go.Proofs.YtinbhijeonghaaaW.PrintMore

/-- A label such as may be. -/
def goodS (x : SL) : SL := ⟨x.f0 % 4, x.f1 % 256, x.f2 % 4, x.f3 % 256⟩
theorem goodS_f (x : SL) : donjonlaw4_Good.f x.f0 x.f1 x.f2 x.f3 = some ((goodS x).f0, (goodS x).f1, (goodS x).f2, (goodS x).f3) := good4_f _ _ _ _
theorem wf_of {n : Int} (h0 : -9223372036854775808 ≤ n) (h1 : n ≤ 9223372036854775807) : (Lit.int .i64 n).wf = true := by
  exact WalkArith.wf_i64 (by omega)
theorem goodS_ok (x : SL) : okL (goodS x) := by
  refine ⟨wf_of ?_ ?_, wf_of ?_ ?_, wf_of ?_ ?_, wf_of ?_ ?_⟩ <;> simp only [goodS] <;> omega
theorem less_f (x y : SL) : donjonref4_Less.f x.f0 x.f1 x.f2 x.f3 y.f0 y.f1 y.f2 y.f3 = some (lessS x y) := by
  unfold donjonref4_Less.f lessS lessK
  by_cases h0 : x.f0 = y.f0 <;> by_cases h1 : x.f1 = y.f1 <;> by_cases h2 : x.f2 = y.f2 <;> by_cases h3 : x.f3 = y.f3 <;> simp [h0, h1, h2, h3]
/-- One more, behind whatever is not more than it. -/
def insS (x : SL) : List SL → List SL
  | [] => [x]
  | y :: r => if lessS x y = true then x :: y :: r else y :: insS x r
theorem insS_perm (x : SL) : ∀ l : List SL, (insS x l).Perm (x :: l)
  | [] => .refl _
  | y :: r => by
    unfold insS
    split
    · exact .refl _
    · exact ((insS_perm x r).cons y).trans (.swap x y r)
theorem insS_length (x : SL) (l : List SL) : (insS x l).length = l.length + 1 := by rw [(insS_perm x l).length_eq]; rfl
theorem insS_count (x y : SL) (l : List SL) : (insS x l).count y = if y = x then l.count y + 1 else l.count y := by
  rw [(insS_perm x l).count_eq]
  by_cases h : y = x
  · subst h; simp
  · rw [List.count_cons, beq_eq_false_iff_ne.2 (fun e => h e.symm)]
    simp [h]
theorem insS_mem {x y : SL} {l : List SL} (h : y ∈ insS x l) : y = x ∨ y ∈ l := List.mem_cons.1 ((insS_perm x l).mem_iff.1 h)
/-- In order: none is less than one ahead of it. -/
def SortedS (l : List SL) : Prop := l.Pairwise fun x y => lessS y x = false
theorem lessS_asym {x y : SL} (h : lessS x y = true) : lessS y x = false := by
  cases h2 : lessS y x
  · rfl
  · have := lessS_trans h h2
    rw [lessS_irrefl] at this
    cases this
theorem insS_sorted (x : SL) : ∀ {l : List SL}, SortedS l → SortedS (insS x l)
  | [], _ => by simp [insS, SortedS]
  | y :: r, h => by
    obtain ⟨h1, h2⟩ := List.pairwise_cons.1 h
    unfold insS
    split
    · rename_i hxy
      refine List.pairwise_cons.2 ⟨fun z hz => ?_, h⟩
      rcases List.mem_cons.1 hz with rfl | hz
      · exact lessS_asym hxy
      · exact lessS_ntrans (h1 z hz) (lessS_asym hxy)
    · rename_i hxy
      refine List.pairwise_cons.2 ⟨fun z hz => ?_, insS_sorted x h2⟩
      rcases insS_mem hz with rfl | hz
      · simpa using hxy
      · exact h1 z hz
theorem eq_of_sorted : ∀ {l l' : List SL}, SortedS l → SortedS l' → l.Perm l' → l = l'
  | [], l', _, _, hp => hp.nil_eq
  | a :: l, [], _, _, hp => absurd hp.length_eq (by simp)
  | a :: l, b :: l', h, h', hp => by
    obtain ⟨h1, h2⟩ := List.pairwise_cons.1 h
    obtain ⟨h1', h2'⟩ := List.pairwise_cons.1 h'
    have hab : a = b := by
      rcases List.mem_cons.1 (hp.mem_iff.1 List.mem_cons_self) with e | ha
      · exact e
      · rcases List.mem_cons.1 (hp.mem_iff.2 List.mem_cons_self) with e | hb
        · exact e.symm
        · exact lessS_tot (h1' a ha) (h1 b hb)
    subst hab
    rw [eq_of_sorted h2 h2' hp.cons_inv]
theorem sortS_perm (l : List SL) : (sortS l).Perm l := List.mergeSort_perm _ _
theorem sortS_sorted (l : List SL) : SortedS (sortS l) := by
  have h := List.pairwise_mergeSort (le := fun x y : SL => !lessS y x) (fun a b c h1 h2 => by
    simp only [Bool.not_eq_true'] at h1 h2 ⊢
    exact lessS_ntrans h2 h1) (fun a b => by
    cases h2 : lessS b a
    · simp
    · rw [lessS_asym h2]; rfl) l
  exact h.imp (fun h => by simpa using h)
/-- Whatever has the same labels, each as often: its sort is the row in order. -/
theorem sortS_eq {l l' : List SL} (h : SortedS l) (hl : ∀ x ∈ l, okL x) (hl' : ∀ x ∈ l', okL x) (hc : ∀ x, okL x → l'.count x = l.count x) : sortS l' = l := by
  refine eq_of_sorted (sortS_sorted l') h ((sortS_perm l').trans (List.perm_iff_count.2 fun x => ?_))
  by_cases hx : okL x
  · exact hc x hx
  · rw [List.count_eq_zero.2 (fun hm => hx (hl' x hm)), List.count_eq_zero.2 (fun hm => hx (hl x hm))]
theorem rd_at (pre : List SL) (y : SL) (r : List SL) : rd_T43 (pre ++ y :: r) (pre.length : Int) = y := by
  unfold rd_T43
  simp
theorem add_l0 (x : SL) : ∀ (post pre : List SL) (k : Nat), post.length < k → pre.length + post.length ≤ 100000 → donjonref12_Add.l0 k (pre ++ post) (pre.length : Int) x.f0 x.f1 x.f2 x.f3 = some (pre ++ insS x post)
  | [], pre, k + 1, _, hl => by
    have ht : (pre ++ ([] : List SL)).take (pre.length : Int).toNat = pre := by simp
    have hd : (pre ++ ([] : List SL)).drop (pre.length : Int).toNat = [] := by simp
    rw [donjonref12_Add.l0, if_neg (by simp), if_pos (by omega), if_pos (by simp), Option.bind_some, ht, if_pos (by simp; omega), Option.bind_some, if_pos (by simp; omega), Option.bind_some, hd, Option.bind_some, if_pos (by simp; omega)]
    simp [insS]
  | y :: r, pre, k + 1, hk, hl => by
    simp only [List.length_cons] at hk hl
    have ht : (pre ++ y :: r).take (pre.length : Int).toNat = pre := by simp
    have hd : (pre ++ y :: r).drop (pre.length : Int).toNat = y :: r := by simp
    rw [donjonref12_Add.l0, if_pos (by simp; omega), if_pos (by omega), rd_at, less_f, Option.bind_some]
    unfold insS
    by_cases h : lessS x y = true
    · rw [if_pos h, if_pos (by simp; omega), Option.bind_some, ht, if_pos (by simp; omega), Option.bind_some, if_pos (by simp; omega), Option.bind_some, hd, Option.bind_some, if_pos (by simp; omega), if_pos h]
      simp
    · rw [if_neg h, if_neg h, wrap64_id (by omega) (by omega)]
      have e := add_l0 x r (pre ++ [y]) k (by omega) (by simp; omega)
      rw [List.append_assoc, List.append_assoc, List.length_append] at e
      simpa using e
theorem add_f (x : SL) (l : List SL) (k : Nat) (hk : l.length < k) (hl : l.length ≤ 100000) : donjonref12_Add.f k l x.f0 x.f1 x.f2 x.f3 = some (insS x l) := by
  have h := add_l0 x l [] k hk (by simpa using hl)
  simpa [donjonref12_Add.f] using h
theorem eq_beq (x y : SL) : (y.f0 == x.f0 && (y.f1 == x.f1 && (y.f2 == x.f2 && (y.f3 == x.f3)))) = decide (y = x) := by
  by_cases h : y = x
  · subst h; simp
  · rw [decide_eq_false h]
    refine Bool.eq_false_iff.2 fun e => h ?_
    simp only [Bool.and_eq_true, beq_iff_eq] at e
    cases x; cases y
    simp_all
theorem of_l0 (x : SL) : ∀ (post pre : List SL) (k : Nat) (c : Nat), post.length < k → c ≤ pre.length ∧ pre.length + post.length ≤ 100000 → donjonref12_Of.l0 k (pre ++ post) (c : Int) (pre.length : Int) x.f0 x.f1 x.f2 x.f3 = some ((c + post.count x : Nat) : Int)
  | [], pre, k + 1, c, _, hl => by
    rw [donjonref12_Of.l0, if_neg (by simp)]
    simp
  | y :: r, pre, k + 1, c, hk, hl => by
    simp only [List.length_cons] at hk hl
    rw [donjonref12_Of.l0, if_pos (by simp; omega), if_pos (by omega), rd_at, eq_beq]
    by_cases h : y = x
    · subst h
      rw [if_pos (by simp), wrap64_id (by omega) (by omega), wrap64_id (by omega) (by omega)]
      have e := of_l0 y r (pre ++ [y]) k (c + 1) (by omega) (by rw [List.length_append, List.length_singleton]; omega)
      rw [List.append_assoc, List.length_append] at e
      rw [List.count_cons_self]
      have e2 : ((c + 1 : Nat) : Int) = (c : Int) + 1 := by omega
      rw [e2] at e
      simpa [Nat.add_assoc, Nat.add_comm, Nat.add_left_comm] using e
    · rw [if_neg (by simpa using h), wrap64_id (by omega) (by omega)]
      have e := of_l0 x r (pre ++ [y]) k c (by omega) (by rw [List.length_append, List.length_singleton]; omega)
      rw [List.append_assoc, List.length_append] at e
      rw [List.count_cons_of_ne h]
      simpa using e
theorem of_f (x : SL) (l : List SL) (k : Nat) (hk : l.length < k) (hl : l.length ≤ 100000) : donjonref12_Of.f k l x.f0 x.f1 x.f2 x.f3 = some (l.count x : Int) := by
  have h := of_l0 x l [] k 0 hk (by simpa using hl)
  simpa [donjonref12_Of.f] using h
theorem sorted_rd {l : List SL} (h : SortedS l) {i j : Int} (h0 : 0 ≤ i) (hij : i < j) (hj : j < (l.length : Int)) : lessS (rd_T43 l j) (rd_T43 l i) = false := by
  have h1 := List.pairwise_iff_getElem.1 h i.toNat j.toNat (by omega) (by omega) (by omega)
  unfold rd_T43
  rw [List.getD_eq_getElem?_getD, List.getD_eq_getElem?_getD, List.getElem?_eq_getElem (by omega), List.getElem?_eq_getElem (by omega)]
  exact h1
end Go.Proofs.Ytinbhijeonghaaa.Pure
