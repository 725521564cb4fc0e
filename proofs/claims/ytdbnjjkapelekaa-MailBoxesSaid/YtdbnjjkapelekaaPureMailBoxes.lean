/- MailBoxes, over numbers and lists: each box has its own messages, in order; what is taken is taken out of it alone. For every input. -/
import Derived.Test.YtdbnjjkapelekaaF4
import Derived.Test.YtdbnjjkapelekaaPLab
import Derived.Test.YtdbnjjkapelekaaF12
import Derived.Test.YtdbnjjkapelekaaHO
namespace Go.Proofs.Ytdbnjjkapelekaa.Pure
open Go.RowKit Go.Proofs.Ytdbnjjkapelekaa.X Go.Proofs.YtdbnjjkapelekaaW.PrintWords Go.Proofs.YtdbnjjkapelekaaW.PrintLast Go.Proofs.Ytdbnjjkapelekaa.Lib

/-- A message, made such as may be. -/
theorem good_some (u : ByteArray) (a b c d : Int) (v : ByteArray) (a' b' c' d' : Int) (text : ByteArray) (n : Int) :
    ∃ u2 a2 b2 c2 d2 v2 a3 b3 c3 d3 text2, donjonlaw18_good.f u a b c d v a' b' c' d' text n = some (u2, a2, b2, c2, d2, v2, a3, b3, c3, d3, text2) := by
  obtain ⟨t, et, t0, t1, _⟩ := within_small (a := n) (n := 4) (by omega) (by omega)
  have ew : donjonlaw18_within.f n 4 = some t := et
  obtain ⟨s, es, s0, s1, _⟩ := within_small (a := wrap64 (Int.tdiv n 4)) (n := 4) (by omega) (by omega)
  have ew2 : donjonlaw18_within.f (wrap64 (Int.tdiv n 4)) 4 = some s := es
  unfold donjonlaw18_good.f
  rw [ew, Option.bind_some, Option.bind_some, ew2, Option.bind_some, Option.bind_some, good4_f, Option.bind_some, good4_f, Option.bind_some]
  by_cases hs : (text.size : Int) > 40
  · rw [if_pos hs, if_pos (by decide), if_pos (by omega)]
    exact ⟨_, _, _, _, _, _, _, _, _, _, _, rfl⟩
  · rw [if_neg hs]
    exact ⟨_, _, _, _, _, _, _, _, _, _, _, rfl⟩
abbrev Mg := S28
def mineB (u : ByteArray) (t : Int) (x : Mg) : Bool := decide (x.f2.toList = u.toList) && (x.f3.f0 == t && (x.f3.f1 == 0 && (x.f3.f2 == 0 && (x.f3.f3 == 0))))
theorem mine_f (u : ByteArray) (t : Int) (x : Mg) : mail_mine.f x.f0 x.f1.f0 x.f1.f1 x.f1.f2 x.f1.f3 x.f2 x.f3.f0 x.f3.f1 x.f3.f2 x.f3.f3 x.f4 u t 0 0 0 = some (mineB u t x) := by
  unfold mail_mine.f mineB
  by_cases h : x.f2.toList = u.toList
  · rw [if_pos h, decide_eq_true h, Bool.true_and]
  · rw [if_neg h, decide_eq_false h, Bool.false_and]
theorem rdM {l : List Mg} {i : Nat} (h : i < l.length) : rd_T28 l (i : Int) = l[i] := by
  unfold rd_T28
  rw [Int.toNat_natCast, List.getD_eq_getElem?_getD, List.getElem?_eq_getElem h]
  rfl
theorem wNextM {i : Nat} (h : i < 100) : wrap64 ((i : Int) + 1) = ((i + 1 : Nat) : Int) := by rw [wrap64_id (by omega) (by omega)]; omega
theorem in_l (u : ByteArray) (t : Int) (L : List Mg) (hL : L.length ≤ 15) : ∀ (n i : Nat) (out : List Mg), i + n = L.length → out.length ≤ i → ∀ k, n < k →
    mail_In.l0 k u out L (L.length : Int) (i : Int) t 0 0 0 = some (out ++ (L.drop i).filter (mineB u t)) := by
  intro n
  induction n with
  | zero =>
    intro i out hi ho k hk
    obtain ⟨k, rfl⟩ : ∃ q, k = q + 1 := ⟨k - 1, by omega⟩
    rw [mail_In.l0, if_neg (by omega), List.drop_of_length_le (by omega), List.filter_nil, List.append_nil]
  | succ n ih =>
    intro i out hi ho k hk
    obtain ⟨k, rfl⟩ : ∃ q, k = q + 1 := ⟨k - 1, by omega⟩
    have hlt : i < L.length := by omega
    rw [mail_In.l0, if_pos (by omega), if_pos (by omega), if_pos (by omega), mine_f, Option.bind_some, wNextM (by omega), rdM hlt, List.drop_eq_getElem_cons hlt]
    by_cases hm : mineB u t L[i] = true
    · rw [if_pos hm, if_pos (by omega), ih (i + 1) _ (by omega) (by simp; omega) k (by omega), List.filter_cons_of_pos hm, List.append_assoc]
      rfl
    · rw [if_neg hm, ih (i + 1) out (by omega) (by omega) k (by omega), List.filter_cons_of_neg hm]
theorem rin_l (u : ByteArray) (t : Int) (L : List Mg) (hL : L.length ≤ 15) : ∀ (n i : Nat) (out : List Mg), i + n = L.length → out.length ≤ i → ∀ k, n < k →
    donjonref18_In.l0 k L u out (i : Int) t 0 0 0 = some (out ++ (L.drop i).filter (mineB u t)) := by
  intro n
  induction n with
  | zero =>
    intro i out hi ho k hk
    obtain ⟨k, rfl⟩ : ∃ q, k = q + 1 := ⟨k - 1, by omega⟩
    rw [donjonref18_In.l0, if_neg (by omega), List.drop_of_length_le (by omega), List.filter_nil, List.append_nil]
  | succ n ih =>
    intro i out hi ho k hk
    obtain ⟨k, rfl⟩ : ∃ q, k = q + 1 := ⟨k - 1, by omega⟩
    have hlt : i < L.length := by omega
    rw [donjonref18_In.l0, if_pos (by omega), if_pos (by omega), wNextM (by omega), rdM hlt, List.drop_eq_getElem_cons hlt]
    by_cases h1 : L[i].f2.toList = u.toList
    · rw [if_pos h1]
      by_cases h2 : (L[i].f3.f0 == t && (L[i].f3.f1 == 0 && (L[i].f3.f2 == 0 && (L[i].f3.f3 == 0)))) = true
      · have hm : mineB u t L[i] = true := by unfold mineB; rw [decide_eq_true h1, Bool.true_and]; exact h2
        rw [if_pos h2, if_pos (by omega), ih (i + 1) _ (by omega) (by simp; omega) k (by omega), List.filter_cons_of_pos hm, List.append_assoc]
        rfl
      · have hm : ¬ mineB u t L[i] = true := by unfold mineB; rw [decide_eq_true h1, Bool.true_and]; exact h2
        rw [if_neg h2, ih (i + 1) out (by omega) (by omega) k (by omega), List.filter_cons_of_neg hm]
    · have hm : ¬ mineB u t L[i] = true := by unfold mineB; rw [decide_eq_false h1, Bool.false_and]; simp
      rw [if_neg h1, ih (i + 1) out (by omega) (by omega) k (by omega), List.filter_cons_of_neg hm]
/-- Where the n-th message of a box stands. -/
def posn (u : ByteArray) (t : Int) : List Mg → Int → Nat → Option Nat
  | [], _, _ => none
  | x :: r, n, i => if mineB u t x = true then (if n = 1 then some i else posn u t r (n - 1) (i + 1)) else posn u t r n (i + 1)
theorem posn_some (u : ByteArray) (t : Int) : ∀ (S : List Mg) (n : Int) (i p : Nat), posn u t S n i = some p → 1 ≤ n ∧ n ≤ ((S.filter (mineB u t)).length : Int) ∧ i ≤ p ∧ ∃ x, S[p - i]? = some x ∧ (S.filter (mineB u t))[(n - 1).toNat]? = some x := by
  intro S
  induction S with
  | nil => intro n i p h; exact absurd h (by simp [posn])
  | cons x r ih =>
    intro n i p h
    rw [posn] at h
    by_cases hm : mineB u t x = true
    · rw [if_pos hm] at h
      rw [List.filter_cons_of_pos hm]
      by_cases hn : n = 1
      · rw [if_pos hn] at h
        obtain rfl := Option.some.inj h
        subst hn
        exact ⟨by omega, by simp only [List.length_cons]; omega, Nat.le_refl _, x, by simp, by simp⟩
      · rw [if_neg hn] at h
        obtain ⟨h1, h2, h3, y, h4, h5⟩ := ih _ _ _ h
        refine ⟨by omega, by simp only [List.length_cons]; omega, by omega, y, ?_, ?_⟩
        · rw [show p - i = (p - (i + 1)) + 1 by omega, List.getElem?_cons_succ]
          exact h4
        · rw [show (n - 1).toNat = (n - 1 - 1).toNat + 1 by omega, List.getElem?_cons_succ]
          exact h5
    · rw [if_neg hm] at h
      rw [List.filter_cons_of_neg hm]
      obtain ⟨h1, h2, h3, y, h4, h5⟩ := ih _ _ _ h
      refine ⟨h1, h2, by omega, y, ?_, h5⟩
      rw [show p - i = (p - (i + 1)) + 1 by omega, List.getElem?_cons_succ]
      exact h4
theorem posn_none (u : ByteArray) (t : Int) : ∀ (S : List Mg) (n : Int) (i : Nat), posn u t S n i = none → ¬ (1 ≤ n ∧ n ≤ ((S.filter (mineB u t)).length : Int)) := by
  intro S
  induction S with
  | nil => intro n i _ ⟨h1, h2⟩; simp at h2; omega
  | cons x r ih =>
    intro n i h
    rw [posn] at h
    by_cases hm : mineB u t x = true
    · rw [if_pos hm] at h
      rw [List.filter_cons_of_pos hm]
      by_cases hn : n = 1
      · rw [if_pos hn] at h
        exact absurd h (by simp)
      · rw [if_neg hn] at h
        have := ih _ _ h
        simp only [List.length_cons]
        omega
    · rw [if_neg hm] at h
      rw [List.filter_cons_of_neg hm]
      exact ih _ _ h
abbrev Tk := List Mg × ByteArray × Int × Int × Int × Int × ByteArray × Int × Int × Int × Int × ByteArray × Int
def msgV (q : List Mg) (x : Mg) : Tk := (q, x.f0, x.f1.f0, x.f1.f1, x.f1.f2, x.f1.f3, x.f2, x.f3.f0, x.f3.f1, x.f3.f2, x.f3.f3, x.f4, 0)
def noneV : Tk := (([] : List Mg), (⟨#[]⟩ : ByteArray), 0, 0, 0, 0, (⟨#[]⟩ : ByteArray), 0, 0, 0, 0, (⟨#[]⟩ : ByteArray), 2)
def tookV (L : List Mg) : Option Nat → Tk
  | some p => msgV (L.eraseIdx p) (rd_T28 L (p : Int))
  | none => noneV
theorem take_l (u : ByteArray) (t : Int) (L : List Mg) (hL : L.length ≤ 15) : ∀ (n i : Nat) (c : Int), i + n = L.length → -9223372036854775808 - (i : Int) ≤ c → c ≤ 9223372036854775807 → ∀ k, n < k →
    mail_Take.l0 k u (wrap64 c) L L (L.length : Int) (i : Int) t 0 0 0 = some (tookV L (posn u t (L.drop i) c i)) := by
  intro n
  induction n with
  | zero =>
    intro i c hi _ _ k hk
    obtain ⟨k, rfl⟩ : ∃ q, k = q + 1 := ⟨k - 1, by omega⟩
    rw [mail_Take.l0, if_neg (by omega), List.drop_of_length_le (by omega)]
    rfl
  | succ n ih =>
    intro i c hi hc1 hc2 k hk
    obtain ⟨k, rfl⟩ : ∃ q, k = q + 1 := ⟨k - 1, by omega⟩
    have hlt : i < L.length := by omega
    rw [mail_Take.l0, if_pos (by omega), if_pos (by omega), if_pos (by omega), mine_f, Option.bind_some, wNextM (by omega), List.drop_eq_getElem_cons hlt, posn, rdM hlt]
    have hw : wrap64 (wrap64 c - 1) = wrap64 (c - 1) := by unfold wrap64; omega
    have h0 : wrap64 (c - 1) = 0 ↔ c = 1 := by unfold wrap64; omega
    rw [hw]
    by_cases hm : mineB u t L[i] = true
    · rw [if_pos hm, if_pos hm]
      by_cases h1 : c = 1
      · rw [if_pos (h0.2 h1), if_pos h1]
        rw [show api_Message.f L (i : Int) ((i + 1 : Nat) : Int) = some (L.eraseIdx i) by
          unfold api_Message.f
          rw [wNextM (by omega), if_pos ⟨by omega, by omega, rfl⟩, Int.toNat_natCast]]
        rw [Option.bind_some]
        show _ = some (msgV (L.eraseIdx i) (rd_T28 L (i : Int)))
        rw [rdM hlt]
        rfl
      · rw [if_neg (fun h => h1 (h0.1 h)), if_neg h1, ih (i + 1) (c - 1) (by omega) (by omega) (by omega) k (by omega)]
    · rw [if_neg hm, if_neg hm, ih (i + 1) c (by omega) (by omega) hc2 k (by omega)]
theorem rtake_more (u : ByteArray) (t c : Int) (L : List Mg) (hL : L.length ≤ 15) (x : Mg) : ∀ (n i : Nat) (out : List Mg) (q : Int), i + n = L.length → out.length ≤ i → c ≤ q → 0 ≤ q → q ≤ (i : Int) → ∀ k, 2 * n < k →
    donjonref18_Take.l0 k L u c out q true (i : Int) t 0 0 0 x.f0 x.f1.f0 x.f1.f1 x.f1.f2 x.f1.f3 x.f2 x.f3.f0 x.f3.f1 x.f3.f2 x.f3.f3 x.f4 = some (msgV (out ++ L.drop i) x) := by
  intro n
  induction n with
  | zero =>
    intro i out q hi _ _ _ _ k hk
    obtain ⟨k, rfl⟩ : ∃ q, k = q + 1 := ⟨k - 1, by omega⟩
    rw [donjonref18_Take.l0, if_neg (by omega), List.drop_of_length_le (by omega), if_pos rfl, List.append_nil]
    rfl
  | succ n ih =>
    intro i out q hi ho hq h0 hqi k hk
    obtain ⟨k, rfl⟩ : ∃ q, k = q + 2 := ⟨k - 2, by omega⟩
    have hlt : i < L.length := by omega
    have hw : wrap64 (q + 1) = q + 1 := wrap64_id (by omega) (by omega)
    have hj : ∀ b : Bool, donjonref18_Take.j1 (k + 1) L u c out q true (i : Int) b t 0 0 0 x.f0 x.f1.f0 x.f1.f1 x.f1.f2 x.f1.f3 x.f2 x.f3.f0 x.f3.f1 x.f3.f2 x.f3.f3 x.f4 = some (msgV (out ++ L.drop i) x) := by
      intro b
      rw [donjonref18_Take.j1, wNextM (by omega), rdM hlt, List.drop_eq_getElem_cons hlt]
      have hs : ∀ q', c ≤ q' → 0 ≤ q' → q' ≤ ((i + 1 : Nat) : Int) → donjonref18_Take.l0 k L u c (out ++ [L[i]]) q' true ((i + 1 : Nat) : Int) t 0 0 0 x.f0 x.f1.f0 x.f1.f1 x.f1.f2 x.f1.f3 x.f2 x.f3.f0 x.f3.f1 x.f3.f2 x.f3.f3 x.f4 = some (msgV (out ++ L[i] :: L.drop (i + 1)) x) := by
        intro q' h1 h2 h3
        rw [ih (i + 1) (out ++ [L[i]]) q' (by omega) (by simp; omega) h1 h2 h3 k (by omega), List.append_assoc]
        rfl
      cases b
      · rw [if_neg (by decide), if_pos (by omega), if_pos (by omega), if_pos (by omega)]
        exact hs q hq h0 (by omega)
      · rw [if_pos rfl, hw, if_neg (by omega), if_pos (by omega), if_pos (by omega), if_pos (by omega)]
        exact hs (q + 1) (by omega) (by omega) (by omega)
    rw [donjonref18_Take.l0, if_pos (by omega), if_pos (by omega)]
    split
    · exact hj _
    · exact hj _
theorem rtake_l (u : ByteArray) (t c : Int) (L : List Mg) (hL : L.length ≤ 15) : ∀ (n i : Nat) (q : Int), i + n = L.length → 0 ≤ q → q ≤ (i : Int) → ∀ k, 2 * n < k →
    donjonref18_Take.l0 k L u c (L.take i) q false (i : Int) t 0 0 0 (⟨#[]⟩ : ByteArray) 0 0 0 0 (⟨#[]⟩ : ByteArray) 0 0 0 0 (⟨#[]⟩ : ByteArray) = some (tookV L (posn u t (L.drop i) (c - q) i)) := by
  intro n
  induction n with
  | zero =>
    intro i q hi _ _ k hk
    obtain ⟨k, rfl⟩ : ∃ q, k = q + 1 := ⟨k - 1, by omega⟩
    rw [donjonref18_Take.l0, if_neg (by omega), List.drop_of_length_le (by omega), if_neg (by decide)]
    rfl
  | succ n ih =>
    intro i q hi h0 hqi k hk
    obtain ⟨k, rfl⟩ : ∃ q, k = q + 2 := ⟨k - 2, by omega⟩
    have hlt : i < L.length := by omega
    have hw : wrap64 (q + 1) = q + 1 := wrap64_id (by omega) (by omega)
    have hln : (L.take i).length ≤ i := by rw [List.length_take]; omega
    have hs : ∀ q', 0 ≤ q' → q' ≤ ((i + 1 : Nat) : Int) → donjonref18_Take.l0 k L u c (L.take i ++ [L[i]]) q' false ((i + 1 : Nat) : Int) t 0 0 0 (⟨#[]⟩ : ByteArray) 0 0 0 0 (⟨#[]⟩ : ByteArray) 0 0 0 0 (⟨#[]⟩ : ByteArray) = some (tookV L (posn u t (L.drop (i + 1)) (c - q') (i + 1))) := by
      intro q' h1 h2
      rw [show L.take i ++ [L[i]] = L.take (i + 1) by rw [List.take_add_one, List.getElem?_eq_getElem hlt]; rfl]
      exact ih (i + 1) q' (by omega) h1 h2 k (by omega)
    have hj0 : donjonref18_Take.j1 (k + 1) L u c (L.take i) q false (i : Int) false t 0 0 0 (⟨#[]⟩ : ByteArray) 0 0 0 0 (⟨#[]⟩ : ByteArray) 0 0 0 0 (⟨#[]⟩ : ByteArray) = some (tookV L (posn u t (L.drop (i + 1)) (c - q) (i + 1))) := by
      rw [donjonref18_Take.j1, if_neg (by decide), if_pos (by omega), if_pos (by omega), if_pos (by omega), wNextM (by omega), rdM hlt]
      exact hs q h0 (by omega)
    have hj1 : donjonref18_Take.j1 (k + 1) L u c (L.take i) q false (i : Int) true t 0 0 0 (⟨#[]⟩ : ByteArray) 0 0 0 0 (⟨#[]⟩ : ByteArray) 0 0 0 0 (⟨#[]⟩ : ByteArray) = some (tookV L (if c - q = 1 then some i else posn u t (L.drop (i + 1)) (c - q - 1) (i + 1))) := by
      rw [donjonref18_Take.j1, if_pos rfl, hw, wNextM (by omega), rdM hlt]
      by_cases h1 : c - q = 1
      · rw [if_pos (by omega), if_pos h1, if_pos (by omega), if_pos (by omega), rtake_more u t c L hL L[i] n (i + 1) (L.take i) (q + 1) (by omega) (by omega) (by omega) (by omega) (by omega) k (by omega)]
        show _ = some (msgV (L.eraseIdx i) (rd_T28 L (i : Int)))
        rw [rdM hlt, List.eraseIdx_eq_take_drop_succ]
      · rw [if_neg (by omega), if_neg h1, if_pos (by omega), if_pos (by omega), if_pos (by omega), show c - q - 1 = c - (q + 1) by omega]
        exact hs (q + 1) (by omega) (by omega)
    rw [donjonref18_Take.l0, if_pos (by omega), if_pos (by omega), rdM hlt, List.drop_eq_getElem_cons hlt, posn]
    by_cases h1 : L[i].f2.toList = u.toList
    · rw [if_pos h1]
      by_cases h2 : (L[i].f3.f0 == t && (L[i].f3.f1 == 0 && (L[i].f3.f2 == 0 && (L[i].f3.f3 == 0)))) = true
      · have hm : mineB u t L[i] = true := by unfold mineB; rw [decide_eq_true h1, Bool.true_and]; exact h2
        rw [h2, if_pos hm]
        exact hj1
      · have hm : ¬ mineB u t L[i] = true := by unfold mineB; rw [decide_eq_true h1, Bool.true_and]; exact h2
        rw [Bool.not_eq_true] at h2
        rw [h2, if_neg hm]
        exact hj0
    · have hm : ¬ mineB u t L[i] = true := by unfold mineB; rw [decide_eq_false h1, Bool.false_and]; simp
      rw [if_neg h1, if_neg hm]
      exact hj0
theorem l3_ok (c : Int) (L X : List Mg) (e : Int) (m : Mg) (hL : L.length ≤ 15) (hX : X.length ≤ 15) (_ : -9223372036854775808 ≤ c) (he : (e = 0 ∧ 1 ≤ c ∧ c ≤ (X.length : Int) ∧ X[(c - 1).toNat]? = some m) ∨ (e = 2 ∧ ¬ (1 ≤ c ∧ c ≤ (X.length : Int)))) : ∀ (n i : Nat), i + n = L.length → ∀ k, n < k →
    donjonlaw18_MailBoxes.l3 k c L L X e (i : Int) m.f0 m.f1.f0 m.f1.f1 m.f1.f2 m.f1.f3 m.f2 m.f3.f0 m.f3.f1 m.f3.f2 m.f3.f3 m.f4 = some true := by
  intro n
  induction n with
  | zero =>
    intro i hi k hk
    obtain ⟨k, rfl⟩ : ∃ q, k = q + 1 := ⟨k - 1, by omega⟩
    rw [donjonlaw18_MailBoxes.l3, if_neg (by omega)]
    rcases he with ⟨rfl, h1, h2, h3⟩ | ⟨rfl, h1⟩
    · have hw : wrap64 (c - 1) = (((c - 1).toNat : Nat) : Int) := by rw [wrap64_id (by omega) (by omega)]; omega
      have hlt : (c - 1).toNat < X.length := by omega
      have hg : rd_T28 X (((c - 1).toNat : Nat) : Int) = m := by
        rw [rdM hlt]
        exact Option.some.inj ((List.getElem?_eq_getElem hlt).symm.trans h3)
      rw [if_pos (by omega), decide_eq_true h2, if_pos (by decide), if_pos rfl, hw, if_pos (by omega), if_pos (by omega), hg]
      simp
    · by_cases h2 : c ≥ 1
      · rw [if_pos h2, decide_eq_false (by omega), if_pos (by decide), if_neg (by decide)]
      · rw [if_neg h2, if_pos (by decide), if_neg (by decide)]
  | succ n ih =>
    intro i hi k hk
    obtain ⟨k, rfl⟩ : ∃ q, k = q + 1 := ⟨k - 1, by omega⟩
    rw [donjonlaw18_MailBoxes.l3, if_pos (by omega), if_pos (by omega), if_pos (by omega), if_neg (by simp), wNextM (by omega)]
    exact ih (i + 1) (by omega) k (by omega)
theorem l2_ok (c : Int) (L X Q : List Mg) (e : Int) (m : Mg) (hL : L.length ≤ 15) (hQ : Q.length ≤ 15) (hX : X.length ≤ 15) (hc : -9223372036854775808 ≤ c) (he : (e = 0 ∧ 1 ≤ c ∧ c ≤ (X.length : Int) ∧ X[(c - 1).toNat]? = some m) ∨ (e = 2 ∧ ¬ (1 ≤ c ∧ c ≤ (X.length : Int)))) : ∀ (n i : Nat), i + n = Q.length → ∀ k, n + 17 < k →
    donjonlaw18_MailBoxes.l2 k c L L X Q e Q (i : Int) m.f0 m.f1.f0 m.f1.f1 m.f1.f2 m.f1.f3 m.f2 m.f3.f0 m.f3.f1 m.f3.f2 m.f3.f3 m.f4 = some true := by
  intro n
  induction n with
  | zero =>
    intro i hi k hk
    obtain ⟨k, rfl⟩ : ∃ q, k = q + 1 := ⟨k - 1, by omega⟩
    rw [donjonlaw18_MailBoxes.l2, if_neg (by omega)]
    exact l3_ok c L X e m hL hX hc he L.length 0 (by omega) k (by omega)
  | succ n ih =>
    intro i hi k hk
    obtain ⟨k, rfl⟩ : ∃ q, k = q + 1 := ⟨k - 1, by omega⟩
    rw [donjonlaw18_MailBoxes.l2, if_pos (by omega), if_pos (by omega), if_pos (by omega), if_neg (by simp), wNextM (by omega)]
    exact ih (i + 1) (by omega) k (by omega)
theorem l1_ok (u : ByteArray) (t c : Int) (L X Q : List Mg) (e : Int) (m : Mg) (hL : L.length ≤ 15) (hQ : Q.length ≤ 15) (hX : X.length ≤ 15) (hm : ∀ x ∈ X, mineB u t x = true) (hc : -9223372036854775808 ≤ c) (he : (e = 0 ∧ 1 ≤ c ∧ c ≤ (X.length : Int) ∧ X[(c - 1).toNat]? = some m) ∨ (e = 2 ∧ ¬ (1 ≤ c ∧ c ≤ (X.length : Int)))) : ∀ (n i : Nat), i + n = X.length → ∀ k, n + 34 < k →
    donjonlaw18_MailBoxes.l1 k c L u L X X Q e Q (i : Int) t 0 0 0 m.f0 m.f1.f0 m.f1.f1 m.f1.f2 m.f1.f3 m.f2 m.f3.f0 m.f3.f1 m.f3.f2 m.f3.f3 m.f4 = some true := by
  intro n
  induction n with
  | zero =>
    intro i hi k hk
    obtain ⟨k, rfl⟩ : ∃ q, k = q + 1 := ⟨k - 1, by omega⟩
    rw [donjonlaw18_MailBoxes.l1, if_neg (by omega)]
    exact l2_ok c L X Q e m hL hQ hX hc he Q.length 0 (by omega) k (by omega)
  | succ n ih =>
    intro i hi k hk
    obtain ⟨k, rfl⟩ : ∃ q, k = q + 1 := ⟨k - 1, by omega⟩
    have hlt : i < X.length := by omega
    have h := hm X[i] (List.getElem_mem hlt)
    unfold mineB at h
    rw [Bool.and_eq_true, decide_eq_true_eq] at h
    obtain ⟨h1, h2⟩ := h
    simp only [Bool.and_eq_true, beq_iff_eq] at h2
    obtain ⟨a1, a2, a3, a4⟩ := h2
    rw [donjonlaw18_MailBoxes.l1, if_pos (by omega), if_pos (by omega), if_pos (by omega), if_neg (by simp), rdM hlt, if_pos h1, if_neg (by rw [a1, a2, a3, a4]; simp), wNextM (by omega)]
    exact ih (i + 1) (by omega) k (by omega)
theorem boxes_end (x0 : List Mg) (x1 : List Int) (a2 a3 c : Int) (L : List Mg) (i : Int) (hL : L.length ≤ 15) (hc1 : -9223372036854775808 ≤ c) (hc2 : c ≤ 9223372036854775807) (k : Nat) (hk : 60 < k) :
    donjonlaw18_MailBoxes.j1 k x0 x1 a2 a3 c L i false = some true := by
  obtain ⟨k, rfl⟩ : ∃ q, k = q + 2 := ⟨k - 2, by omega⟩
  obtain ⟨t1, e1, _, _, _⟩ := within_small (a := a2) (n := 4) (by omega) (by omega)
  obtain ⟨t, e2, _, _, _⟩ := within_small (a := a3) (n := 2) (by omega) (by omega)
  rw [donjonlaw18_MailBoxes.j1, if_neg (by decide), show donjonlaw18_within.f a2 4 = some t1 from e1, Option.bind_some, Option.bind_some, show donjonlaw18_within.f a3 2 = some t from e2, Option.bind_some, Option.bind_some, if_pos (by simp; omega), Option.bind_some, List.nil_append]
  obtain ⟨u, hu⟩ : ∃ u, u = strOfNums [(wrap64 (97 + t1)) % 256] := ⟨_, rfl⟩
  rw [← hu]
  clear hu e1 e2
  have i1 : mail_In.f (k + 1) L u t 0 0 0 = some (L.filter (mineB u t)) := by
    have h := in_l u t L hL L.length 0 [] (by omega) (by simp) (k + 1) (by omega)
    rw [List.drop_zero, List.nil_append] at h
    exact h
  have i2 : donjonref18_In.f (k + 1) L u t 0 0 0 = some (L.filter (mineB u t)) := by
    have h := rin_l u t L hL L.length 0 [] (by omega) (by simp) (k + 1) (by omega)
    rw [List.drop_zero, List.nil_append] at h
    exact h
  have i3 : mail_Take.f (k + 1) L u t 0 0 0 c = some (tookV L (posn u t L c 0)) := by
    have h := take_l u t L hL L.length 0 c (by omega) (by omega) hc2 (k + 1) (by omega)
    rw [List.drop_zero, wrap64_id hc1 hc2] at h
    unfold mail_Take.f
    rw [if_pos (by omega), if_pos (by omega), Option.bind_some, if_pos (by rw [List.length_replicate]; omega)]
    exact h
  have i4 : donjonref18_Take.f (k + 1) L u t 0 0 0 c = some (tookV L (posn u t L c 0)) := by
    have h := rtake_l u t c L hL L.length 0 0 (by omega) (by omega) (by omega) (k + 1) (by omega)
    rw [List.drop_zero, List.take_zero, Int.sub_zero] at h
    exact h
  have hX : (L.filter (mineB u t)).length ≤ 15 := Nat.le_trans (List.length_filter_le _ _) hL
  rw [i1, Option.bind_some, i2, Option.bind_some, i3, Option.bind_some, i4, Option.bind_some, if_pos rfl, if_pos rfl]
  have hm : ∀ x ∈ L.filter (mineB u t), mineB u t x = true := fun x hx => (List.mem_filter.1 hx).2
  obtain ⟨Q, m, e, hT, hQ, he⟩ : ∃ (Q : List Mg) (m : Mg) (e : Int), tookV L (posn u t L c 0) = (Q, m.f0, m.f1.f0, m.f1.f1, m.f1.f2, m.f1.f3, m.f2, m.f3.f0, m.f3.f1, m.f3.f2, m.f3.f3, m.f4, e) ∧ Q.length ≤ 15 ∧ ((e = 0 ∧ 1 ≤ c ∧ c ≤ ((L.filter (mineB u t)).length : Int) ∧ (L.filter (mineB u t))[(c - 1).toNat]? = some m) ∨ (e = 2 ∧ ¬ (1 ≤ c ∧ c ≤ ((L.filter (mineB u t)).length : Int)))) := by
    cases hp : posn u t L c 0 with
    | none => exact ⟨[], z28, 2, rfl, by simp, .inr ⟨rfl, posn_none u t L c 0 hp⟩⟩
    | some p =>
      obtain ⟨h1, h2, _, x, h4, h5⟩ := posn_some u t L c 0 p hp
      rw [Nat.sub_zero] at h4
      have hlt : p < L.length := by
        rcases Nat.lt_or_ge p L.length with h | h
        · exact h
        · rw [List.getElem?_eq_none h] at h4
          exact absurd h4 (by simp)
      have hx : rd_T28 L (p : Int) = x := by
        rw [rdM hlt]
        exact Option.some.inj ((List.getElem?_eq_getElem hlt).symm.trans h4)
      refine ⟨L.eraseIdx p, x, 0, ?_, ?_, .inl ⟨rfl, h1, h2, h5⟩⟩
      · show msgV _ _ = _
        rw [hx]
        rfl
      · rw [List.length_eraseIdx_of_lt hlt]
        omega
  rw [hT]
  dsimp only
  rw [if_neg (by simp), show (e != e) = false by simp, donjonlaw18_MailBoxes.j2, if_neg (by decide)]
  exact l1_ok u t c L _ Q e m hL hQ hX hm hc1 he (L.filter (mineB u t)).length 0 (by omega) k (by omega)
theorem boxes_l (x0 : List Mg) (x1 : List Int) (a2 a3 c : Int) (hc1 : -9223372036854775808 ≤ c) (hc2 : c ≤ 9223372036854775807) : ∀ (n i : Nat) (L : List Mg), i + n = 15 → L.length = i → ∀ k, 62 + 2 * n < k →
    donjonlaw18_MailBoxes.l0 k x0 x1 a2 a3 c L (i : Int) = some true := by
  intro n
  induction n with
  | zero =>
    intro i L hi hl k hk
    obtain ⟨k, rfl⟩ : ∃ q, k = q + 1 := ⟨k - 1, by omega⟩
    rw [donjonlaw18_MailBoxes.l0, decide_eq_false (by omega)]
    have h := boxes_end x0 x1 a2 a3 c L (i : Int) (by omega) hc1 hc2 k (by omega)
    split
    · split
      · exact h
      · exact h
    · exact h
  | succ n ih =>
    intro i L hi hl k hk
    obtain ⟨k, rfl⟩ : ∃ q, k = q + 2 := ⟨k - 2, by omega⟩
    have h := boxes_end x0 x1 a2 a3 c L (i : Int) (by omega) hc1 hc2 (k + 1) (by omega)
    rw [donjonlaw18_MailBoxes.l0, decide_eq_true (by omega)]
    by_cases h0 : (i : Int) < (x0.length : Int)
    · by_cases h1 : (i : Int) < (x1.length : Int)
      · obtain ⟨u2, a2', b2, c2, d2, v2, a3', b3, c3, d3, text2, eg⟩ := good_some ((rd_T28 x0 (i : Int)).f0) ((rd_T28 x0 (i : Int)).f1.f0) ((rd_T28 x0 (i : Int)).f1.f1) ((rd_T28 x0 (i : Int)).f1.f2) ((rd_T28 x0 (i : Int)).f1.f3) ((rd_T28 x0 (i : Int)).f2) ((rd_T28 x0 (i : Int)).f3.f0) ((rd_T28 x0 (i : Int)).f3.f1) ((rd_T28 x0 (i : Int)).f3.f2) ((rd_T28 x0 (i : Int)).f3.f3) ((rd_T28 x0 (i : Int)).f4) (rd x1 (i : Int))
        obtain ⟨t, e2, _, _, _⟩ := within_small (a := wrap64 (Int.tdiv (rd x1 (i : Int)) 16)) (n := 2) (by omega) (by omega)
        rw [if_pos h0, if_pos h1, donjonlaw18_MailBoxes.j1, if_pos rfl, if_pos (by omega), if_pos h0, if_pos h1, eg, Option.bind_some, show donjonlaw18_within.f (wrap64 (Int.tdiv (rd x1 (i : Int)) 16)) 2 = some t from e2, Option.bind_some, if_pos (by omega), wNextM (by omega)]
        exact ih (i + 1) _ (by omega) (by simp; omega) k (by omega)
      · rw [if_pos h0, if_neg h1]
        exact h
    · rw [if_neg h0]
      exact h
theorem MailBoxes : ∀ (l0 : List (S28)) (l1 : List Int) (a2 : Int) (a3 : Int) (a4 : Int), (l0.length ≤ maxLen ∧ l0.length * 112 ≤ 140737488351232 ∧ ∀ y_ ∈ l0, g_T28 y_) → (l1.length ≤ maxLen ∧ l1.length * 8 ≤ 140737488351232 ∧ ∀ y_ ∈ l1, (Lit.int .i64 y_).wf = true) → (Lit.int .i64 a2).wf = true → (Lit.int .i64 a3).wf = true → (Lit.int .i64 a4).wf = true → ∃ k, donjonlaw18_MailBoxes.f k l0 l1 a2 a3 a4 = some true := by
  intro l0 l1 a2 a3 a4 _ _ _ _ w4
  have h4 := wf_i64 w4
  refine ⟨100, ?_⟩
  unfold donjonlaw18_MailBoxes.f
  rw [show donjonlaw18_known.f 100 = some true by decide +kernel, Option.bind_some, if_pos rfl]
  exact boxes_l l0 l1 a2 a3 a4 h4.1 h4.2 15 0 [] (by omega) rfl 100 (by omega)
end Go.Proofs.Ytdbnjjkapelekaa.Pure
