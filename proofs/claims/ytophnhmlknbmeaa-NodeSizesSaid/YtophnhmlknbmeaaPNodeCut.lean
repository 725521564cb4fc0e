/- What reading tells of a node's bytes that lack some, or have one too many. -/
import Derived.Test.YtophnhmlknbmeaaPNode
import Derived.Test.YtophnhmlknbmeaaNNode
namespace Go.Proofs.Ytophnhmlknbmeaa.Pure
open Go.RowKit Go.Proofs.Ytophnhmlknbmeaa.X Go.Proofs.YtophnhmlknbmeaaW.PrintWords Go.Proofs.YtophnhmlknbmeaaW.PrintLast Go.Proofs.Ytophnhmlknbmeaa.Lib

/-- One byte more is told as more, each that lack some as cut. -/
def Good (f : List Int → Int) (E : List Int) : Prop := f (E ++ [0]) = 9 ∧ ∀ k, k < E.length → f (E.take k) = 8
theorem good_end : Good cEnd [] := ⟨rfl, fun _ h => absurd h (by simp)⟩
theorem good_one {f : Int → List Int → Int} {x : Int} {E : List Int} (h : Good (f x) E) : Good (cOne f) (x :: E) := by
  refine ⟨h.1, fun k hk => ?_⟩
  match k, hk with
  | 0, _ => rfl
  | k + 1, hk => exact h.2 k (by simpa using hk)
theorem good_str {f : List Int → Int} {E : List Int} (X : List Int) (h : Good f E) : Good (cStr f) ((X.length : Int) :: (X ++ E)) := by
  refine ⟨?_, fun k hk => ?_⟩
  · rw [List.cons_append, List.append_assoc]
    exact (cStr_ok X (E ++ [0])).trans h.1
  · match k, hk with
    | 0, _ => rfl
    | k + 1, hk =>
      rw [List.take_succ_cons]
      rcases Nat.lt_or_ge k X.length with hx | hx
      · refine cStr_cut (.inr ⟨_, _, rfl, ?_⟩)
        rw [List.length_take]
        omega
      · rw [List.take_append, List.take_of_length_le hx]
        refine (cStr_ok X _).trans (h.2 _ ?_)
        rw [List.length_cons, List.length_append] at hk
        omega
theorem good_lab {f : List Int → Int} {E : List Int} (a b c d : Int) (h : Good f E) : Good (cLab f) (a :: b :: c :: d :: E) := by
  refine ⟨(cLab_ok a b c d (E ++ [0])).trans h.1, fun k hk => ?_⟩
  match k, hk with
  | 0, _ => rfl
  | 1, _ => rfl
  | 2, _ => rfl
  | 3, _ => rfl
  | k + 4, hk => exact (cLab_ok a b c d (E.take k)).trans (h.2 k (by simpa using hk))
theorem good_long {n : Nat} {E : List Int} (A : List Int) (hA : A.length = 8) (h : Good (cWords n) E) : Good (cWords (n + 1)) (A ++ E) := by
  refine ⟨by rw [List.append_assoc]; exact (cWords_ok n A _ hA).trans h.1, fun k hk => ?_⟩
  rcases Nat.lt_or_ge k 8 with hx | hx
  · simp only [cWords]
    rw [if_pos (by rw [List.length_take]; omega)]
  · rw [List.take_append, List.take_of_length_le (by omega)]
    refine (cWords_ok n A _ hA).trans (h.2 _ ?_)
    rw [List.length_append] at hk
    omega
theorem numB_len (n : Int) : (numB n).length = 8 := rfl
theorem good_words : ∀ ws : List Int, Good (cWords ws.length) (encWords ws)
  | [] => good_end
  | w :: ws => by
    show Good (cWords (ws.length + 1)) (numB w ++ encWords ws)
    exact good_long _ (numB_len w) (good_words ws)
theorem good_num (ws : List Int) (h : ws.length < 256) : Good cNum (encB (ws.length : Int) ++ encWords ws) := by
  have e : (ws.length : Int) % 256 = ws.length := by omega
  show Good (cOne fun x r => cWords x.toNat r) ((ws.length : Int) % 256 :: encWords ws)
  refine good_one ?_
  rw [e]
  exact good_words ws
theorem good_tail (a b c d : Int) (ws : List Int) (h : ws.length < 256) : Good cTail (encMid a b c d ws.length ++ encWords ws) := by
  show Good (cOne fun _ => cOne fun _ => cOne fun _ => cOne fun _ => cNum) (a % 256 :: b % 256 :: c % 256 :: d % 256 :: (encB (ws.length : Int) ++ encWords ws))
  exact good_one (f := fun _ => cOne fun _ => cOne fun _ => cOne fun _ => cNum) (good_one (f := fun _ => cOne fun _ => cOne fun _ => cNum) (good_one (f := fun _ => cOne fun _ => cNum) (good_one (f := fun _ => cNum) (good_num ws h))))
theorem bytesOf_len (s : ByteArray) : (bytesOf s).length = s.size := bytesOf_length s
theorem good_encStr {f : List Int → Int} {E : List Int} (s : ByteArray) (hs : s.size ≤ 255) (h : Good f E) : Good (cStr f) (encStr s ++ E) := by
  have e : encStr s ++ E = ((bytesOf s).length : Int) :: (bytesOf s ++ E) := by
    unfold encStr
    rw [bytesOf_len, show (s.size : Int) % 256 = s.size by omega]
    rfl
  rw [e]
  exact good_str _ h
theorem good_acl {R : List Int} (h : Good cTail R) : ∀ l : List Gr, (∀ g ∈ l, g.f0.size ≤ 255) → Good (cAcl l.length) (encAcl l ++ R)
  | [], _ => h
  | g :: l, hl => by
    have e : encAcl (g :: l) ++ R = encStr g.f0 ++ (g.f1 % 256 :: (encAcl l ++ R)) := by
      unfold encAcl encB
      rw [List.flatMap_cons]
      simp
    rw [e]
    show Good (cStr (cOne fun _ r => cAcl l.length r)) _
    exact good_encStr _ (hl g (.head _)) (good_one (f := fun _ r => cAcl l.length r) (good_acl h l (fun q hq => hl q (.tail _ hq))))
theorem good_node (p : ByteArray) (b : Bool) (s c i d : Int) (l : List Gr) (q1 q2 q3 q4 : Int) (ws : List Int) (s' c' i' d' : Int) (hp : p.size ≤ 255) (hl : l.length < 256) (h3 : ∀ g ∈ l, g.f0.size ≤ 255) (hw : ws.length < 256) :
    Good cNode (encNode p b s c i d l q1 q2 q3 q4 ws s' c' i' d') := by
  have h1 := good_acl (good_tail q1 q2 q3 q4 ws hw) l h3
  have h2 : Good cGrants (encB (l.length : Int) ++ (encAcl l ++ (encMid q1 q2 q3 q4 ws.length ++ encWords ws))) := by
    show Good (cOne fun x r => cAcl x.toNat r) ((l.length : Int) % 256 :: _)
    refine good_one ?_
    rw [show (l.length : Int) % 256 = l.length by omega]
    exact h1
  have h3 := good_lab (f := cLab cGrants) (s % 256) (c % 256) (i % 256) (d % 256) (good_lab (s' % 256) (c' % 256) (i' % 256) (d' % 256) h2)
  have h4 : Good cDir (encB (if b = true then 1 else 0) ++ (encLab s c i d ++ (encLab s' c' i' d' ++ (encB (l.length : Int) ++ (encAcl l ++ (encMid q1 q2 q3 q4 ws.length ++ encWords ws)))))) := by
    show Good (cOne fun d r => if 1 < d then 11 else cLab (cLab cGrants) r) (_ :: _)
    have hd : ¬ (1 : Int) < (if b = true then 1 else 0) % 256 := by cases b <;> decide
    refine good_one (f := fun d r => if 1 < d then 11 else cLab (cLab cGrants) r) ?_
    refine ⟨?_, fun k hk => ?_⟩
    · show (if (1 : Int) < (if b = true then 1 else 0) % 256 then (11 : Int) else _) = 9
      rw [if_neg hd]
      exact h3.1
    · show (if (1 : Int) < (if b = true then 1 else 0) % 256 then (11 : Int) else _) = 8
      rw [if_neg hd]
      exact h3.2 k hk
  have h5 := good_encStr p hp h4
  have e : encNode p b s c i d l q1 q2 q3 q4 ws s' c' i' d' = encStr p ++ (encB (if b = true then 1 else 0) ++ (encLab s c i d ++ (encLab s' c' i' d' ++ (encB (l.length : Int) ++ (encAcl l ++ (encMid q1 q2 q3 q4 ws.length ++ encWords ws)))))) := by
    unfold encNode encHead
    simp only [List.append_assoc]
  rw [e]
  exact h5
theorem byt_app {A B : List Int} (h1 : Byt A) (h2 : Byt B) : Byt (A ++ B) := fun x hx => (List.mem_append.1 hx).elim (h1 x) (h2 x)
theorem byt_nil : Byt [] := fun _ h => absurd h (by simp)
theorem byt_cons {x : Int} {B : List Int} (h1 : 0 ≤ x ∧ x < 256) (h2 : Byt B) : Byt (x :: B) := fun y hy => (List.mem_cons.1 hy).elim (fun e => e ▸ h1) (h2 y)
theorem mod_ok (x : Int) : 0 ≤ x % 256 ∧ x % 256 < 256 := by omega
theorem byt_bytes (s : ByteArray) : Byt (bytesOf s) := by
  intro x hx
  unfold bytesOf at hx
  obtain ⟨b, _, rfl⟩ := List.mem_map.1 hx
  have := b.toNat_lt
  omega
theorem byt_str (s : ByteArray) : Byt (encStr s) := byt_cons (mod_ok _) (byt_bytes s)
theorem byt_B (x : Int) : Byt (encB x) := byt_cons (mod_ok _) byt_nil
theorem byt_lab (a b c d : Int) : Byt (encLab a b c d) := byt_cons (mod_ok _) (byt_cons (mod_ok _) (byt_cons (mod_ok _) (byt_cons (mod_ok _) byt_nil)))
theorem byt_num (n : Int) : Byt (numB n) := byt_cons (mod_ok _) (byt_cons (mod_ok _) (byt_cons (mod_ok _) (byt_cons (mod_ok _) (byt_cons (mod_ok _) (byt_cons (mod_ok _) (byt_cons (mod_ok _) (byt_cons (mod_ok _) byt_nil)))))))
theorem byt_flat {α : Type} (f : α → List Int) (h : ∀ a, Byt (f a)) (l : List α) : Byt (l.flatMap f) := fun x hx => by
  obtain ⟨a, _, ha⟩ := List.mem_flatMap.1 hx
  exact h a x ha
theorem byt_node (p : ByteArray) (b : Bool) (s c i d : Int) (l : List Gr) (q1 q2 q3 q4 : Int) (ws : List Int) (s' c' i' d' : Int) : Byt (encNode p b s c i d l q1 q2 q3 q4 ws s' c' i' d') :=
  byt_app (byt_app (byt_str p) (byt_app (byt_B _) (byt_app (byt_lab _ _ _ _) (byt_app (byt_lab _ _ _ _) (byt_B _))))) (byt_app (byt_flat (fun g : Gr => encStr g.f0 ++ encB g.f1) (fun g => byt_app (byt_str g.f0) (byt_B g.f1)) l) (byt_app (byt_app (byt_lab _ _ _ _) (byt_B _)) (byt_flat numB byt_num ws)))
theorem words_len : ∀ ws : List Int, (encWords ws).length = 8 * ws.length
  | [] => rfl
  | w :: ws => by
    show (numB w ++ encWords ws).length = _
    rw [List.length_append, numB_len, words_len ws, List.length_cons]
    omega
theorem node_len (p : ByteArray) (b : Bool) (s c i d : Int) (l : List Gr) (q1 q2 q3 q4 : Int) (ws : List Int) (s' c' i' d' : Int) : (encNode p b s c i d l q1 q2 q3 q4 ws s' c' i' d').length = 16 + p.size + 8 * ws.length + (encAcl l).length := by
  unfold encNode encHead encMid encB encLab
  simp only [List.length_append, encStr_length, words_len, List.length_cons, List.length_nil]
  omega
end Go.Proofs.Ytophnhmlknbmeaa.Pure
