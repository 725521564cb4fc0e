/- A message and an entry that are read from a row of bytes: what the closures leave. -/
import Derived.Test.YtophnhmlknbmeaaNGuard
namespace Go.Proofs.Ytophnhmlknbmeaa.X
open Go.RowKit Go.Proofs.YtophnhmlknbmeaaW.PrintWords Go.Proofs.YtophnhmlknbmeaaW.PrintLast Go.Proofs.YtophnhmlknbmeaaW.PrintMore Go.Proofs.Ytophnhmlknbmeaa.More
set_option linter.unusedVariables false
set_option linter.unusedSimpArgs false
/-- Midway: r's variable, the row that is read, what is told so far, the guard's own cell. -/
def Ms (T : TypeId) (w0 W : World) (rp mb rb B N : Nat) (cells : Array Value) (L : List Int) : Prop :=
  W.heap[rp]? = some (.cells #[.pointer (some ⟨rb, 0, none⟩)] 58 (0, 0)) ∧ W.heap[mb]? = some (.cells cells T (0, 0)) ∧ W.heap[N]? = some (.cells #[.int .i64 0] 43 (0, 0)) ∧ RdB W rb B L ∧ Below w0.heap.size w0 W ∧
    (w0.heap.size ≤ rb ∧ w0.heap.size ≤ mb ∧ rp ≠ rb ∧ mb ≠ rb ∧ N ≠ rb ∧ rp ≠ mb ∧ N ≠ mb ∧ B ≠ mb)
theorem Ms.rd {T : TypeId} {w0 W : World} {rp mb rb B N : Nat} {cells : Array Value} {L : List Int} (h : Ms T w0 W rp mb rb B N cells L) : RdB W rb B L := h.2.2.2.1
theorem Ms.left {T : TypeId} {w0 W w1 : World} {rp mb rb B N : Nat} {cells : Array Value} {L L' : List Int} (h : Ms T w0 W rp mb rb B N cells L) (k : Left W rb B L' w1) : Ms T w0 w1 rp mb rb B N cells L' := by
  obtain ⟨h1, h2, h3, h4, h5, h6⟩ := h
  exact ⟨k.2.1 _ _ h1 h6.2.2.1, k.2.1 _ _ h2 h6.2.2.2.1, k.2.1 _ _ h3 h6.2.2.2.2.1, k.2.2.2, k.2.2.1 w0 h5 h6.1, h6⟩
theorem Ms.put {T : TypeId} {w0 W : World} {rp mb rb B N : Nat} {cells cs' : Array Value} {L : List Int} (h : Ms T w0 W rp mb rb B N cells L) (j : Nat) (v : Value) (e : cells.setIfInBounds j v = cs') : Ms T w0 (W.setCell ⟨mb, j, none⟩ v) rp mb rb B N cs' L := by
  obtain ⟨h1, h2, h3, ⟨hne, off, cap, hh, hc, hx⟩, h5, h6⟩ := h
  have hp := blk_put h2 j v rfl
  rw [e] at hp
  exact ⟨(Below.heap_setCell W ⟨mb, j, none⟩ v rp h6.2.2.2.2.2.1).trans h1, hp, (Below.heap_setCell W ⟨mb, j, none⟩ v N h6.2.2.2.2.2.2.1).trans h3, ⟨hne, off, cap, (Below.heap_setCell W ⟨mb, j, none⟩ v rb (fun e => h6.2.2.2.1 e.symm)).trans hh, hc, hx.far h6.2.2.2.2.2.2.2 v⟩, below_set h5 h6.2.1, h6⟩
/-- (*row).str, where the bytes are told by name -/
theorem row_str' (rb B : Nat) (X L : List Int) (W : World) (hR : RdB W rb B ((X.length : Int) :: (X ++ L))) (h1 : X.length < 256) :
    Calls Try.prog 31 #[.pointer (some ⟨rb, 0, none⟩)] W fun e w' => e = .returned (.string (strOfNums X)) ∧ Left W rb B L w' := by
  have h := row_str rb B X.length (X ++ L) W hR h1 (by simp)
  rw [List.take_left' rfl, List.drop_left' rfl] at h
  exact h
/-- A text, a label, a number, off a row of bytes. -/
def pStr : List Int → Option (ByteArray × List Int)
  | [] => none
  | x :: r => if 0 ≤ x ∧ x < 256 ∧ x.toNat ≤ r.length then some (strOfNums (r.take x.toNat), r.drop x.toNat) else none
def pLab : List Int → Option ((Int × Int × Int × Int) × List Int)
  | a :: b :: c :: d :: r => if (0 ≤ a ∧ a < 256) ∧ (0 ≤ b ∧ b < 256) ∧ (0 ≤ c ∧ c < 256) ∧ (0 ≤ d ∧ d < 256) then some ((a, b, c, d), r) else none
  | _ => none
def pOne : List Int → Option (Int × List Int)
  | [] => none
  | x :: r => if 0 ≤ x ∧ x < 256 then some (x, r) else none
instance (l : List Int) : Decidable (∀ x ∈ l, 0 ≤ x ∧ x < 256) := inferInstance
def pLong (l : List Int) : Option (Int × List Int) := if (l.take 8).length = 8 ∧ (∀ x ∈ l.take 8, 0 ≤ x ∧ x < 256) then some (valB (l.take 8), l.drop 8) else none
theorem pStr_inv {l r : List Int} {s : ByteArray} (h : pStr l = some (s, r)) : ∃ X : List Int, l = (X.length : Int) :: (X ++ r) ∧ X.length < 256 ∧ s = strOfNums X := by
  match l, h with
  | x :: q, h =>
    simp only [pStr] at h
    by_cases hx : 0 ≤ x ∧ x < 256 ∧ x.toNat ≤ q.length
    · rw [if_pos hx] at h
      have e := Option.some.inj h
      rw [Prod.mk.injEq] at e
      obtain ⟨rfl, rfl⟩ := e
      have hl : (q.take x.toNat).length = x.toNat := by rw [List.length_take]; omega
      refine ⟨q.take x.toNat, ?_, by omega, rfl⟩
      rw [List.take_append_drop, hl]
      congr 1
      omega
    · rw [if_neg hx] at h
      exact absurd h (by simp)
theorem pLab_inv {l r : List Int} {v : Int × Int × Int × Int} (h : pLab l = some (v, r)) : ∃ a b c d, l = a :: b :: c :: d :: r ∧ ((0 ≤ a ∧ a < 256) ∧ (0 ≤ b ∧ b < 256) ∧ (0 ≤ c ∧ c < 256) ∧ (0 ≤ d ∧ d < 256)) ∧ v = (a, b, c, d) := by
  unfold pLab at h
  split at h
  · rename_i a b c d q
    split at h
    · rename_i hx
      have e := Option.some.inj h
      rw [Prod.mk.injEq] at e
      obtain ⟨rfl, rfl⟩ := e
      exact ⟨a, b, c, d, rfl, hx, rfl⟩
    · exact absurd h (by simp)
  · exact absurd h (by simp)
theorem pOne_inv {l r : List Int} {v : Int} (h : pOne l = some (v, r)) : l = v :: r ∧ (0 ≤ v ∧ v < 256) := by
  match l, h with
  | x :: q, h =>
    simp only [pOne] at h
    by_cases hx : 0 ≤ x ∧ x < 256
    · rw [if_pos hx] at h
      have e := Option.some.inj h
      rw [Prod.mk.injEq] at e
      obtain ⟨rfl, rfl⟩ := e
      exact ⟨rfl, hx⟩
    · rw [if_neg hx] at h
      exact absurd h (by simp)
theorem pLong_inv {l r : List Int} {v : Int} (h : pLong l = some (v, r)) : ∃ A, l = A ++ r ∧ A.length = 8 ∧ (∀ x ∈ A, 0 ≤ x ∧ x < 256) ∧ v = valB A := by
  unfold pLong at h
  split at h
  · rename_i hx
    have e := Option.some.inj h
    rw [Prod.mk.injEq] at e
    obtain ⟨rfl, rfl⟩ := e
    exact ⟨l.take 8, (List.take_append_drop 8 l).symm, hx.1, hx.2, rfl⟩
  · exact absurd h (by simp)
set_option maxHeartbeats 8000000 in
set_option maxRecDepth 100000 in
/-- What ParseMessage's closure does, where all is there. -/
theorem msg_closure (w0 W : World) (rp mb rb B N : Nat) (X0 : List Int) (a1 b1 c1 d1 : Int) (X2 : List Int) (a3 b3 c3 d3 : Int) (X4 : List Int) (hX0 : X0.length < 256) (hL1 : (0 ≤ a1 ∧ a1 < 256) ∧ (0 ≤ b1 ∧ b1 < 256) ∧ (0 ≤ c1 ∧ c1 < 256) ∧ (0 ≤ d1 ∧ d1 < 256)) (hX2 : X2.length < 256) (hL3 : (0 ≤ a3 ∧ a3 < 256) ∧ (0 ≤ b3 ∧ b3 < 256) ∧ (0 ≤ c3 ∧ c3 < 256) ∧ (0 ≤ d3 ∧ d3 < 256)) (hX4 : X4.length < 256) (hM : Ms 42 w0 W rp mb rb B N #[.string ⟨#[]⟩, .int .i64 0, .int .i64 0, .int .i64 0, .int .i64 0, .string ⟨#[]⟩, .int .i64 0, .int .i64 0, .int .i64 0, .int .i64 0, .string ⟨#[]⟩] ((X0.length : Int) :: (X0 ++ (a1 :: b1 :: c1 :: d1 :: ((X2.length : Int) :: (X2 ++ (a3 :: b3 :: c3 :: d3 :: ((X4.length : Int) :: (X4 ++ []))))))))) :
    Calls Try.prog 30 #[.pointer (some ⟨rp, 0, none⟩), .pointer (some ⟨mb, 0, none⟩)] W fun e w' => e = .returned (.tuple #[]) ∧ Ms 42 w0 w' rp mb rb B N #[.string (strOfNums X0), .int .i64 a1, .int .i64 b1, .int .i64 c1, .int .i64 d1, .string (strOfNums X2), .int .i64 a3, .int .i64 b3, .int .i64 c3, .int .i64 d3, .string (strOfNums X4)] [] := by
  have hu1 := Try.underlying42
  have hu2 := Try.underlying23
  have hu3 := Try.underlying58
  have hnb : ¬ rp = mb := hM.2.2.2.2.2.2.2.2.2.2.1
  have hnc : ¬ mb = rp := fun e => hnb e.symm
  have HX0 := Aside0.mk hX0
  clear hX0
  have HL1 := Aside0.mk hL1
  clear hL1
  have HX2 := Aside0.mk hX2
  clear hX2
  have HL3 := Aside0.mk hL3
  clear hL3
  have HX4 := Aside0.mk hX4
  clear hX4
  have p_ : W.cell? ⟨rp, 0, none⟩ = some (.pointer (some ⟨rb, 0, none⟩)) := (blk_cell hM.1 0).trans rfl
  have HM0 := Aside0.mk hM
  clear hM
  go_enter Try.func30, Try.ntmps30
  go_wp2_with fail
  refine (row_str' rb B X0 (a1 :: b1 :: c1 :: d1 :: ((X2.length : Int) :: (X2 ++ (a3 :: b3 :: c3 :: d3 :: ((X4.length : Int) :: (X4 ++ [])))))) _ HM0.out.rd HX0.out).mono ?_
  rintro e w1 ⟨rfl, hL⟩
  have hM := HM0.out.left hL
  clear hL p_
  have p_ : w1.cell? ⟨rp, 0, none⟩ = some (.pointer (some ⟨rb, 0, none⟩)) := (blk_cell hM.1 0).trans rfl
  have m0 : w1.cell? ⟨mb, 0, none⟩ = some (.string ⟨#[]⟩) := (blk_cell hM.2.1 0).trans rfl
  have f0 : w1.frozen? ⟨mb, 0, none⟩ = false := blk_frozen hM.2.1 0
  have HM1 := Aside0.mk (Ms.put (cs' := #[.string (strOfNums X0), .int .i64 0, .int .i64 0, .int .i64 0, .int .i64 0, .string ⟨#[]⟩, .int .i64 0, .int .i64 0, .int .i64 0, .int .i64 0, .string ⟨#[]⟩]) hM 0 (.string (strOfNums X0)) rfl)
  clear hM
  go_wp2_with fail
  refine (row_where rb B a1 b1 c1 d1 ((X2.length : Int) :: (X2 ++ (a3 :: b3 :: c3 :: d3 :: ((X4.length : Int) :: (X4 ++ []))))) _ HM1.out.rd HL1.out.1 HL1.out.2.1 HL1.out.2.2.1 HL1.out.2.2.2).mono ?_
  rintro e w2 ⟨rfl, hL⟩
  have hM := HM1.out.left hL
  clear hL p_ m0 f0
  have p_ : w2.cell? ⟨rp, 0, none⟩ = some (.pointer (some ⟨rb, 0, none⟩)) := (blk_cell hM.1 0).trans rfl
  have m1 : w2.cell? ⟨mb, 1, none⟩ = some (.int .i64 0) := (blk_cell hM.2.1 1).trans rfl
  have f1 : w2.frozen? ⟨mb, 1, none⟩ = false := blk_frozen hM.2.1 1
  have m2 : w2.cell? ⟨mb, 2, none⟩ = some (.int .i64 0) := (blk_cell hM.2.1 2).trans rfl
  have f2 : w2.frozen? ⟨mb, 2, none⟩ = false := blk_frozen hM.2.1 2
  have m3 : w2.cell? ⟨mb, 3, none⟩ = some (.int .i64 0) := (blk_cell hM.2.1 3).trans rfl
  have f3 : w2.frozen? ⟨mb, 3, none⟩ = false := blk_frozen hM.2.1 3
  have m4 : w2.cell? ⟨mb, 4, none⟩ = some (.int .i64 0) := (blk_cell hM.2.1 4).trans rfl
  have f4 : w2.frozen? ⟨mb, 4, none⟩ = false := blk_frozen hM.2.1 4
  have HM2 := Aside0.mk (Ms.put (cs' := #[.string (strOfNums X0), .int .i64 a1, .int .i64 b1, .int .i64 c1, .int .i64 d1, .string ⟨#[]⟩, .int .i64 0, .int .i64 0, .int .i64 0, .int .i64 0, .string ⟨#[]⟩]) (Ms.put (cs' := #[.string (strOfNums X0), .int .i64 a1, .int .i64 b1, .int .i64 c1, .int .i64 0, .string ⟨#[]⟩, .int .i64 0, .int .i64 0, .int .i64 0, .int .i64 0, .string ⟨#[]⟩]) (Ms.put (cs' := #[.string (strOfNums X0), .int .i64 a1, .int .i64 b1, .int .i64 0, .int .i64 0, .string ⟨#[]⟩, .int .i64 0, .int .i64 0, .int .i64 0, .int .i64 0, .string ⟨#[]⟩]) (Ms.put (cs' := #[.string (strOfNums X0), .int .i64 a1, .int .i64 0, .int .i64 0, .int .i64 0, .string ⟨#[]⟩, .int .i64 0, .int .i64 0, .int .i64 0, .int .i64 0, .string ⟨#[]⟩]) hM 1 (.int .i64 a1) rfl) 2 (.int .i64 b1) rfl) 3 (.int .i64 c1) rfl) 4 (.int .i64 d1) rfl)
  clear hM
  go_wp2_with fail
  refine (row_str' rb B X2 (a3 :: b3 :: c3 :: d3 :: ((X4.length : Int) :: (X4 ++ []))) _ HM2.out.rd HX2.out).mono ?_
  rintro e w3 ⟨rfl, hL⟩
  have hM := HM2.out.left hL
  clear hL p_ m1 f1 m2 f2 m3 f3 m4 f4
  have p_ : w3.cell? ⟨rp, 0, none⟩ = some (.pointer (some ⟨rb, 0, none⟩)) := (blk_cell hM.1 0).trans rfl
  have m5 : w3.cell? ⟨mb, 5, none⟩ = some (.string ⟨#[]⟩) := (blk_cell hM.2.1 5).trans rfl
  have f5 : w3.frozen? ⟨mb, 5, none⟩ = false := blk_frozen hM.2.1 5
  have HM3 := Aside0.mk (Ms.put (cs' := #[.string (strOfNums X0), .int .i64 a1, .int .i64 b1, .int .i64 c1, .int .i64 d1, .string (strOfNums X2), .int .i64 0, .int .i64 0, .int .i64 0, .int .i64 0, .string ⟨#[]⟩]) hM 5 (.string (strOfNums X2)) rfl)
  clear hM
  go_wp2_with fail
  refine (row_where rb B a3 b3 c3 d3 ((X4.length : Int) :: (X4 ++ [])) _ HM3.out.rd HL3.out.1 HL3.out.2.1 HL3.out.2.2.1 HL3.out.2.2.2).mono ?_
  rintro e w4 ⟨rfl, hL⟩
  have hM := HM3.out.left hL
  clear hL p_ m5 f5
  have p_ : w4.cell? ⟨rp, 0, none⟩ = some (.pointer (some ⟨rb, 0, none⟩)) := (blk_cell hM.1 0).trans rfl
  have m6 : w4.cell? ⟨mb, 6, none⟩ = some (.int .i64 0) := (blk_cell hM.2.1 6).trans rfl
  have f6 : w4.frozen? ⟨mb, 6, none⟩ = false := blk_frozen hM.2.1 6
  have m7 : w4.cell? ⟨mb, 7, none⟩ = some (.int .i64 0) := (blk_cell hM.2.1 7).trans rfl
  have f7 : w4.frozen? ⟨mb, 7, none⟩ = false := blk_frozen hM.2.1 7
  have m8 : w4.cell? ⟨mb, 8, none⟩ = some (.int .i64 0) := (blk_cell hM.2.1 8).trans rfl
  have f8 : w4.frozen? ⟨mb, 8, none⟩ = false := blk_frozen hM.2.1 8
  have m9 : w4.cell? ⟨mb, 9, none⟩ = some (.int .i64 0) := (blk_cell hM.2.1 9).trans rfl
  have f9 : w4.frozen? ⟨mb, 9, none⟩ = false := blk_frozen hM.2.1 9
  have HM4 := Aside0.mk (Ms.put (cs' := #[.string (strOfNums X0), .int .i64 a1, .int .i64 b1, .int .i64 c1, .int .i64 d1, .string (strOfNums X2), .int .i64 a3, .int .i64 b3, .int .i64 c3, .int .i64 d3, .string ⟨#[]⟩]) (Ms.put (cs' := #[.string (strOfNums X0), .int .i64 a1, .int .i64 b1, .int .i64 c1, .int .i64 d1, .string (strOfNums X2), .int .i64 a3, .int .i64 b3, .int .i64 c3, .int .i64 0, .string ⟨#[]⟩]) (Ms.put (cs' := #[.string (strOfNums X0), .int .i64 a1, .int .i64 b1, .int .i64 c1, .int .i64 d1, .string (strOfNums X2), .int .i64 a3, .int .i64 b3, .int .i64 0, .int .i64 0, .string ⟨#[]⟩]) (Ms.put (cs' := #[.string (strOfNums X0), .int .i64 a1, .int .i64 b1, .int .i64 c1, .int .i64 d1, .string (strOfNums X2), .int .i64 a3, .int .i64 0, .int .i64 0, .int .i64 0, .string ⟨#[]⟩]) hM 6 (.int .i64 a3) rfl) 7 (.int .i64 b3) rfl) 8 (.int .i64 c3) rfl) 9 (.int .i64 d3) rfl)
  clear hM
  go_wp2_with fail
  refine (row_str' rb B X4 [] _ HM4.out.rd HX4.out).mono ?_
  rintro e w5 ⟨rfl, hL⟩
  have hM := HM4.out.left hL
  clear hL p_ m6 f6 m7 f7 m8 f8 m9 f9
  have p_ : w5.cell? ⟨rp, 0, none⟩ = some (.pointer (some ⟨rb, 0, none⟩)) := (blk_cell hM.1 0).trans rfl
  have m10 : w5.cell? ⟨mb, 10, none⟩ = some (.string ⟨#[]⟩) := (blk_cell hM.2.1 10).trans rfl
  have f10 : w5.frozen? ⟨mb, 10, none⟩ = false := blk_frozen hM.2.1 10
  have HM5 := Aside0.mk (Ms.put (cs' := #[.string (strOfNums X0), .int .i64 a1, .int .i64 b1, .int .i64 c1, .int .i64 d1, .string (strOfNums X2), .int .i64 a3, .int .i64 b3, .int .i64 c3, .int .i64 d3, .string (strOfNums X4)]) hM 10 (.string (strOfNums X4)) rfl)
  clear hM
  go_wp2_with fail
  refine (row_end rb B _ HM5.out.rd).mono ?_
  rintro e w' ⟨rfl, rfl⟩
  go_wp2_with fail
  go_end0
  exact ⟨rfl, HM5.out⟩
set_option maxHeartbeats 8000000 in
set_option maxRecDepth 100000 in
/-- What ParseEntry's closure does, where all is there. -/
theorem ent_closure (w0 W : World) (rp mb rb B N : Nat) (A0 : List Int) (a1 b1 c1 d1 : Int) (X2 : List Int) (x3 : Int) (X4 : List Int) (x5 : Int) (hA0 : A0.length = 8) (hB0 : ∀ x ∈ A0, 0 ≤ x ∧ x < 256) (hL1 : (0 ≤ a1 ∧ a1 < 256) ∧ (0 ≤ b1 ∧ b1 < 256) ∧ (0 ≤ c1 ∧ c1 < 256) ∧ (0 ≤ d1 ∧ d1 < 256)) (hX2 : X2.length < 256) (hx3 : 0 ≤ x3 ∧ x3 < 256) (hX4 : X4.length < 256) (hx5 : 0 ≤ x5 ∧ x5 < 256) (hM : Ms 45 w0 W rp mb rb B N #[.int .i64 0, .int .i64 0, .int .i64 0, .int .i64 0, .int .i64 0, .string ⟨#[]⟩, .int .i64 0, .string ⟨#[]⟩, .int .i64 0] (A0 ++ (a1 :: b1 :: c1 :: d1 :: ((X2.length : Int) :: (X2 ++ (x3 :: ((X4.length : Int) :: (X4 ++ (x5 :: []))))))))) :
    Calls Try.prog 34 #[.pointer (some ⟨rp, 0, none⟩), .pointer (some ⟨mb, 0, none⟩)] W fun e w' => e = .returned (.tuple #[]) ∧ Ms 45 w0 w' rp mb rb B N #[.int .i64 (valB A0), .int .i64 a1, .int .i64 b1, .int .i64 c1, .int .i64 d1, .string (strOfNums X2), .int .i64 x3, .string (strOfNums X4), .int .i64 x5] [] := by
  have hu1 := Try.underlying45
  have hu2 := Try.underlying23
  have hu3 := Try.underlying58
  have hnb : ¬ rp = mb := hM.2.2.2.2.2.2.2.2.2.2.1
  have hnc : ¬ mb = rp := fun e => hnb e.symm
  have HA0 := Aside0.mk hA0
  have HB0 := Aside0.mk hB0
  clear hA0 hB0
  have HL1 := Aside0.mk hL1
  clear hL1
  have HX2 := Aside0.mk hX2
  clear hX2
  have Hx3 := Aside0.mk hx3
  clear hx3
  have HX4 := Aside0.mk hX4
  clear hX4
  have Hx5 := Aside0.mk hx5
  clear hx5
  have p_ : W.cell? ⟨rp, 0, none⟩ = some (.pointer (some ⟨rb, 0, none⟩)) := (blk_cell hM.1 0).trans rfl
  have HM0 := Aside0.mk hM
  clear hM
  go_enter Try.func34, Try.ntmps34
  go_wp2_with fail
  refine (row_long rb B A0 (a1 :: b1 :: c1 :: d1 :: ((X2.length : Int) :: (X2 ++ (x3 :: ((X4.length : Int) :: (X4 ++ (x5 :: []))))))) _ HM0.out.rd HA0.out HB0.out).mono ?_
  rintro e w1 ⟨rfl, hL⟩
  have hM := HM0.out.left hL
  clear hL p_
  have p_ : w1.cell? ⟨rp, 0, none⟩ = some (.pointer (some ⟨rb, 0, none⟩)) := (blk_cell hM.1 0).trans rfl
  have m0 : w1.cell? ⟨mb, 0, none⟩ = some (.int .i64 0) := (blk_cell hM.2.1 0).trans rfl
  have f0 : w1.frozen? ⟨mb, 0, none⟩ = false := blk_frozen hM.2.1 0
  have HM1 := Aside0.mk (Ms.put (cs' := #[.int .i64 (valB A0), .int .i64 0, .int .i64 0, .int .i64 0, .int .i64 0, .string ⟨#[]⟩, .int .i64 0, .string ⟨#[]⟩, .int .i64 0]) hM 0 (.int .i64 (valB A0)) rfl)
  clear hM
  go_wp2_with fail
  refine (row_where rb B a1 b1 c1 d1 ((X2.length : Int) :: (X2 ++ (x3 :: ((X4.length : Int) :: (X4 ++ (x5 :: [])))))) _ HM1.out.rd HL1.out.1 HL1.out.2.1 HL1.out.2.2.1 HL1.out.2.2.2).mono ?_
  rintro e w2 ⟨rfl, hL⟩
  have hM := HM1.out.left hL
  clear hL p_ m0 f0
  have p_ : w2.cell? ⟨rp, 0, none⟩ = some (.pointer (some ⟨rb, 0, none⟩)) := (blk_cell hM.1 0).trans rfl
  have m1 : w2.cell? ⟨mb, 1, none⟩ = some (.int .i64 0) := (blk_cell hM.2.1 1).trans rfl
  have f1 : w2.frozen? ⟨mb, 1, none⟩ = false := blk_frozen hM.2.1 1
  have m2 : w2.cell? ⟨mb, 2, none⟩ = some (.int .i64 0) := (blk_cell hM.2.1 2).trans rfl
  have f2 : w2.frozen? ⟨mb, 2, none⟩ = false := blk_frozen hM.2.1 2
  have m3 : w2.cell? ⟨mb, 3, none⟩ = some (.int .i64 0) := (blk_cell hM.2.1 3).trans rfl
  have f3 : w2.frozen? ⟨mb, 3, none⟩ = false := blk_frozen hM.2.1 3
  have m4 : w2.cell? ⟨mb, 4, none⟩ = some (.int .i64 0) := (blk_cell hM.2.1 4).trans rfl
  have f4 : w2.frozen? ⟨mb, 4, none⟩ = false := blk_frozen hM.2.1 4
  have HM2 := Aside0.mk (Ms.put (cs' := #[.int .i64 (valB A0), .int .i64 a1, .int .i64 b1, .int .i64 c1, .int .i64 d1, .string ⟨#[]⟩, .int .i64 0, .string ⟨#[]⟩, .int .i64 0]) (Ms.put (cs' := #[.int .i64 (valB A0), .int .i64 a1, .int .i64 b1, .int .i64 c1, .int .i64 0, .string ⟨#[]⟩, .int .i64 0, .string ⟨#[]⟩, .int .i64 0]) (Ms.put (cs' := #[.int .i64 (valB A0), .int .i64 a1, .int .i64 b1, .int .i64 0, .int .i64 0, .string ⟨#[]⟩, .int .i64 0, .string ⟨#[]⟩, .int .i64 0]) (Ms.put (cs' := #[.int .i64 (valB A0), .int .i64 a1, .int .i64 0, .int .i64 0, .int .i64 0, .string ⟨#[]⟩, .int .i64 0, .string ⟨#[]⟩, .int .i64 0]) hM 1 (.int .i64 a1) rfl) 2 (.int .i64 b1) rfl) 3 (.int .i64 c1) rfl) 4 (.int .i64 d1) rfl)
  clear hM
  go_wp2_with fail
  refine (row_str' rb B X2 (x3 :: ((X4.length : Int) :: (X4 ++ (x5 :: [])))) _ HM2.out.rd HX2.out).mono ?_
  rintro e w3 ⟨rfl, hL⟩
  have hM := HM2.out.left hL
  clear hL p_ m1 f1 m2 f2 m3 f3 m4 f4
  have p_ : w3.cell? ⟨rp, 0, none⟩ = some (.pointer (some ⟨rb, 0, none⟩)) := (blk_cell hM.1 0).trans rfl
  have m5 : w3.cell? ⟨mb, 5, none⟩ = some (.string ⟨#[]⟩) := (blk_cell hM.2.1 5).trans rfl
  have f5 : w3.frozen? ⟨mb, 5, none⟩ = false := blk_frozen hM.2.1 5
  have HM3 := Aside0.mk (Ms.put (cs' := #[.int .i64 (valB A0), .int .i64 a1, .int .i64 b1, .int .i64 c1, .int .i64 d1, .string (strOfNums X2), .int .i64 0, .string ⟨#[]⟩, .int .i64 0]) hM 5 (.string (strOfNums X2)) rfl)
  clear hM
  go_wp2_with fail
  refine (row_one rb B x3 ((X4.length : Int) :: (X4 ++ (x5 :: []))) _ HM3.out.rd Hx3.out.1 Hx3.out.2).mono ?_
  rintro e w4 ⟨rfl, hL⟩
  have hM := HM3.out.left hL
  clear hL p_ m5 f5
  have p_ : w4.cell? ⟨rp, 0, none⟩ = some (.pointer (some ⟨rb, 0, none⟩)) := (blk_cell hM.1 0).trans rfl
  have m6 : w4.cell? ⟨mb, 6, none⟩ = some (.int .i64 0) := (blk_cell hM.2.1 6).trans rfl
  have f6 : w4.frozen? ⟨mb, 6, none⟩ = false := blk_frozen hM.2.1 6
  have HM4 := Aside0.mk (Ms.put (cs' := #[.int .i64 (valB A0), .int .i64 a1, .int .i64 b1, .int .i64 c1, .int .i64 d1, .string (strOfNums X2), .int .i64 x3, .string ⟨#[]⟩, .int .i64 0]) hM 6 (.int .i64 x3) rfl)
  clear hM
  go_wp2_with fail
  refine (row_str' rb B X4 (x5 :: []) _ HM4.out.rd HX4.out).mono ?_
  rintro e w5 ⟨rfl, hL⟩
  have hM := HM4.out.left hL
  clear hL p_ m6 f6
  have p_ : w5.cell? ⟨rp, 0, none⟩ = some (.pointer (some ⟨rb, 0, none⟩)) := (blk_cell hM.1 0).trans rfl
  have m7 : w5.cell? ⟨mb, 7, none⟩ = some (.string ⟨#[]⟩) := (blk_cell hM.2.1 7).trans rfl
  have f7 : w5.frozen? ⟨mb, 7, none⟩ = false := blk_frozen hM.2.1 7
  have HM5 := Aside0.mk (Ms.put (cs' := #[.int .i64 (valB A0), .int .i64 a1, .int .i64 b1, .int .i64 c1, .int .i64 d1, .string (strOfNums X2), .int .i64 x3, .string (strOfNums X4), .int .i64 0]) hM 7 (.string (strOfNums X4)) rfl)
  clear hM
  go_wp2_with fail
  refine (row_one rb B x5 [] _ HM5.out.rd Hx5.out.1 Hx5.out.2).mono ?_
  rintro e w6 ⟨rfl, hL⟩
  have hM := HM5.out.left hL
  clear hL p_ m7 f7
  have p_ : w6.cell? ⟨rp, 0, none⟩ = some (.pointer (some ⟨rb, 0, none⟩)) := (blk_cell hM.1 0).trans rfl
  have m8 : w6.cell? ⟨mb, 8, none⟩ = some (.int .i64 0) := (blk_cell hM.2.1 8).trans rfl
  have f8 : w6.frozen? ⟨mb, 8, none⟩ = false := blk_frozen hM.2.1 8
  have HM6 := Aside0.mk (Ms.put (cs' := #[.int .i64 (valB A0), .int .i64 a1, .int .i64 b1, .int .i64 c1, .int .i64 d1, .string (strOfNums X2), .int .i64 x3, .string (strOfNums X4), .int .i64 x5]) hM 8 (.int .i64 x5) rfl)
  clear hM
  go_wp2_with fail
  refine (row_end rb B _ HM6.out.rd).mono ?_
  rintro e w' ⟨rfl, rfl⟩
  go_wp2_with fail
  go_end0
  exact ⟨rfl, HM6.out⟩
theorem msg_enters : ∀ args w, (callFunc 30 args).run Try.prog w = .ok (.enter 30 args) w := fun args w => by simp [go_sem]
theorem ent_enters : ∀ args w, (callFunc 34 args).run Try.prog w = .ok (.enter 34 args) w := fun args w => by simp [go_sem]
end Go.Proofs.Ytophnhmlknbmeaa.X
