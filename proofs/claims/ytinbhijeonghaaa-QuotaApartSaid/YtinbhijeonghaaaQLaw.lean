/- Counts told as rows of labels; what the statements know of them. -/
import Derived.Test.YtinbhijeonghaaaQAll
import Derived.Test.YtinbhijeonghaaaPQuota
namespace Go.Proofs.Ytinbhijeonghaaa.X
open Go.RowKit Go.Proofs.YtinbhijeonghaaaW.PrintWords Go.Proofs.YtinbhijeonghaaaW.PrintLast Go.Proofs.YtinbhijeonghaaaW.PrintMore Go.Proofs.Ytinbhijeonghaaa.More Go.Proofs.Ytinbhijeonghaaa.Pure Go.Proofs.Ytinbhijeonghaaa.Lib
set_option linter.unusedVariables false
set_option linter.unusedSimpArgs false
/-- Counts that were made by counting the labels of a row. -/
def CountsOf (w : World) (cb mb n : Nat) (l : List SL) : Prop := CountsIs w cb mb n (fun x => (l.count x : Int))
theorem CountsIs.congr {w : World} {cb mb n : Nat} {f g : SL → Int} (h : CountsIs w cb mb n f) (e : ∀ x, f x = g x) : CountsIs w cb mb n g := ⟨h.1, h.2.congr fun x _ => by rw [e x]⟩
theorem CountsOf.perm {w : World} {cb mb n : Nat} {l l' : List SL} (h : CountsOf w cb mb n l) (e : l.Perm l') : CountsOf w cb mb n l' := CountsIs.congr h fun x => by rw [e.count_eq]
theorem CountsOf.below {w w' : World} {cb mb n : Nat} {l : List SL} (h : CountsOf w cb mb n l) (hb : Below w.heap.size w w') : CountsOf w' cb mb n l := CountsIs.below h hb
theorem CountsOf.isMap {w : World} {cb mb n : Nat} {l : List SL} (h : CountsOf w cb mb n l) : ∃ es c, w.heap[mb]? = some (.map es c) := MapIs.isMap h.2
theorem CountsOf.ne {w : World} {cb mb n : Nat} {l : List SL} (h : CountsOf w cb mb n l) : cb ≠ mb := fun e => by
  obtain ⟨es, c, hm⟩ := h.isMap
  have := h.1
  rw [e, hm] at this
  cases this
theorem new_list (w : World) : Calls Try.prog 16 #[] w fun e w' => ∃ cb mb : Nat, e = .returned (.pointer (some ⟨cb, 0, none⟩)) ∧ w.heap.size ≤ cb ∧ w.heap.size ≤ mb ∧ CountsOf w' cb mb 0 [] ∧ Below w.heap.size w w' :=
  (quota_New.calls w).mono fun _ _ ⟨cb, mb, he, h1, h2, h3, h4⟩ => ⟨cb, mb, he, h1, h2, h3.congr fun _ => by simp, h4⟩
theorem of_list (w : World) (cb mb n : Nat) (l : List SL) (h : CountsOf w cb mb n l) (x : SL) (hx : okL x) : Calls Try.prog 21 #[.pointer (some ⟨cb, 0, none⟩), lv x] w fun e w' => e = .returned (.int .i64 (l.count x : Int)) ∧ Below w.heap.size w w' :=
  quota_Of.calls w cb mb n _ h x hx
theorem add_list (w : World) (cb mb n : Nat) (l : List SL) (h : CountsOf w cb mb n l) (hn : n < maxLen) (hl : l.length ≤ 100000) (x : SL) (hx : okL x) : Calls Try.prog 19 #[.pointer (some ⟨cb, 0, none⟩), lv x] w fun e w' =>
    e = .returned (.int .i64 ((l.count x + 1 : Nat) : Int)) ∧ CountsOf w' cb mb (n + 1) (x :: l) ∧ w.grownBy w' (some mb) := by
  have hc : l.count x ≤ l.length := List.count_le_length
  have e1 : wrap64 ((l.count x : Int) + 1) = ((l.count x + 1 : Nat) : Int) := by rw [wrap64_id (by omega) (by omega)]; omega
  refine (quota_Add.calls w cb mb n _ h hn x hx).mono ?_
  rintro e w' ⟨rfl, h1, h2⟩
  refine ⟨by rw [e1], CountsIs.congr h1 fun y => ?_, h2⟩
  by_cases hy : y = x
  · subst hy
    rw [if_pos rfl, e1, List.count_cons_self]
  · rw [if_neg hy, List.count_cons_of_ne (fun e => hy e.symm)]
theorem all_list (w : World) (cb mb n : Nat) (l : List SL) (h : CountsOf w cb mb n l) (hs : SortedS l) (ho : ∀ x ∈ l, okL x) (hl : n * l.length ≤ 100000) : Calls Try.prog 22 #[.pointer (some ⟨cb, 0, none⟩)] w fun e w' =>
    ∃ v : Value, e = .returned v ∧ Kd.R k43 43 w' w.heap.size (fun _ => True) v l ∧ Below w.heap.size w w' :=
  (quota_All.calls w cb mb n l.length _ h (fun x _ => ⟨by omega, by have : l.count x ≤ l.length := List.count_le_length; omega⟩) hl).mono fun _ _ ⟨v, out, he, hR, h1, h2, hb⟩ => ⟨v, he, by
    rw [sortS_eq hs ho h1 (fun x hx => by have := h2 x hx; omega)] at hR
    exact hR, hb⟩
theorem row_beside {W w1 : World} {mb : Nat} (hm : ∃ es c, W.heap[mb]? = some (.map es c)) {α : Type} {d : Kd α} {e base : Nat} {ok : Nat → Prop} {v : Value} {xs : List α} (hR : Kd.R d e W base ok v xs) (hg : W.grownBy w1 (some mb)) : Kd.R d e w1 base ok v xs :=
  Kd.R_mono (Kd.R_move (Kd.R_bound hR) (fun k hk => by
    obtain ⟨_, _, hlt, q, _, cells, hc⟩ := hk
    refine hg.block k hlt (fun e => ?_)
    obtain ⟨es, c, hm⟩ := hm
    rw [Option.some.inj e, hm] at hc
    cases hc)) (fun _ hk => hk.1)
theorem blk_beside {W w1 : World} {mb : Nat} (hm : ∃ es c, W.heap[mb]? = some (.map es c)) {g : Nat} {cs : Array Value} {t : TypeId} {fr : Nat × Nat} (h : W.heap[g]? = some (.cells cs t fr)) (hg : W.grownBy w1 (some mb)) : w1.heap[g]? = some (.cells cs t fr) := by
  refine (hg.block g (Array.getElem?_eq_some_iff.1 h).1 (fun e => ?_)).trans h
  obtain ⟨es, c, hm⟩ := hm
  rw [Option.some.inj e, hm] at h
  cases h
set_option maxRecDepth 100000 in
theorem known12 (w : World) : Calls Try.prog 15 #[] w fun e w' => e = .returned (.bool true) ∧ Below w.heap.size w w' := by
  have hz : okL ⟨0, 0, 0, 0⟩ := ⟨rfl, rfl, rfl, rfl⟩
  have ho : okL ⟨1, 0, 0, 0⟩ := ⟨rfl, rfl, rfl, rfl⟩
  go_enter Try.func15, Try.ntmps15
  go_wp2_with fail
  refine (new_list _).mono ?_
  rintro e w1 ⟨cb, mb, rfl, gc, gm, hC, hb⟩
  have HB1 := Aside0.mk hb
  have HC1 := Aside0.mk hC
  have GM := Aside0.mk gm
  clear hb hC gc gm
  go_wp2_with fail
  refine (add_list _ cb mb 0 [] HC1.out (by decide) (by decide) ⟨0, 0, 0, 0⟩ hz).mono ?_
  rintro e w2 ⟨rfl, hC, hg⟩
  have HB2 := Aside0.mk (HB1.out.grown hg (below_size HB1.out) (fun k hk => by cases hk; exact GM.out))
  have HC2 := Aside0.mk hC
  clear hC hg HB1 HC1
  go_wp2_with fail
  refine (add_list _ cb mb 1 [⟨0, 0, 0, 0⟩] HC2.out (by decide) (by decide) ⟨0, 0, 0, 0⟩ hz).mono ?_
  rintro e w3 ⟨rfl, hC, hg⟩
  have HB3 := Aside0.mk (HB2.out.grown hg (below_size HB2.out) (fun k hk => by cases hk; exact GM.out))
  have HC3 := Aside0.mk hC
  clear hC hg HB2 HC2
  rw [show ((([⟨0, 0, 0, 0⟩] : List SL).count ⟨0, 0, 0, 0⟩ + 1 : Nat) : Int) = 2 from by decide]
  go_wp2_with fail
  refine (of_list _ cb mb 2 _ HC3.out ⟨1, 0, 0, 0⟩ ho).mono ?_
  rintro e w4 ⟨rfl, hb⟩
  have HB4 := Aside0.mk (below_then HB3.out (below_size HB3.out) hb)
  clear hb HB3 HC3
  rw [show ((([⟨0, 0, 0, 0⟩, ⟨0, 0, 0, 0⟩] : List SL).count ⟨1, 0, 0, 0⟩ : Nat) : Int) = 0 from by decide]
  go_wp2
  go_ret
  exact ⟨rfl, HB4.out⟩
end Go.Proofs.Ytinbhijeonghaaa.X
