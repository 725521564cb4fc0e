/- The row of bytes that a node is read from: each method, whether there is enough or not. -/
import Derived.Test.YtophnhmlknbmeaaNMsg
namespace Go.Proofs.Ytophnhmlknbmeaa.X
open Go.RowKit Go.Proofs.YtophnhmlknbmeaaW.PrintWords Go.Proofs.YtophnhmlknbmeaaW.PrintLast Go.Proofs.YtophnhmlknbmeaaW.PrintMore Go.Proofs.Ytophnhmlknbmeaa.More
set_option linter.unusedVariables false
set_option linter.unusedSimpArgs false
/-- The panic of an error number. -/
def boom (n : Int) : Ending := .panicked [{ v := .iface 43 (.int .i64 n), recovered := false }]
/-- Nothing but the row has turned. -/
def Off (W : World) (rb : Nat) (w' : World) : Prop := (∀ k o, W.heap[k]? = some o → k ≠ rb → w'.heap[k]? = some o) ∧ (∀ w0, Below w0.heap.size w0 W → w0.heap.size ≤ rb → Below w0.heap.size w0 w')
theorem Off.refl (W : World) (rb : Nat) : Off W rb W := ⟨fun _ _ h _ => h, fun _ h _ => h⟩
theorem Off.of_left {W w' : World} {rb B : Nat} {L : List Int} (h : Left W rb B L w') : Off W rb w' := ⟨h.2.1, h.2.2.1⟩
/-- Bytes are bytes. -/
def Byt (L : List Int) : Prop := ∀ x ∈ L, 0 ≤ x ∧ x < 256
theorem Byt.tail {x : Int} {L : List Int} (h : Byt (x :: L)) : Byt L := fun y hy => h y (.tail _ hy)
theorem Byt.head {x : Int} {L : List Int} (h : Byt (x :: L)) : 0 ≤ x ∧ x < 256 := h x (.head _)
theorem Byt.right {A L : List Int} (h : Byt (A ++ L)) : Byt L := fun y hy => h y (List.mem_append.2 (.inr hy))
theorem Byt.left {A L : List Int} (h : Byt (A ++ L)) : Byt A := fun y hy => h y (List.mem_append.2 (.inl hy))
set_option maxHeartbeats 4000000 in
set_option maxRecDepth 100000 in
theorem row_one_cut (rb B : Nat) (W : World) (hR : RdB W rb B []) :
    Calls Try.prog 36 #[.pointer (some ⟨rb, 0, none⟩)] W fun e w' => e = boom 8 ∧ w' = W := by
  have HR := Aside0.mk hR
  clear hR
  go_enter Try.func36, Try.ntmps36
  go_wp2_with fail
  refine (row_take_cut rb B 1 [] W HR.out (by simp)).mono ?_
  rintro e w1 ⟨rfl, rfl⟩
  exact ⟨rfl, rfl, rfl⟩
/-- (*row).one, either way -/
theorem row_one_any (rb B : Nat) (L : List Int) (W : World) (hR : RdB W rb B L) (hB : Byt L) :
    Calls Try.prog 36 #[.pointer (some ⟨rb, 0, none⟩)] W fun e w' => (L = [] ∧ e = boom 8 ∧ Off W rb w') ∨ (∃ x r, L = x :: r ∧ (0 ≤ x ∧ x < 256) ∧ e = .returned (.int .i64 x) ∧ Left W rb B r w') := by
  match L, hR, hB with
  | [], hR, _ => exact (row_one_cut rb B W hR).mono fun e w' ⟨h1, h2⟩ => .inl ⟨rfl, h1, h2 ▸ Off.refl W rb⟩
  | x :: r, hR, hB => exact (row_one rb B x r W hR hB.head.1 hB.head.2).mono fun e w' ⟨h1, h2⟩ => .inr ⟨x, r, rfl, hB.head, h1, h2⟩
set_option maxHeartbeats 4000000 in
set_option maxRecDepth 100000 in
theorem row_str_cut0 (rb B : Nat) (W : World) (hR : RdB W rb B []) :
    Calls Try.prog 31 #[.pointer (some ⟨rb, 0, none⟩)] W fun e w' => e = boom 8 ∧ w' = W := by
  have HR := Aside0.mk hR
  clear hR
  go_enter Try.func31, Try.ntmps31
  go_wp2_with fail
  refine (row_one_cut rb B W HR.out).mono ?_
  rintro e w1 ⟨rfl, rfl⟩
  exact ⟨rfl, rfl, rfl⟩
set_option maxHeartbeats 4000000 in
set_option maxRecDepth 100000 in
theorem row_str_cut (rb B n : Nat) (L : List Int) (W : World) (hR : RdB W rb B ((n : Int) :: L)) (h1 : n < 256) (h2 : L.length < n) :
    Calls Try.prog 31 #[.pointer (some ⟨rb, 0, none⟩)] W fun e w' => e = boom 8 ∧ Off W rb w' := by
  have HR := Aside0.mk hR
  have H1 := Aside0.mk h1
  have H2 := Aside0.mk h2
  clear hR h1 h2
  go_enter Try.func31, Try.ntmps31
  go_wp2_with fail
  refine (row_one rb B n L W HR.out (by omega) (by have := H1.out; omega)).mono ?_
  rintro e w1 ⟨rfl, hL1⟩
  have HL1 := Aside0.mk hL1
  clear hL1
  go_wp2_with fail
  refine (row_take_cut rb B n L w1 HL1.out.2.2.2 H2.out).mono ?_
  rintro e w2 ⟨rfl, rfl⟩
  exact ⟨rfl, rfl, Off.of_left HL1.out⟩
/-- (*row).str, either way -/
theorem row_str_any (rb B : Nat) (L : List Int) (W : World) (hR : RdB W rb B L) (hB : Byt L) :
    Calls Try.prog 31 #[.pointer (some ⟨rb, 0, none⟩)] W fun e w' => ((L = [] ∨ ∃ x r, L = x :: r ∧ (r.length : Int) < x) ∧ e = boom 8 ∧ Off W rb w') ∨ (∃ X r, L = (X.length : Int) :: (X ++ r) ∧ e = .returned (.string (strOfNums X)) ∧ Left W rb B r w') := by
  match L, hR, hB with
  | [], hR, _ => exact (row_str_cut0 rb B W hR).mono fun e w' ⟨h1, h2⟩ => .inl ⟨.inl rfl, h1, h2 ▸ Off.refl W rb⟩
  | x :: r, hR, hB =>
    obtain ⟨h0, h1⟩ := hB.head
    obtain ⟨n, rfl⟩ : ∃ n : Nat, x = (n : Int) := ⟨x.toNat, by omega⟩
    rcases Nat.lt_or_ge r.length n with h | h
    · exact (row_str_cut rb B n r W hR (by omega) h).mono fun e w' ⟨h1, h2⟩ => .inl ⟨.inr ⟨_, r, rfl, by omega⟩, h1, h2⟩
    · refine (row_str rb B n r W hR (by omega) h).mono fun e w' ⟨h1, h2⟩ => .inr ⟨r.take n, r.drop n, ?_, h1, h2⟩
      rw [List.take_append_drop, List.length_take, Nat.min_eq_left h]
set_option maxHeartbeats 4000000 in
set_option maxRecDepth 100000 in
theorem row_where_cut (rb B : Nat) (L : List Int) (W : World) (hR : RdB W rb B L) (h : L.length < 4) :
    Calls Try.prog 32 #[.pointer (some ⟨rb, 0, none⟩)] W fun e w' => e = boom 8 ∧ Off W rb w' := by
  have HR := Aside0.mk hR
  have H := Aside0.mk h
  clear hR h
  go_enter Try.func32, Try.ntmps32
  go_wp2_with fail
  refine (row_take_cut rb B 4 L _ (HR.out.below (below_alloc (Below.refl _ _) _)) H.out).mono ?_
  rintro e w1 ⟨rfl, rfl⟩
  exact ⟨rfl, rfl, fun k o hk _ => blk_alloc hk _, fun w0 hb _ => below_alloc hb _⟩
/-- (*row).where, either way -/
theorem row_where_any (rb B : Nat) (L : List Int) (W : World) (hR : RdB W rb B L) (hB : Byt L) :
    Calls Try.prog 32 #[.pointer (some ⟨rb, 0, none⟩)] W fun e w' => (L.length < 4 ∧ e = boom 8 ∧ Off W rb w') ∨ (∃ a b c d r, L = a :: b :: c :: d :: r ∧ e = .returned (.agg #[.int .i64 a, .int .i64 b, .int .i64 c, .int .i64 d]) ∧ Left W rb B r w') := by
  rcases Nat.lt_or_ge L.length 4 with h | h
  · exact (row_where_cut rb B L W hR h).mono fun e w' ⟨h1, h2⟩ => .inl ⟨h, h1, h2⟩
  · match L, h, hR, hB with
    | a :: b :: c :: d :: r, _, hR, hB => exact (row_where rb B a b c d r W hR hB.head hB.tail.head hB.tail.tail.head hB.tail.tail.tail.head).mono fun e w' ⟨h1, h2⟩ => .inr ⟨a, b, c, d, r, rfl, h1, h2⟩
set_option maxHeartbeats 4000000 in
set_option maxRecDepth 100000 in
theorem row_long_cut (rb B : Nat) (L : List Int) (W : World) (hR : RdB W rb B L) (h : L.length < 8) :
    Calls Try.prog 35 #[.pointer (some ⟨rb, 0, none⟩)] W fun e w' => e = boom 8 ∧ Off W rb w' := by
  have HR := Aside0.mk hR
  have H := Aside0.mk h
  clear hR h
  go_enter Try.func35, Try.ntmps35
  go_wp2_with fail
  refine (row_take_cut rb B 8 L _ HR.out H.out).mono ?_
  rintro e w1 ⟨rfl, rfl⟩
  exact ⟨rfl, rfl, Off.refl _ _⟩
/-- (*row).long, either way -/
theorem row_long_any (rb B : Nat) (L : List Int) (W : World) (hR : RdB W rb B L) (hB : Byt L) :
    Calls Try.prog 35 #[.pointer (some ⟨rb, 0, none⟩)] W fun e w' => (L.length < 8 ∧ e = boom 8 ∧ Off W rb w') ∨ (∃ A r v, L = A ++ r ∧ A.length = 8 ∧ e = .returned (.int .i64 v) ∧ Left W rb B r w') := by
  rcases Nat.lt_or_ge L.length 8 with h | h
  · exact (row_long_cut rb B L W hR h).mono fun e w' ⟨h1, h2⟩ => .inl ⟨h, h1, h2⟩
  · have e : L = L.take 8 ++ L.drop 8 := (List.take_append_drop 8 L).symm
    have hl : (L.take 8).length = 8 := by rw [List.length_take]; omega
    rw [e] at hR hB
    exact (row_long rb B (L.take 8) (L.drop 8) W hR hl hB.left).mono fun e' w' ⟨h1, h2⟩ => .inr ⟨L.take 8, L.drop 8, _, e, hl, h1, h2⟩
set_option maxHeartbeats 4000000 in
set_option maxRecDepth 100000 in
theorem row_end_more (rb B : Nat) (x : Int) (L : List Int) (W : World) (hR : RdB W rb B (x :: L)) :
    Calls Try.prog 33 #[.pointer (some ⟨rb, 0, none⟩)] W fun e w' => e = boom 9 ∧ w' = W := by
  obtain ⟨hne, off, cap, hh, hc, hcell⟩ := hR
  have hu1 := Try.underlying38
  have hu2 := Try.underlying5
  have hu4 := Try.underlying60
  have c0 : W.cell? ⟨rb, 0, none⟩ = some (.slice (some ⟨B, off, none⟩) (L.length + 1) cap) := (blk_cell hh 0).trans rfl
  have hp : (0 : Int) < (L.length : Int) + 1 := by omega
  clear hh hc hcell hne
  go_enter Try.func33, Try.ntmps33
  go_wp2_with fail
  exact ⟨rfl, rfl, rfl⟩
/-- A call that may panic, in a region that draws. -/
theorem callP_ {P : Program} {ops : Array Oper} {Q : Exit → Act → World → Prop} {oi : Oper} {N : Option Tmp} {a : Act} {w : World} {K : Act → World → Prop} {f : FuncId} {fn : Func} {xs : Array Operand} {ts : Array TypeId} (hf : P.funcs[f]? = some fn) (hname : (fn.name == "runtime.NumGoroutine") = false) (hb : fn.body.isSome = true) (args : Array Value)
    (hw : Region.wanted oi (yielded ops a.tmps) = true) (hN : oi.dst = N) (hop : oi.op = .call { callee := .value (.func f), args := xs, argTypes := ts }) (hargs : xs.map a.eval = args)
    (h : Calls P f args w fun e w' => (∃ c, e = .panicked c ∧ Q (.panic c) a w') ∨ (∃ v, e = .returned v ∧ K (a.put N v) w')) : if Region.wanted oi (yielded ops a.tmps) = true then Oper.wp P oi a w K Q else K (a.put N undef) w := by
  have he := enters_ hf hname hb args w
  have hrun : (execOp a.eval oi).run P w = .ok (.enter f args) w := by
    unfold execOp
    simp [hop, resolve, Deferred.ofValue, invoke, Act.eval, hargs, he]
  rw [if_pos hw]
  subst hN
  unfold Oper.wp
  rw [hrun, Oper.upon_enter]
  refine h.mono fun e w'' hh => ?_
  rcases hh with ⟨c, rfl, hq⟩ | ⟨v, rfl, hk⟩
  · exact hq
  · exact hk
end Go.Proofs.Ytophnhmlknbmeaa.X
