/- Parse, up to what its guard tells: of no bytes, too. -/
import Derived.Test.YtophnhmlknbmeaaNNode
namespace Go.Proofs.Ytophnhmlknbmeaa.X
open Go.RowKit Go.Proofs.YtophnhmlknbmeaaW.PrintWords Go.Proofs.YtophnhmlknbmeaaW.PrintLast Go.Proofs.YtophnhmlknbmeaaW.PrintMore Go.Proofs.Ytophnhmlknbmeaa.More
set_option linter.unusedVariables false
set_option linter.unusedSimpArgs false
set_option maxHeartbeats 4000000 in
set_option maxRecDepth 100000 in
theorem row_take_empty (rb n : Nat) (A : Option Addr) (c : Nat) (W : World) (hc : W.cell? ⟨rb, 0, none⟩ = some (.slice A 0 c)) (hn : 0 < n) :
    Calls Try.prog 43 #[.pointer (some ⟨rb, 0, none⟩), .int .i64 n] W fun e w' => e = boom 8 ∧ w' = W := by
  have hu1 := Try.underlying38
  have hu2 := Try.underlying5
  have hu4 := Try.underlying60
  have h1 : ((0 : Int) < (n : Int)) := by omega
  have h2 : 0 < n := hn
  clear hn
  go_enter Try.func43, Try.ntmps43
  go_wp2_with fail
  exact ⟨rfl, ⟨rfl, rfl⟩⟩
set_option maxHeartbeats 4000000 in
set_option maxRecDepth 100000 in
theorem row_one_empty (rb : Nat) (A : Option Addr) (c : Nat) (W : World) (hc : W.cell? ⟨rb, 0, none⟩ = some (.slice A 0 c)) :
    Calls Try.prog 36 #[.pointer (some ⟨rb, 0, none⟩)] W fun e w' => e = boom 8 ∧ w' = W := by
  have HC := Aside0.mk hc
  clear hc
  go_enter Try.func36, Try.ntmps36
  go_wp2_with fail
  refine (row_take_empty rb 1 A c W HC.out (by omega)).mono ?_
  rintro e w1 ⟨rfl, rfl⟩
  exact ⟨rfl, rfl, rfl⟩
set_option maxHeartbeats 4000000 in
set_option maxRecDepth 100000 in
theorem row_str_empty (rb : Nat) (A : Option Addr) (c : Nat) (W : World) (hc : W.cell? ⟨rb, 0, none⟩ = some (.slice A 0 c)) :
    Calls Try.prog 31 #[.pointer (some ⟨rb, 0, none⟩)] W fun e w' => e = boom 8 ∧ w' = W := by
  have HC := Aside0.mk hc
  clear hc
  go_enter Try.func31, Try.ntmps31
  go_wp2_with fail
  refine (row_one_empty rb A c W HC.out).mono ?_
  rintro e w1 ⟨rfl, rfl⟩
  exact ⟨rfl, rfl, rfl⟩
set_option maxHeartbeats 4000000 in
set_option maxRecDepth 100000 in
theorem node_closure_empty (rp mb rb : Nat) (A : Option Addr) (c : Nat) (W : World) (hp : W.cell? ⟨rp, 0, none⟩ = some (.pointer (some ⟨rb, 0, none⟩))) (hc : W.cell? ⟨rb, 0, none⟩ = some (.slice A 0 c)) :
    Calls Try.prog 40 #[.pointer (some ⟨rp, 0, none⟩), .pointer (some ⟨mb, 0, none⟩)] W fun e w' => e = boom 8 ∧ w' = W := by
  have HC := Aside0.mk hc
  clear hc
  go_enter Try.func40, Try.ntmps40
  go_wp2_with fail
  refine (row_str_empty rb A c W HC.out).mono ?_
  rintro e w1 ⟨rfl, rfl⟩
  exact ⟨rfl, rfl, rfl⟩
set_option maxHeartbeats 4000000 in
set_option maxRecDepth 100000 in
theorem clone_none (c0 : Nat) (w : World) :
    Calls Try.prog 28 #[.slice none 0 c0] w fun e w' => ∃ A c, e = .returned (.slice A 0 c) ∧ Below w.heap.size w w' := by
  have hu1 := Try.underlying38
  have hu2 := Try.underlying5
  have hq : (binOp .eql 38 (.slice none 0 c0) (.slice none 0 0)).run Try.prog w = .ok (.bool true) w := by
    simp only [binOp]
    simp [run_equal_slice_nil w 38 5 none 0 c0 hu1]
  go_enter Try.func28, Try.ntmps28
  go_wp2_with fail
  go_ret
  exact ⟨_, _, rfl, Below.refl _ _⟩
set_option maxHeartbeats 4000000 in
set_option maxRecDepth 100000 in
theorem clone_empty (ad : Addr) (c0 : Nat) (w : World) (hr0 : Kd.C (Kd.int .u8) w (some ad) 0 ([] : List Int)) :
    Calls Try.prog 28 #[.slice (some ad) 0 c0] w fun e w' => ∃ A c, e = .returned (.slice A 0 c) ∧ Below w.heap.size w w' := by
  have hu1 := Try.underlying38
  have hu2 := Try.underlying5
  have hq : (binOp .eql 38 (.slice (some ad) 0 c0) (.slice none 0 0)).run Try.prog w = .ok (.bool false) w := by
    simp only [binOp]
    simp [run_equal_slice_nil w 38 5 (some ad) 0 c0 hu1]
  have HR := Aside0.mk hr0
  clear hr0
  go_enter Try.func28, Try.ntmps28
  go_wp2_with (first
    | ((with_reducible refine gate_dst (N := 5) rfl ?_); refine Kd.R_lit (Kd.int .u8) _ 5 ?hg (N := 5) ?hd (xs := ([] : List Int)) (inner := []) (ok := fun _ => True) (okp := fun _ => True) ?hr ?hp (fun _ hk => hk) trivial (Below.refl _ _) (Nat.le_refl _) (by simp) ?_; (case hd => rfl); (case hg => rfl); (case hr => first | (go_simp; done) | (go_simp; rfl)); (case hp => exact (Reps.none _ _)); intro v1 w1 ho hb hg_ hnew_; clear hg_ hnew_; have HO := Aside0.mk ho; have HB := Aside0.mk hb; clear ho hb)
    | ((with_reducible refine gate_builtin (b := .append) (xs := #[.tmp 5, .tmp 6]) rfl ?_); at_builtin; refine Kd.R_append_rows (Kd.int .u8) (w0 := w) w.heap.size rfl (.tmp 5) (.tmp 6) 38 5 (.int .u8 0) 1 rfl Try.underlying38 infoB rfl (by decide) (by omega) v1 [] ([] : List Int) _ _ _ (fun _ => True) (fun _ => False) rfl rfl ?aO ?aR (fun _ _ h => h) (fun _ h => h.elim) ?aF ?aB ?aS ?aL ?_; (case aR => exact Kd.C_below HR.out HB.out); (case aB => exact HB.out); (case aF => exact (fun _ _ => trivial)); (case aO => exact HO.out); (case aS => exact HB.out.size); (case aL => simp); intro v2 w2 ho hb hg hat; have HO2 := Aside0.mk ho; have HB2 := Aside0.mk hb; clear ho hb hg hat))
  go_ret
  obtain ⟨_, inner, ho, _⟩ := HO2.out
  rcases ho.2 with ⟨rfl, _⟩ | ⟨g, cap, cur, rfl, _⟩ <;> exact ⟨_, _, rfl, HB2.out⟩
/-- What slices.Clone hands back. -/
def Cloned (w1 : World) (b0 : Nat) (A : Option Addr) (L : List Int) (c : Nat) : Prop := L = [] ∨ ∃ B, A = some ⟨B, 0, none⟩ ∧ b0 ≤ B ∧ L.length ≤ c ∧ BytesAt w1 B 0 L ∧ ∃ cur, w1.heap[B]? = some (.cells cur 5 (0, 0))
theorem clone_any (A0 : Option Addr) (c0 : Nat) (l0 : List Int) (w : World) (hr0 : Kd.C (Kd.int .u8) w A0 l0.length l0) (hc0 : l0.length ≤ c0) (hl : l0.length ≤ 1000000) :
    Calls Try.prog 28 #[.slice A0 l0.length c0] w fun e w' => ∃ A c, e = .returned (.slice A l0.length c) ∧ Cloned w' w.heap.size A l0 c ∧ Below w.heap.size w w' := by
  by_cases he : l0 = []
  · subst he
    rcases A0 with _ | ad
    · exact (clone_none c0 w).mono fun e w' ⟨A, c, h1, h2⟩ => ⟨A, c, h1, .inl rfl, h2⟩
    · exact (clone_empty ad c0 w hr0).mono fun e w' ⟨A, c, h1, h2⟩ => ⟨A, c, h1, .inl rfl, h2⟩
  · have hpos : 0 < l0.length := List.length_pos_iff.2 he
    obtain ⟨ad, rfl⟩ : ∃ ad, A0 = some ad := by
      obtain ⟨ad, e_, _⟩ := hr0.2.2 hpos
      exact ⟨ad, e_⟩
    exact (row_clone ad c0 l0 w hr0 hc0 he hl).mono fun e w' ⟨g, cap, h1, h2, h3, h4, h5, h6⟩ => ⟨_, cap, h1, .inr ⟨g, rfl, h2, h3, h4, h5⟩, h6⟩
theorem R_nil0 {α : Type} {d : Kd α} {e : TypeId} {w : World} {base : Nat} {ok : Nat → Prop} : d.R e w base ok (.slice none 0 0) [] := ⟨fun _ h => by simp [Value.ownBlock] at h, [], World.ownsRow_nil _ _ _ _, Reps.none _ _⟩
/-- Parse's closure, over a clone. -/
theorem node_closure_any (WA w1 W : World) (rp mb rb N : Nat) (A : Option Addr) (cap : Nat) (L : List Int) (c : Int) (hc : cNode L = c) (hc0 : c ≠ 0) (hby : Byt L) (hcl : Cloned w1 WA.heap.size A L cap)
    (q1 : W.heap[rb]? = some (.cells #[.slice A L.length cap] 60 (0, 0))) (q2 : W.heap[rp]? = some (.cells #[.pointer (some ⟨rb, 0, none⟩)] 58 (0, 0))) (q3 : W.heap[mb]? = some (.cells #[.string ⟨#[]⟩, .bool false, .int .i64 0, .int .i64 0, .int .i64 0, .int .i64 0, .slice none 0 0, .int .i64 0, .int .i64 0, .int .i64 0, .int .i64 0, .slice none 0 0, .int .i64 0, .int .i64 0, .int .i64 0, .int .i64 0] 29 (0, 0))) (q4 : W.heap[N]? = some (.cells #[.int .i64 0] 43 (0, 0)))
    (hb0 : Below WA.heap.size WA w1) (hb : Below w1.heap.size w1 W) (hrb : w1.heap.size ≤ rb) (hrp : rb < rp) (hmb : rp < mb) (hN : mb < N) :
    Calls Try.prog 40 #[.pointer (some ⟨rp, 0, none⟩), .pointer (some ⟨mb, 0, none⟩)] W fun e w' => e = boom c ∧ w'.heap[N]? = some (.cells #[.int .i64 0] 43 (0, 0)) ∧ Below WA.heap.size WA w' := by
  have hs := hb0.size
  rcases hcl with rfl | ⟨B, rfl, hB0, hcap, hbt, cur, hcur⟩
  · obtain rfl : c = 8 := hc.symm
    exact (node_closure_empty rp mb rb A cap W ((blk_cell q2 0).trans rfl) ((blk_cell q1 0).trans rfl)).mono fun e w' ⟨h1, h2⟩ => ⟨h1, h2 ▸ q4, h2 ▸ below_step hb0 hb⟩
  · have hBlt : B < w1.heap.size := blk_lt hcur
    exact node_closure WA W rp mb rb B N L c hc hc0 ⟨⟨q2, q3, q4, ⟨by omega, 0, cap, q1, hcap, hbt.below hb⟩, below_step hb0 hb, by omega, by omega, by omega, by omega, by omega, by omega, by omega, by omega⟩, hby, ⟨cur, blk_below hcur hb⟩, R_nil0, R_nil0⟩
theorem node_enters : ∀ args w, (callFunc 40 args).run Try.prog w = .ok (.enter 40 args) w := fun args w => by simp [go_sem]
end Go.Proofs.Ytophnhmlknbmeaa.X
