/- The row of bytes that nodes, messages and entries are read from: what is still to be read, and what its methods leave. -/
import Derived.Test.YtophnhmlknbmeaaNRow
import Derived.WalkKit
import Derived.Laws.BytesArg
import Derived.Deep.LoopGhost
import Derived.Deep.RegionLaw
import Derived.Deep.QuietTactic
import Derived.BigQuiet
import Derived.StillTailTactics
import Derived.Laws.Cover3
import Derived.WalkLawsBesides
namespace Go.Proofs.Ytophnhmlknbmeaa.X
open Go.RowKit Go.Proofs.YtophnhmlknbmeaaW.PrintWords Go.Proofs.YtophnhmlknbmeaaW.PrintLast Go.Proofs.YtophnhmlknbmeaaW.PrintMore Go.Proofs.Ytophnhmlknbmeaa.More
set_option linter.unusedVariables false
set_option linter.unusedSimpArgs false

theorem i64_w_id (x : Int) (h0 : 0 ≤ x) (h1 : x < 256) : IntKind.i64.wrap x = x := by
  simp [IntKind.wrap, IntKind.bits, IntKind.signed]
  omega
/-- From a place of block B on stand the bytes L. -/
def BytesAt (W : World) (B off : Nat) (L : List Int) : Prop := ∀ i, i < L.length → W.cell? ⟨B, off + i, none⟩ = some (.int .u8 (L.getD i 0))
/-- Block rb is a row of which L is still to be read; its bytes lie in block B. -/
def RdB (W : World) (rb B : Nat) (L : List Int) : Prop := B ≠ rb ∧ ∃ off cap, W.heap[rb]? = some (.cells #[.slice (some ⟨B, off, none⟩) L.length cap] 60 (0, 0)) ∧ L.length ≤ cap ∧ BytesAt W B off L
theorem BytesAt.below {W W' : World} {B off : Nat} {L : List Int} (h : BytesAt W B off L) (hb : Below W.heap.size W W') : BytesAt W' B off L := fun i hi => (hb.cell (World.block_lt_of_cell? W _ (h i hi))).trans (h i hi)
theorem RdB.below {W W' : World} {rb B : Nat} {L : List Int} (h : RdB W rb B L) (hb : Below W.heap.size W W') : RdB W' rb B L := by
  obtain ⟨hne, off, cap, hh, hc, hcell⟩ := h
  exact ⟨hne, off, cap, blk_below hh hb, hc, hcell.below hb⟩
theorem RdB.lt {W : World} {rb B : Nat} {L : List Int} (h : RdB W rb B L) : rb < W.heap.size := by
  obtain ⟨_, off, cap, hh, _⟩ := h
  exact blk_lt hh
/-- What take leaves. -/
def Took (W : World) (rb B n : Nat) (L : List Int) (e : Ending) (w' : World) : Prop := ∃ off cap v, e = .returned (.slice (some ⟨B, off, none⟩) n cap) ∧ n ≤ cap ∧ BytesAt W B off (L.take n) ∧ w' = W.setCell ⟨rb, 0, none⟩ v ∧ RdB w' rb B (L.drop n)
theorem cell_far (W : World) (rb B j : Nat) (v : Value) (h : B ≠ rb) {q : Nat} : (W.setCell ⟨rb, q, none⟩ v).cell? ⟨B, j, none⟩ = W.cell? ⟨B, j, none⟩ := by
  unfold World.cell?
  rw [Below.heap_setCell W ⟨rb, q, none⟩ v B h]
theorem BytesAt.far {W : World} {rb B off : Nat} {L : List Int} (h : BytesAt W B off L) (hne : B ≠ rb) (v : Value) {q : Nat} : BytesAt (W.setCell ⟨rb, q, none⟩ v) B off L := fun i hi => (cell_far W rb B _ v hne).trans (h i hi)
theorem BytesAt.take {W : World} {B off : Nat} {L : List Int} (h : BytesAt W B off L) (n : Nat) : BytesAt W B off (L.take n) := fun i hi => by
  rw [List.length_take] at hi
  rw [h i (by omega), List.getD_eq_getElem?_getD, List.getD_eq_getElem?_getD, List.getElem?_take, if_pos (by omega)]
theorem BytesAt.drop {W : World} {B off : Nat} {L : List Int} (h : BytesAt W B off L) (n : Nat) : BytesAt W B (off + n) (L.drop n) := fun i hi => by
  rw [List.length_drop] at hi
  rw [Nat.add_assoc, h (n + i) (by omega), List.getD_eq_getElem?_getD, List.getD_eq_getElem?_getD, List.getElem?_drop]
theorem BytesAt.none {W : World} {B off : Nat} : BytesAt W B off [] := fun i hi => absurd hi (by simp)
theorem took_mk {W : World} {rb B off cap n : Nat} {L : List Int} (hne : B ≠ rb) (hh : W.heap[rb]? = some (.cells #[.slice (some ⟨B, off, none⟩) L.length cap] 60 (0, 0))) (hb : BytesAt W B off L) (hc : L.length ≤ cap) (hn : n ≤ L.length) (off2 : Nat) (h2 : off2 = off + n ∨ L.length = n) :
    Took W rb B n L (.returned (.slice (some ⟨B, off, none⟩) n cap)) (W.setCell ⟨rb, 0, none⟩ (.slice (some ⟨B, off2, none⟩) (L.length - n) (cap - n))) := by
  refine ⟨off, cap, _, rfl, by omega, hb.take n, rfl, hne, off2, cap - n, ?_, by rw [List.length_drop]; omega, ?_⟩
  · rw [List.length_drop]
    exact blk_put hh 0 _ rfl
  · rcases h2 with rfl | h2
    · exact (hb.drop n).far hne _
    · rw [List.drop_of_length_le (by omega)]
      exact .none
set_option maxHeartbeats 4000000 in
set_option maxRecDepth 100000 in
/-- (*row).take, where there is enough -/
theorem row_take (rb B n : Nat) (L : List Int) (W : World) (hR : RdB W rb B L) (hn : n ≤ L.length) :
    Calls Try.prog 43 #[.pointer (some ⟨rb, 0, none⟩), .int .i64 n] W fun e w' => Took W rb B n L e w' := by
  obtain ⟨hne, off, cap, hh, hc, hcell⟩ := hR
  have hu1 := Try.underlying38
  have hu2 := Try.underlying5
  have hu4 := Try.underlying60
  have c0 : W.cell? ⟨rb, 0, none⟩ = some (.slice (some ⟨B, off, none⟩) L.length cap) := (blk_cell hh 0).trans rfl
  have f0 : W.frozen? ⟨rb, 0, none⟩ = false := blk_frozen hh 0
  have h1 : ¬ ((L.length : Int) < (n : Int)) := by omega
  have h2 : (n : Int) ≤ (L.length : Int) := by omega
  have h3 : (n : Int) ≤ (cap : Int) := by omega
  have HH := Aside0.mk hh
  have HC := Aside0.mk hc
  have HCELL := Aside0.mk hcell
  have HNE := Aside0.mk hne
  clear hh hc hcell hne
  go_enter Try.func43, Try.ntmps43
  go_wp2_with fail
  · go_ret
    have h9 : cap = n := by assumption
    subst h9
    have e1 := took_mk HNE.out HH.out HCELL.out HC.out hn off (.inr (by have := HC.out; omega))
    rw [Nat.sub_self] at e1
    exact e1
  · go_ret
    exact took_mk HNE.out HH.out HCELL.out HC.out hn (off + n) (.inl rfl)
/-- What reading leaves: L in the row, and nothing else has turned. -/
def Left (W : World) (rb B : Nat) (L : List Int) (w' : World) : Prop := W.heap.size ≤ w'.heap.size ∧ (∀ k o, W.heap[k]? = some o → k ≠ rb → w'.heap[k]? = some o) ∧ (∀ w0, Below w0.heap.size w0 W → w0.heap.size ≤ rb → Below w0.heap.size w0 w') ∧ RdB w' rb B L
theorem left_set {W : World} {rb B : Nat} {L : List Int} {v : Value} (h : RdB (W.setCell ⟨rb, 0, none⟩ v) rb B L) : Left W rb B L (W.setCell ⟨rb, 0, none⟩ v) :=
  ⟨by simp, fun k o hk hne => (Below.heap_setCell W ⟨rb, 0, none⟩ v k hne).trans hk, fun w0 hb h1 => below_set hb h1, h⟩
theorem Left.trans {W w1 w2 : World} {rb B : Nat} {L L' : List Int} (h : Left W rb B L w1) (k : Left w1 rb B L' w2) : Left W rb B L' w2 :=
  ⟨Nat.le_trans h.1 k.1, fun j o hj hne => k.2.1 j o (h.2.1 j o hj hne) hne, fun w0 hb h1 => k.2.2.1 w0 (h.2.2.1 w0 hb h1) h1, k.2.2.2⟩
theorem Left.newset {W w : World} {rb B : Nat} {L : List Int} (h : Left W rb B L w) (N j : Nat) (u : Value) (hN : W.heap.size ≤ N) (h1 : rb < W.heap.size) (h2 : B < W.heap.size) : Left W rb B L (w.setCell ⟨N, j, none⟩ u) := by
  obtain ⟨hs, hk, hb, hne, off, cap, hh, hc, hx⟩ := h
  refine ⟨by simpa using hs, fun k o hk2 hk3 => ?_, fun w0 hw0 hr => below_set (hb w0 hw0 hr) (Nat.le_trans hw0.size hN), hne, off, cap, ?_, hc, hx.far (by omega) u⟩
  · have hlt : k < W.heap.size := (Array.getElem?_eq_some_iff.1 hk2).1
    exact (Below.heap_setCell w ⟨N, j, none⟩ u k (by show k ≠ N; omega)).trans (hk k o hk2 hk3)
  · exact (Below.heap_setCell w ⟨N, j, none⟩ u rb (by show rb ≠ N; omega)).trans hh
theorem Left.drew {W w : World} {rb B : Nat} {L : List Int} (h : Left W rb B L w) : Left W rb B L w.drew :=
  ⟨h.1, h.2.1, fun w0 hw0 hr => below_drew1 (h.2.2.1 w0 hw0 hr), h.2.2.2⟩
theorem left_alloc_set {W : World} {O : Obj} {rb B : Nat} {L : List Int} {v : Value} (h : RdB ((W.alloc O).setCell ⟨rb, 0, none⟩ v) rb B L) : Left W rb B L ((W.alloc O).setCell ⟨rb, 0, none⟩ v) :=
  ⟨by simp, fun k o hk hne => (Below.heap_setCell (W.alloc O) ⟨rb, 0, none⟩ v k hne).trans (blk_alloc hk O), fun w0 hb h1 => below_set (below_alloc hb O) h1, h⟩
theorem RdB.blt {W : World} {rb B : Nat} {x : Int} {L : List Int} (h : RdB W rb B (x :: L)) : B < W.heap.size := by
  obtain ⟨_, off, cap, _, _, hx⟩ := h
  exact World.block_lt_of_cell? W _ (hx 0 (by simp))
set_option maxHeartbeats 4000000 in
set_option maxRecDepth 100000 in
/-- (*row).one -/
theorem row_one (rb B : Nat) (x : Int) (L : List Int) (W : World) (hR : RdB W rb B (x :: L)) (h0 : 0 ≤ x) (h1 : x < 256) :
    Calls Try.prog 36 #[.pointer (some ⟨rb, 0, none⟩)] W fun e w' => e = .returned (.int .i64 x) ∧ Left W rb B L w' := by
  have HR := Aside0.mk hR
  have hne := hR.1
  have HNE := Aside0.mk hne
  have hw : IntKind.i64.wrap x = x := i64_w_id x h0 h1
  clear hR hne
  go_enter Try.func36, Try.ntmps36
  go_wp2_with (go_at_call 43; refine (row_take rb B 1 (x :: L) W HR.out (by simp)).mono ?_; rintro e w1 ⟨off, cap, v, rfl, hcap, hb, hw1, hR1⟩; have c0 : w1.cell? ⟨B, off, none⟩ = some (.int .u8 x) := (by rw [hw1]; exact (cell_far W rb B off v HNE.out).trans (hb 0 (by simp))); have HR1 := Aside0.mk hR1; have HW := Aside0.mk hw1; clear hR1 hw1 hb hcap)
  go_ret
  refine ⟨rfl, ?_⟩
  have hR1 := HR1.out
  rw [HW.out] at hR1 ⊢
  exact left_set hR1
theorem i64_nat (n : Nat) (h : n < 256) : IntKind.i64.wrap (n : Int) = n := i64_w_id _ (by omega) (by omega)
set_option maxHeartbeats 4000000 in
set_option maxRecDepth 100000 in
/-- (*row).str -/
theorem row_str (rb B n : Nat) (L : List Int) (W : World) (hR : RdB W rb B ((n : Int) :: L)) (h1 : n < 256) (h2 : n ≤ L.length) :
    Calls Try.prog 31 #[.pointer (some ⟨rb, 0, none⟩)] W fun e w' => e = .returned (.string (strOfNums (L.take n))) ∧ Left W rb B (L.drop n) w' := by
  have HR := Aside0.mk hR
  have hne := hR.1
  have HNE := Aside0.mk hne
  have H1 := Aside0.mk h1
  have H2 := Aside0.mk h2
  clear hR hne h1 h2
  go_enter Try.func31, Try.ntmps31
  go_wp2_with (first
    | (go_at_call 36; refine (row_one rb B n L W HR.out (by omega) (by have := H1.out; omega)).mono ?_; rintro e w1 ⟨rfl, hL1⟩; have HL1 := Aside0.mk hL1; clear hL1)
    | (go_at_call 43; refine (row_take rb B n L w1 HL1.out.2.2.2 H2.out).mono ?_; rintro e w2 ⟨off, cap, v, rfl, hcap, hb, hw1, hR1⟩; have hcv : ∀ dst, Try.prog.underlying dst = some .string → (convert 38 dst (.slice (some ⟨B, off, none⟩) n cap)).run Try.prog w2 = .ok (.string (strOfNums (L.take n))) w2 := run_convert_bytes_arg w2 38 5 Try.underlying38 Try.underlying5 B off n cap (L.take n) (by rw [List.length_take]; have := H2.out; omega) (fun i hi => by rw [hw1]; exact (cell_far w1 rb B _ v HNE.out).trans (hb i (by rw [List.length_take]; have := H2.out; omega))); have hcv2 := hcv 9 Try.underlying9; have HR1 := Aside0.mk hR1; have HW := Aside0.mk hw1; clear hR1 hw1 hb hcap hcv))
  go_ret
  refine ⟨rfl, ?_⟩
  have hR1 := HR1.out
  rw [HW.out] at hR1 ⊢
  exact HL1.out.trans (left_set hR1)
set_option maxHeartbeats 4000000 in
set_option maxRecDepth 100000 in
/-- (*row).end, where nothing is behind -/
theorem row_end (rb B : Nat) (W : World) (hR : RdB W rb B []) :
    Calls Try.prog 33 #[.pointer (some ⟨rb, 0, none⟩)] W fun e w' => e = .returned (.tuple #[]) ∧ w' = W := by
  obtain ⟨hne, off, cap, hh, hc, hcell⟩ := hR
  have hu1 := Try.underlying38
  have hu2 := Try.underlying5
  have hu4 := Try.underlying60
  have c0 : W.cell? ⟨rb, 0, none⟩ = some (.slice (some ⟨B, off, none⟩) 0 cap) := (blk_cell hh 0).trans rfl
  clear hh hc hcell hne
  go_enter Try.func33, Try.ntmps33
  go_wp2_with fail
  go_end0
  exact ⟨rfl, rfl⟩
set_option maxHeartbeats 4000000 in
set_option maxRecDepth 100000 in
/-- (*row).where -/
theorem row_where (rb B : Nat) (a b c d : Int) (L : List Int) (W : World) (hR : RdB W rb B (a :: b :: c :: d :: L)) (ha : 0 ≤ a ∧ a < 256) (hb : 0 ≤ b ∧ b < 256) (hc : 0 ≤ c ∧ c < 256) (hd : 0 ≤ d ∧ d < 256) :
    Calls Try.prog 32 #[.pointer (some ⟨rb, 0, none⟩)] W fun e w' => e = .returned (.agg #[.int .i64 a, .int .i64 b, .int .i64 c, .int .i64 d]) ∧ Left W rb B L w' := by
  have HR := Aside0.mk hR
  have hne := hR.1
  have HNE := Aside0.mk hne
  have hwa : IntKind.i64.wrap a = a := i64_w_id a ha.1 ha.2
  have hwb : IntKind.i64.wrap b = b := i64_w_id b hb.1 hb.2
  have hwc : IntKind.i64.wrap c = c := i64_w_id c hc.1 hc.2
  have hwd : IntKind.i64.wrap d = d := i64_w_id d hd.1 hd.2
  clear hR hne ha hb hc hd
  have hlt := HR.out.lt
  go_enter Try.func32, Try.ntmps32
  go_wp2_with (go_at_call 43; refine (row_take rb B 4 (a :: b :: c :: d :: L) _ (HR.out.below (below_alloc (Below.refl _ _) _)) (by simp)).mono ?_; rintro e w1 ⟨off, cap, v, rfl, hcap, hb, hw1, hR1⟩; have hcell : ∀ i, i < 4 → w1.cell? ⟨B, off + i, none⟩ = some (.int .u8 ((a :: b :: c :: d :: L).getD i 0)) := (fun i hi => by rw [hw1]; refine (cell_far _ rb B _ v HNE.out).trans ((hb i (by simp; omega)).trans ?_); rw [List.getD_eq_getElem?_getD, List.getD_eq_getElem?_getD, List.getElem?_take, if_pos hi]); have c0 : w1.cell? ⟨B, off, none⟩ = some (.int .u8 a) := hcell 0 (by omega); have c1 : w1.cell? ⟨B, off + 1, none⟩ = some (.int .u8 b) := hcell 1 (by omega); have c2 : w1.cell? ⟨B, off + 2, none⟩ = some (.int .u8 c) := hcell 2 (by omega); have c3 : w1.cell? ⟨B, off + 3, none⟩ = some (.int .u8 d) := hcell 3 (by omega); have hN : w1.heap[W.heap.size]? = some (.cells #[.int .i64 0, .int .i64 0, .int .i64 0, .int .i64 0] 23 (0, 0)) := (by rw [hw1]; exact (Below.heap_setCell _ ⟨rb, 0, none⟩ v W.heap.size (by show W.heap.size ≠ rb; omega)).trans (blk_new W _)); have z0 : w1.cell? ⟨W.heap.size, 0, none⟩ = some (.int .i64 0) := (blk_cell hN 0).trans rfl; have z1 : w1.cell? ⟨W.heap.size, 1, none⟩ = some (.int .i64 0) := (blk_cell hN 1).trans rfl; have z2 : w1.cell? ⟨W.heap.size, 2, none⟩ = some (.int .i64 0) := (blk_cell hN 2).trans rfl; have z3 : w1.cell? ⟨W.heap.size, 3, none⟩ = some (.int .i64 0) := (blk_cell hN 3).trans rfl; have k0 : w1.frozen? ⟨W.heap.size, 0, none⟩ = false := blk_frozen hN 0; have k1 : w1.frozen? ⟨W.heap.size, 1, none⟩ = false := blk_frozen hN 1; have k2 : w1.frozen? ⟨W.heap.size, 2, none⟩ = false := blk_frozen hN 2; have k3 : w1.frozen? ⟨W.heap.size, 3, none⟩ = false := blk_frozen hN 3; have hc4 : (3 : Int) < 4 := (by decide); have HN := Aside0.mk hN; have HR1 := Aside0.mk hR1; have HW := Aside0.mk hw1; clear hR1 hw1 hb hcap hcell hN)
  go_still_tail 17, (by kernel_rfl)
  change wpList _ _ _ _ _ w1.drew
  go_wp2_with fail
  refine bodyPost_ret (results_cell_row rfl _ _ W.heap.size 23 #[.int .i64 a, .int .i64 b, .int .i64 c, .int .i64 d] (0, 0) _ rfl (by refine blk_put (cs := #[.int .i64 a, .int .i64 b, .int .i64 c, .int .i64 0]) ?_ 3 _ rfl; refine blk_put (cs := #[.int .i64 a, .int .i64 b, .int .i64 0, .int .i64 0]) ?_ 2 _ rfl; refine blk_put (cs := #[.int .i64 a, .int .i64 0, .int .i64 0, .int .i64 0]) ?_ 1 _ rfl; exact blk_put HN.out 0 _ rfl) Try.underlying23 rfl (by kernel_rfl)) rfl ?_
  refine ⟨rfl, ?_⟩
  have hR1 := HR1.out
  have hb := HR.out.blt
  have hrb := HR.out.lt
  have e1 : Left W rb B L w1 := by
    rw [HW.out] at hR1 ⊢
    exact left_alloc_set hR1
  exact ((((e1.newset _ 0 _ (Nat.le_refl _) hrb hb).newset _ 1 _ (Nat.le_refl _) hrb hb).newset _ 2 _ (Nat.le_refl _) hrb hb).newset _ 3 _ (Nat.le_refl _) hrb hb).drew
theorem or_byte (v x : Int) (h0 : 0 ≤ x) (h1 : x < 256) : Go.bits .or .i64 (wrap64 (v * 256)) x = wrap64 (v * 256 + x) := by
  show IntKind.i64.wrap ((BitVec.ofInt 64 (wrap64 (v * 256)) ||| BitVec.ofInt 64 x).toNat : Int) = _
  have e1 : (BitVec.ofInt 64 (wrap64 (v * 256))).toNat = (v * 256 % 18446744073709551616).toNat := by
    rw [BitVec.toNat_ofInt]
    show (wrap64 (v * 256) % 18446744073709551616).toNat = _
    unfold wrap64
    omega
  have e2 : (BitVec.ofInt 64 x).toNat = x.toNat := by
    rw [BitVec.toNat_ofInt]
    show (x % 18446744073709551616).toNat = _
    omega
  rw [BitVec.toNat_or, e1, e2]
  obtain ⟨m, hm⟩ : ∃ m : Nat, (v * 256 % 18446744073709551616).toNat = m * 256 := ⟨(v * 256 % 18446744073709551616).toNat / 256, by omega⟩
  obtain ⟨y, rfl⟩ : ∃ y : Nat, x = (y : Int) := ⟨x.toNat, by omega⟩
  have e3 : m * 256 ||| y = m * 256 + y := by
    have h := Nat.shiftLeft_add_eq_or_of_lt (b := y) (i := 8) (by omega) m
    rw [Nat.shiftLeft_eq] at h
    exact h.symm
  rw [hm, Int.toNat_natCast, e3, Go.IntKind.wrap_i64]
  unfold wrap64
  omega
/-- What eight bytes say, one behind the other. -/
def valB (l : List Int) : Int := l.foldl (fun v x => wrap64 (v * 256 + x)) 0
def longHeld (W : World) (rb B off : Nat) (A L : List Int) (wr : World) : Prop := Left W rb B L wr ∧ BytesAt wr B off A
set_option maxHeartbeats 4000000 in
set_option maxRecDepth 100000 in
/-- (*row).long -/
theorem row_long (rb B : Nat) (A L : List Int) (W : World) (hR : RdB W rb B (A ++ L)) (hA : A.length = 8) (hb : ∀ x ∈ A, 0 ≤ x ∧ x < 256) :
    Calls Try.prog 35 #[.pointer (some ⟨rb, 0, none⟩)] W fun e w' => e = .returned (.int .i64 (valB A)) ∧ Left W rb B L w' := by
  have HR := Aside0.mk hR
  have hne := hR.1
  have HNE := Aside0.mk hne
  have HA := Aside0.mk hA
  have HBY := Aside0.mk hb
  clear hR hne hA hb
  go_enter Try.func35, Try.ntmps35
  go_wp2_with (go_at_call 43; refine (row_take rb B 8 (A ++ L) W HR.out (by have := HA.out; simp; omega)).mono ?_; rintro e w1 ⟨off, cap, v, rfl, hcap, hb, hw1, hR1⟩; rw [List.take_left' HA.out] at hb; rw [List.drop_left' HA.out] at hR1; have HBA : Aside0 (BytesAt w1 B off A) := ⟨by rw [hw1]; exact hb.far HNE.out v⟩; have HL : Aside0 (Left W rb B L w1) := ⟨by rw [hw1] at hR1 ⊢; exact left_set hR1⟩; clear hR1 hb hw1 hcap)
  go_loopw [3, 9] (fun n i wr => ∃ k : Nat, k ≤ 8 ∧ n = .int .i64 (valB (A.take k)) ∧ i = .int .i64 k ∧ longHeld W rb B off A L wr) (fun _ i _ => 8 - (intOf i).toNat)
  case atStart => exact ⟨0, Nat.zero_le _, rfl, rfl, HL.out, HBA.out⟩
  case round =>
    obtain ⟨k, hk, rfl, rfl, hL, hB⟩ := hrel
    obtain ⟨vk, hvk⟩ : ∃ vk, valB (A.take k) = vk := ⟨_, rfl⟩
    have HV := Aside0.mk hvk
    rw [hvk]
    clear hvk
    rcases Nat.lt_or_ge k 8 with hlt | hge
    · have ck := hB k (by have := HA.out; omega)
      obtain ⟨x, hx⟩ : ∃ x, A.getD k 0 = x := ⟨_, rfl⟩
      rw [hx] at ck
      have hlt2 : (k : Int) < 8 := by omega
      have HX := Aside0.mk hx
      have HL := Aside0.mk hL
      have HB := Aside0.mk hB
      have hx2 : 0 ≤ x ∧ x < 256 := HBY.out x (by
        rw [← hx, List.getD_eq_getElem?_getD, List.getElem?_eq_getElem (by have := HA.out; omega), Option.getD_some]
        exact List.getElem_mem _)
      have hwx : IntKind.i64.wrap x = x := i64_w_id x hx2.1 hx2.2
      clear hx hL hB
      go_wp2_with fail
      go_roundw
      case rel =>
        refine ⟨k + 1, by omega, ?_, by first | rfl | go_num, HL.out, HB.out⟩
        have e : A.take (k + 1) = A.take k ++ [x] := by
          rw [List.take_add_one, ← HX.out, List.getD_eq_getElem?_getD, List.getElem?_eq_getElem (by have := HA.out; omega)]
          rfl
        rw [e]
        unfold valB
        rw [List.foldl_append]
        show _ = Value.int IntKind.i64 (wrap64 (valB (A.take k) * 256 + x))
        rw [HV.out, or_byte vk x hx2.1 hx2.2]
      case measure => simp [intOf]; omega
    · obtain rfl : k = 8 := by omega
      have e : A.take 8 = A := List.take_of_length_le (by have := HA.out; omega)
      have HE := Aside0.mk e
      have HL := Aside0.mk hL
      clear e hL hB
      go_wp2_with fail
      go_ret
      have e2 := HV.out
      rw [HE.out] at e2
      exact ⟨by rw [e2]; rfl, HL.out⟩
/-- A row of the call's own, as bytes. -/
theorem bytes_of_own {W : World} {base : Nat} {v : Value} {l : List Int} (h : Kd.R (Kd.int .u8) 5 W base (fun _ => True) v l) (hne : l ≠ []) : ∃ g cap, v = .slice (some ⟨g, 0, none⟩) l.length cap ∧ base ≤ g ∧ l.length ≤ cap ∧ BytesAt W g 0 l ∧ ∃ cur, W.heap[g]? = some (.cells cur 5 (0, 0)) := by
  obtain ⟨_, h2⟩ := Kd.own_of_R h
  rcases h2 with ⟨_, h0⟩ | ⟨g, cap, cur, rfl, hb, hg, hn, _, _, ht⟩
  · exact absurd (List.eq_nil_of_length_eq_zero h0) hne
  · refine ⟨g, cap, rfl, hb, hn, fun i hi => ?_, cur, hg⟩
    rw [Nat.zero_add]
    refine (blk_cell hg i).trans ?_
    have e : cur.toList[i]? = (cur.toList.take (l.length * 1))[i]? := by rw [List.getElem?_take, if_pos (by omega)]
    rw [← Array.getElem?_toList, e, ht]
    simp [encs, nums, hi]
set_option maxHeartbeats 4000000 in
set_option maxRecDepth 100000 in
/-- slices.Clone -/
theorem row_clone (ad : Addr) (c0 : Nat) (l0 : List Int) (w : World) (hr0 : Kd.C (Kd.int .u8) w (some ad) l0.length l0) (hc0 : l0.length ≤ c0) (hne : l0 ≠ []) (hl : l0.length ≤ 1000000) :
    Calls Try.prog 28 #[.slice (some ad) l0.length c0] w fun e w' => ∃ g cap, e = .returned (.slice (some ⟨g, 0, none⟩) l0.length cap) ∧ w.heap.size ≤ g ∧ l0.length ≤ cap ∧ BytesAt w' g 0 l0 ∧ (∃ cur, w'.heap[g]? = some (.cells cur 5 (0, 0))) ∧ Below w.heap.size w w' := by
  have hu1 := Try.underlying38
  have hu2 := Try.underlying5
  have hq : (binOp .eql 38 (.slice (some ad) l0.length c0) (.slice none 0 0)).run Try.prog w = .ok (.bool false) w := by
    simp only [binOp]
    simp [run_equal_slice_nil w 38 5 (some ad) l0.length c0 hu1]
  have HR := Aside0.mk hr0
  have HC := Aside0.mk hc0
  have HN := Aside0.mk hne
  have HL := Aside0.mk hl
  clear hr0 hc0 hne hl
  go_enter Try.func28, Try.ntmps28
  go_wp2_with (first
    | ((with_reducible refine gate_dst (N := 5) rfl ?_); refine Kd.R_lit (Kd.int .u8) _ 5 ?hg (N := 5) ?hd (xs := ([] : List Int)) (inner := []) (ok := fun _ => True) (okp := fun _ => True) ?hr ?hp (fun _ hk => hk) trivial (Below.refl _ _) (Nat.le_refl _) (by simp) ?_; (case hd => rfl); (case hg => rfl); (case hr => first | (go_simp; done) | (go_simp; rfl)); (case hp => exact (Reps.none _ _)); intro v1 w1 ho hb hg_ hnew_; clear hg_ hnew_; have HO := Aside0.mk ho; have HB := Aside0.mk hb; clear ho hb)
    | ((with_reducible refine gate_builtin (b := .append) (xs := #[.tmp 5, .tmp 6]) rfl ?_); at_builtin; refine Kd.R_append_rows (Kd.int .u8) (w0 := w) w.heap.size rfl (.tmp 5) (.tmp 6) 38 5 (.int .u8 0) 1 rfl Try.underlying38 infoB rfl (by decide) (by omega) v1 [] l0 _ _ _ (fun _ => True) (fun _ => False) rfl rfl ?aO ?aR (fun _ _ h => h) (fun _ h => h.elim) ?aF ?aB ?aS ?aL ?_; (case aR => exact Kd.C_below HR.out HB.out); (case aB => exact HB.out); (case aF => exact (fun _ _ => trivial)); (case aO => exact HO.out); (case aS => exact HB.out.size); (case aL => have := HL.out; simp; omega); intro v2 w2 ho hb hg hat; have HO2 := Aside0.mk ho; have HB2 := Aside0.mk hb; clear ho hb hg hat))
  go_ret
  rw [List.nil_append] at HO2
  obtain ⟨g, cap, rfl, h1, h2, h3, h4⟩ := bytes_of_own HO2.out HN.out
  exact ⟨g, cap, rfl, h1, h2, h3, h4, HB2.out⟩
set_option maxHeartbeats 4000000 in
set_option maxRecDepth 100000 in
/-- (*row).take, where there is not enough -/
theorem row_take_cut (rb B n : Nat) (L : List Int) (W : World) (hR : RdB W rb B L) (hn : L.length < n) :
    Calls Try.prog 43 #[.pointer (some ⟨rb, 0, none⟩), .int .i64 n] W fun e w' => e = .panicked [{ v := .iface 43 (.int .i64 8), recovered := false }] ∧ w' = W := by
  obtain ⟨hne, off, cap, hh, hc, hcell⟩ := hR
  have hu1 := Try.underlying38
  have hu2 := Try.underlying5
  have hu4 := Try.underlying60
  have c0 : W.cell? ⟨rb, 0, none⟩ = some (.slice (some ⟨B, off, none⟩) L.length cap) := (blk_cell hh 0).trans rfl
  have f0 : W.frozen? ⟨rb, 0, none⟩ = false := blk_frozen hh 0
  have h1 : ((L.length : Int) < (n : Int)) := by omega
  clear hh hc hcell hne
  go_enter Try.func43, Try.ntmps43
  go_wp2_with fail
  exact ⟨rfl, ⟨rfl, rfl⟩⟩
end Go.Proofs.Ytophnhmlknbmeaa.X
