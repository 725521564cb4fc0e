/- Written by a program of this session over the kit's print: YtophnhmlknbmeaaF15. -/
import Derived.Test.YtophnhmlknbmeaaH
import Derived.Test.YtophnhmlknbmeaaNMsg
namespace Go.Proofs.Ytophnhmlknbmeaa.X
open Go.RowKit Go.Proofs.YtophnhmlknbmeaaW.PrintWords Go.Proofs.YtophnhmlknbmeaaW.PrintLast Go.Proofs.YtophnhmlknbmeaaW.PrintMore Go.Proofs.Ytophnhmlknbmeaa.More
attribute [local go_sem] max2_int min2_int max_two min_two max_three min_three max_four min_four binOp_string_leq binOp_string_gtr   -- for this text's walks alone
set_option linter.unusedVariables false
set_option linter.unusedSimpArgs false

/-! ### node_ParseMessage: function 15 -/
def node_ParseMessage.f (l0 : List Int) : Option (ByteArray × Int × Int × Int × Int × ByteArray × Int × Int × Int × Int × ByteArray × Int) := (pStr l0).bind fun p0 => (pLab p0.2).bind fun p1 => (pStr p1.2).bind fun p2 => (pLab p2.2).bind fun p3 => (pStr p3.2).bind fun p4 => if p4.2 = [] ∧ l0.length ≤ 1000000 then some (p0.1, p1.1.1, p1.1.2.1, p1.1.2.2.1, p1.1.2.2.2, p2.1, p3.1.1, p3.1.2.1, p3.1.2.2.1, p3.1.2.2.2, p4.1, 0) else none
set_option maxHeartbeats 16000000 in
set_option maxRecDepth 100000 in
theorem node_ParseMessage.calls (A0 : Option Addr) (c0 : Nat) (l0 : List Int) (r1 : ByteArray) (r2 : Int) (r3 : Int) (r4 : Int) (r5 : Int) (r6 : ByteArray) (r7 : Int) (r8 : Int) (r9 : Int) (r10 : Int) (r11 : ByteArray) (r12 : Int) (w : World) (hr0 : Kd.C (Kd.int .u8) w A0 l0.length l0) (hc0 : l0.length ≤ c0) (h : node_ParseMessage.f l0 = some (r1, r2, r3, r4, r5, r6, r7, r8, r9, r10, r11, r12)) :
    Calls Try.prog 15 #[.slice A0 l0.length c0] w fun e w' => e = .returned (.tuple #[.agg #[.string r1, .int .i64 r2, .int .i64 r3, .int .i64 r4, .int .i64 r5, .string r6, .int .i64 r7, .int .i64 r8, .int .i64 r9, .int .i64 r10, .string r11], .int .i64 r12]) ∧ Below w.heap.size w w' := by
  unfold node_ParseMessage.f at h
  replace h := Option.bind_eq_some_iff.mp h
  obtain ⟨⟨v0, t0⟩, e0, h⟩ := h
  try dsimp only at h e0
  replace h := Option.bind_eq_some_iff.mp h
  obtain ⟨⟨v1, t1⟩, e1, h⟩ := h
  try dsimp only at h e1
  replace h := Option.bind_eq_some_iff.mp h
  obtain ⟨⟨v2, t2⟩, e2, h⟩ := h
  try dsimp only at h e2
  replace h := Option.bind_eq_some_iff.mp h
  obtain ⟨⟨v3, t3⟩, e3, h⟩ := h
  try dsimp only at h e3
  replace h := Option.bind_eq_some_iff.mp h
  obtain ⟨⟨v4, t4⟩, e4, h⟩ := h
  try dsimp only at h e4
  have hz : t4 = [] ∧ l0.length ≤ 1000000 := by
    refine Decidable.byContradiction fun hz => ?_
    rw [if_neg hz] at h
    exact absurd h (by simp)
  rw [if_pos hz] at h
  obtain ⟨rfl, hlen⟩ := hz
  have h := Option.some.inj h
  simp only [Prod.mk.injEq] at h
  obtain ⟨X0, hs0, hX0, hv0⟩ := pStr_inv e0
  obtain ⟨a1, b1, c1, d1, hs1, hL1, hv1⟩ := pLab_inv e1
  obtain ⟨X2, hs2, hX2, hv2⟩ := pStr_inv e2
  obtain ⟨a3, b3, c3, d3, hs3, hL3, hv3⟩ := pLab_inv e3
  obtain ⟨X4, hs4, hX4, hv4⟩ := pStr_inv e4
  clear e0 e1 e2 e3 e4
  subst hv0
  subst hv1
  subst hv2
  subst hv3
  subst hv4
  subst hs4
  subst hs3
  subst hs2
  subst hs1
  subst hs0
  obtain ⟨rfl, rfl, rfl, rfl, rfl, rfl, rfl, rfl, rfl, rfl, rfl, rfl⟩ := h
  obtain ⟨L, hLL⟩ : ∃ L, L = ((X0.length : Int) :: (X0 ++ (a1 :: b1 :: c1 :: d1 :: ((X2.length : Int) :: (X2 ++ (a3 :: b3 :: c3 :: d3 :: ((X4.length : Int) :: (X4 ++ [])))))))) := ⟨_, rfl⟩
  rw [← hLL] at hr0 hc0 hlen ⊢
  have hne : L ≠ [] := by
    intro e_
    rw [e_] at hLL
    have h9 := congrArg List.length hLL
    simp at h9
  have hpos : 0 < L.length := List.length_pos_iff.2 hne
  obtain ⟨ad, rfl⟩ : ∃ ad, A0 = some ad := by
    obtain ⟨ad, e_, _⟩ := hr0.2.2 hpos
    exact ⟨ad, e_⟩
  have hu1 := Try.underlying42
  have hu2 := Try.underlying60
  have hu3 := Try.underlying58
  have hmf : ∀ (fn : Fn) (first cap : Array Value) (w : World), (Instr.makeFunc fn first cap).run Try.prog w = .ok (.func fn first cap) w := fun _ _ _ _ => rfl
  have HX0 := Aside0.mk hX0
  have HL1 := Aside0.mk hL1
  have HX2 := Aside0.mk hX2
  have HL3 := Aside0.mk hL3
  have HX4 := Aside0.mk hX4
  have HR := Aside0.mk hr0
  have HC := Aside0.mk hc0
  have HNE := Aside0.mk hne
  have HLEN := Aside0.mk hlen
  have HLL := Aside0.mk hLL
  clear hr0 hc0 hne hlen hLL hpos hX0 hL1 hX2 hL3 hX4
  go_enter Try.func15, Try.ntmps15
  go_wp2_with fail
  refine (row_clone ad c0 L _ (Kd.C_below HR.out (below_alloc (Below.refl _ _) _)) HC.out HNE.out HLEN.out).mono ?_
  rintro e w1 ⟨B, cap, rfl, hB0, hcap, hby, ⟨cur, hcur⟩, hb1⟩
  have z1 : w.heap.size + 1 ≤ w1.heap.size := by have := hb1.size; simpa using this
  have hBlt : B < w1.heap.size := blk_lt hcur
  have HB1 := Aside0.mk hb1
  have HBY := Aside0.mk hby
  have HCAP := Aside0.mk hcap
  have HBLT := Aside0.mk hBlt
  have HZ1 := Aside0.mk z1
  clear hb1 hby hcap hcur hBlt z1 hB0
  go_wp2_with fail
  obtain ⟨W2, hW2⟩ : ∃ W2, (((w1.alloc (.cells #[.slice (some ⟨B, 0, none⟩) L.length cap] 60)).alloc (.cells #[.pointer (some ⟨w1.heap.size, 0, none⟩)] 58)).alloc (.cells #[.string ⟨#[]⟩, .int .i64 0, .int .i64 0, .int .i64 0, .int .i64 0, .string ⟨#[]⟩, .int .i64 0, .int .i64 0, .int .i64 0, .int .i64 0, .string ⟨#[]⟩] 42)) = W2 := ⟨_, rfl⟩
  rw [hW2]
  have q1 : W2.heap[w1.heap.size]? = some (.cells #[.slice (some ⟨B, 0, none⟩) L.length cap] 60 (0, 0)) := by rw [← hW2]; exact blk_alloc (blk_alloc (blk_new w1 _) _) _
  have q2 : W2.heap[w1.heap.size + 1]? = some (.cells #[.pointer (some ⟨w1.heap.size, 0, none⟩)] 58 (0, 0)) := by
    rw [← hW2]
    have q := blk_alloc (blk_new (w1.alloc (.cells #[.slice (some ⟨B, 0, none⟩) L.length cap] 60)) (.cells #[.pointer (some ⟨w1.heap.size, 0, none⟩)] 58)) (.cells #[.string ⟨#[]⟩, .int .i64 0, .int .i64 0, .int .i64 0, .int .i64 0, .string ⟨#[]⟩, .int .i64 0, .int .i64 0, .int .i64 0, .int .i64 0, .string ⟨#[]⟩] 42)
    simpa using q
  have q3 : W2.heap[w1.heap.size + 1 + 1]? = some (.cells #[.string ⟨#[]⟩, .int .i64 0, .int .i64 0, .int .i64 0, .int .i64 0, .string ⟨#[]⟩, .int .i64 0, .int .i64 0, .int .i64 0, .int .i64 0, .string ⟨#[]⟩] 42 (0, 0)) := by
    rw [← hW2]
    have q := blk_new ((w1.alloc (.cells #[.slice (some ⟨B, 0, none⟩) L.length cap] 60)).alloc (.cells #[.pointer (some ⟨w1.heap.size, 0, none⟩)] 58)) (.cells #[.string ⟨#[]⟩, .int .i64 0, .int .i64 0, .int .i64 0, .int .i64 0, .string ⟨#[]⟩, .int .i64 0, .int .i64 0, .int .i64 0, .int .i64 0, .string ⟨#[]⟩] 42)
    simpa using q
  have q4 : Below w1.heap.size w1 W2 := by rw [← hW2]; exact below_alloc (below_alloc (below_alloc (Below.refl _ _) _) _) _
  have s2 : W2.heap.size = w1.heap.size + 3 := by rw [← hW2]; simp
  clear hW2
  have hMs : Ms 42 (w.alloc (.cells #[.string ⟨#[]⟩, .int .i64 0, .int .i64 0, .int .i64 0, .int .i64 0, .string ⟨#[]⟩, .int .i64 0, .int .i64 0, .int .i64 0, .int .i64 0, .string ⟨#[]⟩] 42)) (W2.alloc (.cells #[.int .i64 0] 43)) (w1.heap.size + 1) (w1.heap.size + 1 + 1) w1.heap.size B W2.heap.size #[.string ⟨#[]⟩, .int .i64 0, .int .i64 0, .int .i64 0, .int .i64 0, .string ⟨#[]⟩, .int .i64 0, .int .i64 0, .int .i64 0, .int .i64 0, .string ⟨#[]⟩] ((X0.length : Int) :: (X0 ++ (a1 :: b1 :: c1 :: d1 :: ((X2.length : Int) :: (X2 ++ (a3 :: b3 :: c3 :: d3 :: ((X4.length : Int) :: (X4 ++ [])))))))) := by
    rw [← HLL.out]
    have z1 := HZ1.out
    have hB := HBLT.out
    have hs := HB1.out.size
    exact ⟨blk_alloc q2 _, blk_alloc q3 _, blk_new W2 _, ⟨by omega, 0, cap, blk_alloc q1 _, HCAP.out, (HBY.out.below q4).below (below_alloc (Below.refl _ _) _)⟩, below_alloc (below_step HB1.out q4) _, hs, by omega, by omega, by omega, by omega, by omega, by omega, by omega⟩
  refine (guard_ok 30 #[.pointer (some ⟨(w1.heap.size + 1), 0, none⟩), .pointer (some ⟨(w1.heap.size + 1 + 1), 0, none⟩)] W2 (fun w' => Ms 42 (w.alloc (.cells #[.string ⟨#[]⟩, .int .i64 0, .int .i64 0, .int .i64 0, .int .i64 0, .string ⟨#[]⟩, .int .i64 0, .int .i64 0, .int .i64 0, .int .i64 0, .string ⟨#[]⟩] 42)) w' (w1.heap.size + 1) (w1.heap.size + 1 + 1) w1.heap.size B W2.heap.size #[.string (strOfNums X0), .int .i64 a1, .int .i64 b1, .int .i64 c1, .int .i64 d1, .string (strOfNums X2), .int .i64 a3, .int .i64 b3, .int .i64 c3, .int .i64 d3, .string (strOfNums X4)] []) msg_enters ((msg_closure (w.alloc (.cells #[.string ⟨#[]⟩, .int .i64 0, .int .i64 0, .int .i64 0, .int .i64 0, .string ⟨#[]⟩, .int .i64 0, .int .i64 0, .int .i64 0, .int .i64 0, .string ⟨#[]⟩] 42)) _ (w1.heap.size + 1) (w1.heap.size + 1 + 1) w1.heap.size B W2.heap.size X0 a1 b1 c1 d1 X2 a3 b3 c3 d3 X4 HX0.out HL1.out HX2.out HL3.out HX4.out hMs).mono (fun e w' he => ⟨he.1, he.2.2.2.1, he.2⟩))).mono ?_
  rintro e w3 ⟨rfl, w4, hM, _, hw3⟩
  have hs3 : (w.alloc (.cells #[.string ⟨#[]⟩, .int .i64 0, .int .i64 0, .int .i64 0, .int .i64 0, .string ⟨#[]⟩, .int .i64 0, .int .i64 0, .int .i64 0, .int .i64 0, .string ⟨#[]⟩] 42)).heap.size ≤ W2.heap.size := Nat.le_trans (below_step HB1.out q4).size (Nat.le_refl _)
  have m_ : w3.heap[w1.heap.size + 1 + 1]? = some (.cells #[.string (strOfNums X0), .int .i64 a1, .int .i64 b1, .int .i64 c1, .int .i64 d1, .string (strOfNums X2), .int .i64 a3, .int .i64 b3, .int .i64 c3, .int .i64 d3, .string (strOfNums X4)] 42 (0, 0)) := by rw [hw3]; exact (Below.heap_setCell w4 ⟨W2.heap.size, 0, none⟩ _ (w1.heap.size + 1 + 1) (by show w1.heap.size + 1 + 1 ≠ W2.heap.size; omega)).trans hM.2.1
  have hb3 : Below (w.alloc (.cells #[.string ⟨#[]⟩, .int .i64 0, .int .i64 0, .int .i64 0, .int .i64 0, .string ⟨#[]⟩, .int .i64 0, .int .i64 0, .int .i64 0, .int .i64 0, .string ⟨#[]⟩] 42)).heap.size (w.alloc (.cells #[.string ⟨#[]⟩, .int .i64 0, .int .i64 0, .int .i64 0, .int .i64 0, .string ⟨#[]⟩, .int .i64 0, .int .i64 0, .int .i64 0, .int .i64 0, .string ⟨#[]⟩] 42)) w3 := by rw [hw3]; exact below_set hM.2.2.2.2.1 hs3
  have n_ : w3.heap[w.heap.size]? = some (.cells #[.string ⟨#[]⟩, .int .i64 0, .int .i64 0, .int .i64 0, .int .i64 0, .string ⟨#[]⟩, .int .i64 0, .int .i64 0, .int .i64 0, .int .i64 0, .string ⟨#[]⟩] 42 (0, 0)) := blk_below (blk_new w _) hb3
  have m0 : w3.cell? ⟨w1.heap.size + 1 + 1, 0, none⟩ = some (.string (strOfNums X0)) := (blk_cell m_ 0).trans rfl
  have z20 : w3.cell? ⟨w.heap.size, 0, none⟩ = some (.string ⟨#[]⟩) := (blk_cell n_ 0).trans rfl
  have f0 : w3.frozen? ⟨w.heap.size, 0, none⟩ = false := blk_frozen n_ 0
  have m1 : w3.cell? ⟨w1.heap.size + 1 + 1, 1, none⟩ = some (.int .i64 a1) := (blk_cell m_ 1).trans rfl
  have z21 : w3.cell? ⟨w.heap.size, 1, none⟩ = some (.int .i64 0) := (blk_cell n_ 1).trans rfl
  have f1 : w3.frozen? ⟨w.heap.size, 1, none⟩ = false := blk_frozen n_ 1
  have m2 : w3.cell? ⟨w1.heap.size + 1 + 1, 2, none⟩ = some (.int .i64 b1) := (blk_cell m_ 2).trans rfl
  have z22 : w3.cell? ⟨w.heap.size, 2, none⟩ = some (.int .i64 0) := (blk_cell n_ 2).trans rfl
  have f2 : w3.frozen? ⟨w.heap.size, 2, none⟩ = false := blk_frozen n_ 2
  have m3 : w3.cell? ⟨w1.heap.size + 1 + 1, 3, none⟩ = some (.int .i64 c1) := (blk_cell m_ 3).trans rfl
  have z23 : w3.cell? ⟨w.heap.size, 3, none⟩ = some (.int .i64 0) := (blk_cell n_ 3).trans rfl
  have f3 : w3.frozen? ⟨w.heap.size, 3, none⟩ = false := blk_frozen n_ 3
  have m4 : w3.cell? ⟨w1.heap.size + 1 + 1, 4, none⟩ = some (.int .i64 d1) := (blk_cell m_ 4).trans rfl
  have z24 : w3.cell? ⟨w.heap.size, 4, none⟩ = some (.int .i64 0) := (blk_cell n_ 4).trans rfl
  have f4 : w3.frozen? ⟨w.heap.size, 4, none⟩ = false := blk_frozen n_ 4
  have m5 : w3.cell? ⟨w1.heap.size + 1 + 1, 5, none⟩ = some (.string (strOfNums X2)) := (blk_cell m_ 5).trans rfl
  have z25 : w3.cell? ⟨w.heap.size, 5, none⟩ = some (.string ⟨#[]⟩) := (blk_cell n_ 5).trans rfl
  have f5 : w3.frozen? ⟨w.heap.size, 5, none⟩ = false := blk_frozen n_ 5
  have m6 : w3.cell? ⟨w1.heap.size + 1 + 1, 6, none⟩ = some (.int .i64 a3) := (blk_cell m_ 6).trans rfl
  have z26 : w3.cell? ⟨w.heap.size, 6, none⟩ = some (.int .i64 0) := (blk_cell n_ 6).trans rfl
  have f6 : w3.frozen? ⟨w.heap.size, 6, none⟩ = false := blk_frozen n_ 6
  have m7 : w3.cell? ⟨w1.heap.size + 1 + 1, 7, none⟩ = some (.int .i64 b3) := (blk_cell m_ 7).trans rfl
  have z27 : w3.cell? ⟨w.heap.size, 7, none⟩ = some (.int .i64 0) := (blk_cell n_ 7).trans rfl
  have f7 : w3.frozen? ⟨w.heap.size, 7, none⟩ = false := blk_frozen n_ 7
  have m8 : w3.cell? ⟨w1.heap.size + 1 + 1, 8, none⟩ = some (.int .i64 c3) := (blk_cell m_ 8).trans rfl
  have z28 : w3.cell? ⟨w.heap.size, 8, none⟩ = some (.int .i64 0) := (blk_cell n_ 8).trans rfl
  have f8 : w3.frozen? ⟨w.heap.size, 8, none⟩ = false := blk_frozen n_ 8
  have m9 : w3.cell? ⟨w1.heap.size + 1 + 1, 9, none⟩ = some (.int .i64 d3) := (blk_cell m_ 9).trans rfl
  have z29 : w3.cell? ⟨w.heap.size, 9, none⟩ = some (.int .i64 0) := (blk_cell n_ 9).trans rfl
  have f9 : w3.frozen? ⟨w.heap.size, 9, none⟩ = false := blk_frozen n_ 9
  have m10 : w3.cell? ⟨w1.heap.size + 1 + 1, 10, none⟩ = some (.string (strOfNums X4)) := (blk_cell m_ 10).trans rfl
  have z30 : w3.cell? ⟨w.heap.size, 10, none⟩ = some (.string ⟨#[]⟩) := (blk_cell n_ 10).trans rfl
  have f10 : w3.frozen? ⟨w.heap.size, 10, none⟩ = false := blk_frozen n_ 10
  have HN := Aside0.mk n_
  have HB3 := Aside0.mk hb3
  clear hM hw3 m_ n_ hb3 hs3 q1 q2 q3 q4 hMs s2
  go_wp2_with fail
  refine bodyPost_ret (results_ct rfl _ _ w.heap.size 42 #[.string (strOfNums X0), .int .i64 a1, .int .i64 b1, .int .i64 c1, .int .i64 d1, .string (strOfNums X2), .int .i64 a3, .int .i64 b3, .int .i64 c3, .int .i64 d3, .string (strOfNums X4)] (0, 0) _ rfl (by refine blk_put (cs := #[.string (strOfNums X0), .int .i64 a1, .int .i64 b1, .int .i64 c1, .int .i64 d1, .string (strOfNums X2), .int .i64 a3, .int .i64 b3, .int .i64 c3, .int .i64 d3, .string ⟨#[]⟩]) ?_ 10 _ rfl; refine blk_put (cs := #[.string (strOfNums X0), .int .i64 a1, .int .i64 b1, .int .i64 c1, .int .i64 d1, .string (strOfNums X2), .int .i64 a3, .int .i64 b3, .int .i64 c3, .int .i64 0, .string ⟨#[]⟩]) ?_ 9 _ rfl; refine blk_put (cs := #[.string (strOfNums X0), .int .i64 a1, .int .i64 b1, .int .i64 c1, .int .i64 d1, .string (strOfNums X2), .int .i64 a3, .int .i64 b3, .int .i64 0, .int .i64 0, .string ⟨#[]⟩]) ?_ 8 _ rfl; refine blk_put (cs := #[.string (strOfNums X0), .int .i64 a1, .int .i64 b1, .int .i64 c1, .int .i64 d1, .string (strOfNums X2), .int .i64 a3, .int .i64 0, .int .i64 0, .int .i64 0, .string ⟨#[]⟩]) ?_ 7 _ rfl; refine blk_put (cs := #[.string (strOfNums X0), .int .i64 a1, .int .i64 b1, .int .i64 c1, .int .i64 d1, .string (strOfNums X2), .int .i64 0, .int .i64 0, .int .i64 0, .int .i64 0, .string ⟨#[]⟩]) ?_ 6 _ rfl; refine blk_put (cs := #[.string (strOfNums X0), .int .i64 a1, .int .i64 b1, .int .i64 c1, .int .i64 d1, .string ⟨#[]⟩, .int .i64 0, .int .i64 0, .int .i64 0, .int .i64 0, .string ⟨#[]⟩]) ?_ 5 _ rfl; refine blk_put (cs := #[.string (strOfNums X0), .int .i64 a1, .int .i64 b1, .int .i64 c1, .int .i64 0, .string ⟨#[]⟩, .int .i64 0, .int .i64 0, .int .i64 0, .int .i64 0, .string ⟨#[]⟩]) ?_ 4 _ rfl; refine blk_put (cs := #[.string (strOfNums X0), .int .i64 a1, .int .i64 b1, .int .i64 0, .int .i64 0, .string ⟨#[]⟩, .int .i64 0, .int .i64 0, .int .i64 0, .int .i64 0, .string ⟨#[]⟩]) ?_ 3 _ rfl; refine blk_put (cs := #[.string (strOfNums X0), .int .i64 a1, .int .i64 0, .int .i64 0, .int .i64 0, .string ⟨#[]⟩, .int .i64 0, .int .i64 0, .int .i64 0, .int .i64 0, .string ⟨#[]⟩]) ?_ 2 _ rfl; refine blk_put (cs := #[.string (strOfNums X0), .int .i64 0, .int .i64 0, .int .i64 0, .int .i64 0, .string ⟨#[]⟩, .int .i64 0, .int .i64 0, .int .i64 0, .int .i64 0, .string ⟨#[]⟩]) ?_ 1 _ rfl; exact blk_put HN.out 0 _ rfl) Try.underlying42 rfl (by kernel_rfl)) rfl ?_
  refine ⟨rfl, ?_⟩
  have hb := below_step (below_alloc (Below.refl w.heap.size w) (.cells #[.string ⟨#[]⟩, .int .i64 0, .int .i64 0, .int .i64 0, .int .i64 0, .string ⟨#[]⟩, .int .i64 0, .int .i64 0, .int .i64 0, .int .i64 0, .string ⟨#[]⟩] 42)) HB3.out
  exact below_set (below_set (below_set (below_set (below_set (below_set (below_set (below_set (below_set (below_set (below_set (hb) (Nat.le_refl _)) (Nat.le_refl _)) (Nat.le_refl _)) (Nat.le_refl _)) (Nat.le_refl _)) (Nat.le_refl _)) (Nat.le_refl _)) (Nat.le_refl _)) (Nat.le_refl _)) (Nat.le_refl _)) (Nat.le_refl _)

end Go.Proofs.Ytophnhmlknbmeaa.X
