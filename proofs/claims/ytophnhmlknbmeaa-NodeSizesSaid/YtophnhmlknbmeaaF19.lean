/- Written by a program of this session over the kit's print: YtophnhmlknbmeaaF19. -/
import Derived.Test.YtophnhmlknbmeaaH
import Derived.Test.YtophnhmlknbmeaaNEmpty
namespace Go.Proofs.Ytophnhmlknbmeaa.X
open Go.RowKit Go.Proofs.YtophnhmlknbmeaaW.PrintWords Go.Proofs.YtophnhmlknbmeaaW.PrintLast Go.Proofs.YtophnhmlknbmeaaW.PrintMore Go.Proofs.Ytophnhmlknbmeaa.More
attribute [local go_sem] max2_int min2_int max_two min_two max_three min_three max_four min_four binOp_string_leq binOp_string_gtr   -- for this text's walks alone
set_option linter.unusedVariables false
set_option linter.unusedSimpArgs false

/-! ### node_Parse: function 19 -/
instance nodeBytes_ (l : List Int) : Decidable (Byt l) := by unfold Byt; infer_instance
def node_Parse.f (l0 : List Int) : Option (ByteArray × Bool × Int × Int × Int × Int × (List S35) × Int × Int × Int × Int × List Int × Int × Int × Int × Int × Int) := if l0.length ≤ 1000000 ∧ Byt l0 ∧ cNode l0 ≠ 0 then some (⟨#[]⟩, false, 0, 0, 0, 0, [], 0, 0, 0, 0, [], 0, 0, 0, 0, cNode l0) else none
set_option maxHeartbeats 16000000 in
set_option maxRecDepth 100000 in
theorem node_Parse.calls (A0 : Option Addr) (c0 : Nat) (l0 : List Int) (r1 : ByteArray) (r2 : Bool) (r3 : Int) (r4 : Int) (r5 : Int) (r6 : Int) (r7 : (List S35)) (r8 : Int) (r9 : Int) (r10 : Int) (r11 : Int) (r12 : List Int) (r13 : Int) (r14 : Int) (r15 : Int) (r16 : Int) (r17 : Int) (w : World) (hr0 : Kd.C (Kd.int .u8) w A0 l0.length l0) (hc0 : l0.length ≤ c0) (h : node_Parse.f l0 = some (r1, r2, r3, r4, r5, r6, r7, r8, r9, r10, r11, r12, r13, r14, r15, r16, r17)) :
    Calls Try.prog 19 #[.slice A0 l0.length c0] w fun e w' => ∃ v6_ v11_ : Value, e = .returned (.tuple #[.agg #[.string r1, .bool r2, .int .i64 r3, .int .i64 r4, .int .i64 r5, .int .i64 r6, v6_, .int .i64 r8, .int .i64 r9, .int .i64 r10, .int .i64 r11, v11_, .int .i64 r13, .int .i64 r14, .int .i64 r15, .int .i64 r16], .int .i64 r17]) ∧ Kd.R k35 35 w' w.heap.size (fun k_ => (w.heap.size ≤ k_)) v6_ r7 ∧ Kd.R (Kd.int .i64) 2 w' w.heap.size (fun k_ => (w.heap.size ≤ k_) ∧ some k_ ≠ (v6_ : Value).ownBlock) v11_ r12 ∧ Below w.heap.size w w' := by
  unfold node_Parse.f at h
  by_cases hz : l0.length ≤ 1000000 ∧ Byt l0 ∧ cNode l0 ≠ 0
  case neg =>
    rw [if_neg hz] at h
    exact absurd h (by simp)
  rw [if_pos hz] at h
  obtain ⟨hl, hby, hc⟩ := hz
  have h := Option.some.inj h
  simp only [Prod.mk.injEq] at h
  obtain ⟨rfl, rfl, rfl, rfl, rfl, rfl, rfl, rfl, rfl, rfl, rfl, rfl, rfl, rfl, rfl, rfl, hc17⟩ := h
  have hu1 := Try.underlying29
  have hu2 := Try.underlying60
  have hu3 := Try.underlying58
  have hmf : ∀ (fn : Fn) (first cap : Array Value) (w : World), (Instr.makeFunc fn first cap).run Try.prog w = .ok (.func fn first cap) w := fun _ _ _ _ => rfl
  have HR := Aside0.mk hr0
  have HCC := Aside0.mk hc0
  have HL := Aside0.mk hl
  have HBY := Aside0.mk hby
  have c1 : (r17 != 0) = true := by rw [← hc17]; exact bne_iff_ne.2 hc
  have c2 : (r17 == 0) = false := by rw [← hc17]; exact beq_eq_false_iff_ne.2 hc
  have HC0 : Aside0 (r17 ≠ 0) := ⟨by rw [← hc17]; exact hc⟩
  have HC17 := Aside0.mk hc17
  clear hr0 hc0 hl hby hc hc17
  go_enter Try.func19, Try.ntmps19
  go_wp2_with fail
  refine (clone_any A0 c0 l0 _ (Kd.C_below HR.out (below_alloc (Below.refl _ _) _)) HCC.out HL.out).mono ?_
  rintro e w1 ⟨A, cap, rfl, hcl, hb1⟩
  have HCL := Aside0.mk hcl
  have HB1 := Aside0.mk hb1
  have HZ1 : Aside0 (w.heap.size + 1 ≤ w1.heap.size) := ⟨by have := hb1.size; simpa using this⟩
  clear hcl hb1
  go_wp2_with fail
  obtain ⟨W2, hW2⟩ : ∃ W2, (((w1.alloc (.cells #[.slice A l0.length cap] 60)).alloc (.cells #[.pointer (some ⟨w1.heap.size, 0, none⟩)] 58)).alloc (.cells #[.string ⟨#[]⟩, .bool false, .int .i64 0, .int .i64 0, .int .i64 0, .int .i64 0, .slice none 0 0, .int .i64 0, .int .i64 0, .int .i64 0, .int .i64 0, .slice none 0 0, .int .i64 0, .int .i64 0, .int .i64 0, .int .i64 0] 29)) = W2 := ⟨_, rfl⟩
  rw [hW2]
  have q1 : W2.heap[w1.heap.size]? = some (.cells #[.slice A l0.length cap] 60 (0, 0)) := by rw [← hW2]; exact blk_alloc (blk_alloc (blk_new w1 _) _) _
  have q2 : W2.heap[w1.heap.size + 1]? = some (.cells #[.pointer (some ⟨w1.heap.size, 0, none⟩)] 58 (0, 0)) := by
    rw [← hW2]
    have q := blk_alloc (blk_new (w1.alloc (.cells #[.slice A l0.length cap] 60)) (.cells #[.pointer (some ⟨w1.heap.size, 0, none⟩)] 58)) (.cells #[.string ⟨#[]⟩, .bool false, .int .i64 0, .int .i64 0, .int .i64 0, .int .i64 0, .slice none 0 0, .int .i64 0, .int .i64 0, .int .i64 0, .int .i64 0, .slice none 0 0, .int .i64 0, .int .i64 0, .int .i64 0, .int .i64 0] 29)
    simpa using q
  have q3 : W2.heap[w1.heap.size + 1 + 1]? = some (.cells #[.string ⟨#[]⟩, .bool false, .int .i64 0, .int .i64 0, .int .i64 0, .int .i64 0, .slice none 0 0, .int .i64 0, .int .i64 0, .int .i64 0, .int .i64 0, .slice none 0 0, .int .i64 0, .int .i64 0, .int .i64 0, .int .i64 0] 29 (0, 0)) := by
    rw [← hW2]
    have q := blk_new ((w1.alloc (.cells #[.slice A l0.length cap] 60)).alloc (.cells #[.pointer (some ⟨w1.heap.size, 0, none⟩)] 58)) (.cells #[.string ⟨#[]⟩, .bool false, .int .i64 0, .int .i64 0, .int .i64 0, .int .i64 0, .slice none 0 0, .int .i64 0, .int .i64 0, .int .i64 0, .int .i64 0, .slice none 0 0, .int .i64 0, .int .i64 0, .int .i64 0, .int .i64 0] 29)
    simpa using q
  have q4 : Below w1.heap.size w1 W2 := by rw [← hW2]; exact below_alloc (below_alloc (below_alloc (Below.refl _ _) _) _) _
  have s2 : W2.heap.size = w1.heap.size + 3 := by rw [← hW2]; simp
  clear hW2
  refine (guard_cut 40 #[.pointer (some ⟨(w1.heap.size + 1), 0, none⟩), .pointer (some ⟨(w1.heap.size + 1 + 1), 0, none⟩)] r17 W2 (fun w' => Below (w.alloc (.cells #[.string ⟨#[]⟩, .bool false, .int .i64 0, .int .i64 0, .int .i64 0, .int .i64 0, .slice none 0 0, .int .i64 0, .int .i64 0, .int .i64 0, .int .i64 0, .slice none 0 0, .int .i64 0, .int .i64 0, .int .i64 0, .int .i64 0] 29)).heap.size (w.alloc (.cells #[.string ⟨#[]⟩, .bool false, .int .i64 0, .int .i64 0, .int .i64 0, .int .i64 0, .slice none 0 0, .int .i64 0, .int .i64 0, .int .i64 0, .int .i64 0, .slice none 0 0, .int .i64 0, .int .i64 0, .int .i64 0, .int .i64 0] 29)) w') node_enters ((node_closure_any (w.alloc (.cells #[.string ⟨#[]⟩, .bool false, .int .i64 0, .int .i64 0, .int .i64 0, .int .i64 0, .slice none 0 0, .int .i64 0, .int .i64 0, .int .i64 0, .int .i64 0, .slice none 0 0, .int .i64 0, .int .i64 0, .int .i64 0, .int .i64 0] 29)) w1 (W2.alloc (.cells #[.int .i64 0] 43)) (w1.heap.size + 1) (w1.heap.size + 1 + 1) w1.heap.size W2.heap.size A cap l0 r17 HC17.out HC0.out HBY.out HCL.out (blk_alloc q1 _) (blk_alloc q2 _) (blk_alloc q3 _) (blk_new W2 _) HB1.out (below_alloc q4 _) (Nat.le_refl _) (by omega) (by omega) (by omega)).mono (fun e w' he => ⟨he.1, he.2.1, he.2.2⟩))).mono ?_
  rintro e w3 ⟨rfl, w4, hb4, _, hw3⟩
  have hs3 : (w.alloc (.cells #[.string ⟨#[]⟩, .bool false, .int .i64 0, .int .i64 0, .int .i64 0, .int .i64 0, .slice none 0 0, .int .i64 0, .int .i64 0, .int .i64 0, .int .i64 0, .slice none 0 0, .int .i64 0, .int .i64 0, .int .i64 0, .int .i64 0] 29)).heap.size ≤ W2.heap.size := Nat.le_trans (below_step HB1.out q4).size (Nat.le_refl _)
  have hb3 : Below (w.alloc (.cells #[.string ⟨#[]⟩, .bool false, .int .i64 0, .int .i64 0, .int .i64 0, .int .i64 0, .slice none 0 0, .int .i64 0, .int .i64 0, .int .i64 0, .int .i64 0, .slice none 0 0, .int .i64 0, .int .i64 0, .int .i64 0, .int .i64 0] 29)).heap.size (w.alloc (.cells #[.string ⟨#[]⟩, .bool false, .int .i64 0, .int .i64 0, .int .i64 0, .int .i64 0, .slice none 0 0, .int .i64 0, .int .i64 0, .int .i64 0, .int .i64 0, .slice none 0 0, .int .i64 0, .int .i64 0, .int .i64 0, .int .i64 0] 29)) w3 := by rw [hw3]; exact below_set hb4 hs3
  have n_ : w3.heap[w.heap.size]? = some (.cells #[.string ⟨#[]⟩, .bool false, .int .i64 0, .int .i64 0, .int .i64 0, .int .i64 0, .slice none 0 0, .int .i64 0, .int .i64 0, .int .i64 0, .int .i64 0, .slice none 0 0, .int .i64 0, .int .i64 0, .int .i64 0, .int .i64 0] 29 (0, 0)) := blk_below (blk_new w _) hb3
  have z0 : w3.cell? ⟨w.heap.size, 0, none⟩ = some (.string ⟨#[]⟩) := (blk_cell n_ 0).trans rfl
  have f0 : w3.frozen? ⟨w.heap.size, 0, none⟩ = false := blk_frozen n_ 0
  have z1 : w3.cell? ⟨w.heap.size, 1, none⟩ = some (.bool false) := (blk_cell n_ 1).trans rfl
  have f1 : w3.frozen? ⟨w.heap.size, 1, none⟩ = false := blk_frozen n_ 1
  have z2 : w3.cell? ⟨w.heap.size, 2, none⟩ = some (.int .i64 0) := (blk_cell n_ 2).trans rfl
  have f2 : w3.frozen? ⟨w.heap.size, 2, none⟩ = false := blk_frozen n_ 2
  have z3 : w3.cell? ⟨w.heap.size, 3, none⟩ = some (.int .i64 0) := (blk_cell n_ 3).trans rfl
  have f3 : w3.frozen? ⟨w.heap.size, 3, none⟩ = false := blk_frozen n_ 3
  have z4 : w3.cell? ⟨w.heap.size, 4, none⟩ = some (.int .i64 0) := (blk_cell n_ 4).trans rfl
  have f4 : w3.frozen? ⟨w.heap.size, 4, none⟩ = false := blk_frozen n_ 4
  have z5 : w3.cell? ⟨w.heap.size, 5, none⟩ = some (.int .i64 0) := (blk_cell n_ 5).trans rfl
  have f5 : w3.frozen? ⟨w.heap.size, 5, none⟩ = false := blk_frozen n_ 5
  have z6 : w3.cell? ⟨w.heap.size, 6, none⟩ = some (.slice none 0 0) := (blk_cell n_ 6).trans rfl
  have f6 : w3.frozen? ⟨w.heap.size, 6, none⟩ = false := blk_frozen n_ 6
  have z7 : w3.cell? ⟨w.heap.size, 7, none⟩ = some (.int .i64 0) := (blk_cell n_ 7).trans rfl
  have f7 : w3.frozen? ⟨w.heap.size, 7, none⟩ = false := blk_frozen n_ 7
  have z8 : w3.cell? ⟨w.heap.size, 8, none⟩ = some (.int .i64 0) := (blk_cell n_ 8).trans rfl
  have f8 : w3.frozen? ⟨w.heap.size, 8, none⟩ = false := blk_frozen n_ 8
  have z9 : w3.cell? ⟨w.heap.size, 9, none⟩ = some (.int .i64 0) := (blk_cell n_ 9).trans rfl
  have f9 : w3.frozen? ⟨w.heap.size, 9, none⟩ = false := blk_frozen n_ 9
  have z10 : w3.cell? ⟨w.heap.size, 10, none⟩ = some (.int .i64 0) := (blk_cell n_ 10).trans rfl
  have f10 : w3.frozen? ⟨w.heap.size, 10, none⟩ = false := blk_frozen n_ 10
  have z11 : w3.cell? ⟨w.heap.size, 11, none⟩ = some (.slice none 0 0) := (blk_cell n_ 11).trans rfl
  have f11 : w3.frozen? ⟨w.heap.size, 11, none⟩ = false := blk_frozen n_ 11
  have z12 : w3.cell? ⟨w.heap.size, 12, none⟩ = some (.int .i64 0) := (blk_cell n_ 12).trans rfl
  have f12 : w3.frozen? ⟨w.heap.size, 12, none⟩ = false := blk_frozen n_ 12
  have z13 : w3.cell? ⟨w.heap.size, 13, none⟩ = some (.int .i64 0) := (blk_cell n_ 13).trans rfl
  have f13 : w3.frozen? ⟨w.heap.size, 13, none⟩ = false := blk_frozen n_ 13
  have z14 : w3.cell? ⟨w.heap.size, 14, none⟩ = some (.int .i64 0) := (blk_cell n_ 14).trans rfl
  have f14 : w3.frozen? ⟨w.heap.size, 14, none⟩ = false := blk_frozen n_ 14
  have z15 : w3.cell? ⟨w.heap.size, 15, none⟩ = some (.int .i64 0) := (blk_cell n_ 15).trans rfl
  have f15 : w3.frozen? ⟨w.heap.size, 15, none⟩ = false := blk_frozen n_ 15
  have HN := Aside0.mk n_
  have HB3 := Aside0.mk hb3
  clear hw3 n_ hb3 hb4 hs3 q1 q2 q3 q4 s2
  go_wp2_with fail
  refine bodyPost_ret (results_ct rfl _ _ w.heap.size 29 #[.string ⟨#[]⟩, .bool false, .int .i64 0, .int .i64 0, .int .i64 0, .int .i64 0, .slice none 0 0, .int .i64 0, .int .i64 0, .int .i64 0, .int .i64 0, .slice none 0 0, .int .i64 0, .int .i64 0, .int .i64 0, .int .i64 0] (0, 0) _ rfl (by refine blk_put (cs := #[.string ⟨#[]⟩, .bool false, .int .i64 0, .int .i64 0, .int .i64 0, .int .i64 0, .slice none 0 0, .int .i64 0, .int .i64 0, .int .i64 0, .int .i64 0, .slice none 0 0, .int .i64 0, .int .i64 0, .int .i64 0, .int .i64 0]) ?_ 15 _ rfl; refine blk_put (cs := #[.string ⟨#[]⟩, .bool false, .int .i64 0, .int .i64 0, .int .i64 0, .int .i64 0, .slice none 0 0, .int .i64 0, .int .i64 0, .int .i64 0, .int .i64 0, .slice none 0 0, .int .i64 0, .int .i64 0, .int .i64 0, .int .i64 0]) ?_ 14 _ rfl; refine blk_put (cs := #[.string ⟨#[]⟩, .bool false, .int .i64 0, .int .i64 0, .int .i64 0, .int .i64 0, .slice none 0 0, .int .i64 0, .int .i64 0, .int .i64 0, .int .i64 0, .slice none 0 0, .int .i64 0, .int .i64 0, .int .i64 0, .int .i64 0]) ?_ 13 _ rfl; refine blk_put (cs := #[.string ⟨#[]⟩, .bool false, .int .i64 0, .int .i64 0, .int .i64 0, .int .i64 0, .slice none 0 0, .int .i64 0, .int .i64 0, .int .i64 0, .int .i64 0, .slice none 0 0, .int .i64 0, .int .i64 0, .int .i64 0, .int .i64 0]) ?_ 12 _ rfl; refine blk_put (cs := #[.string ⟨#[]⟩, .bool false, .int .i64 0, .int .i64 0, .int .i64 0, .int .i64 0, .slice none 0 0, .int .i64 0, .int .i64 0, .int .i64 0, .int .i64 0, .slice none 0 0, .int .i64 0, .int .i64 0, .int .i64 0, .int .i64 0]) ?_ 11 _ rfl; refine blk_put (cs := #[.string ⟨#[]⟩, .bool false, .int .i64 0, .int .i64 0, .int .i64 0, .int .i64 0, .slice none 0 0, .int .i64 0, .int .i64 0, .int .i64 0, .int .i64 0, .slice none 0 0, .int .i64 0, .int .i64 0, .int .i64 0, .int .i64 0]) ?_ 10 _ rfl; refine blk_put (cs := #[.string ⟨#[]⟩, .bool false, .int .i64 0, .int .i64 0, .int .i64 0, .int .i64 0, .slice none 0 0, .int .i64 0, .int .i64 0, .int .i64 0, .int .i64 0, .slice none 0 0, .int .i64 0, .int .i64 0, .int .i64 0, .int .i64 0]) ?_ 9 _ rfl; refine blk_put (cs := #[.string ⟨#[]⟩, .bool false, .int .i64 0, .int .i64 0, .int .i64 0, .int .i64 0, .slice none 0 0, .int .i64 0, .int .i64 0, .int .i64 0, .int .i64 0, .slice none 0 0, .int .i64 0, .int .i64 0, .int .i64 0, .int .i64 0]) ?_ 8 _ rfl; refine blk_put (cs := #[.string ⟨#[]⟩, .bool false, .int .i64 0, .int .i64 0, .int .i64 0, .int .i64 0, .slice none 0 0, .int .i64 0, .int .i64 0, .int .i64 0, .int .i64 0, .slice none 0 0, .int .i64 0, .int .i64 0, .int .i64 0, .int .i64 0]) ?_ 7 _ rfl; refine blk_put (cs := #[.string ⟨#[]⟩, .bool false, .int .i64 0, .int .i64 0, .int .i64 0, .int .i64 0, .slice none 0 0, .int .i64 0, .int .i64 0, .int .i64 0, .int .i64 0, .slice none 0 0, .int .i64 0, .int .i64 0, .int .i64 0, .int .i64 0]) ?_ 6 _ rfl; refine blk_put (cs := #[.string ⟨#[]⟩, .bool false, .int .i64 0, .int .i64 0, .int .i64 0, .int .i64 0, .slice none 0 0, .int .i64 0, .int .i64 0, .int .i64 0, .int .i64 0, .slice none 0 0, .int .i64 0, .int .i64 0, .int .i64 0, .int .i64 0]) ?_ 5 _ rfl; refine blk_put (cs := #[.string ⟨#[]⟩, .bool false, .int .i64 0, .int .i64 0, .int .i64 0, .int .i64 0, .slice none 0 0, .int .i64 0, .int .i64 0, .int .i64 0, .int .i64 0, .slice none 0 0, .int .i64 0, .int .i64 0, .int .i64 0, .int .i64 0]) ?_ 4 _ rfl; refine blk_put (cs := #[.string ⟨#[]⟩, .bool false, .int .i64 0, .int .i64 0, .int .i64 0, .int .i64 0, .slice none 0 0, .int .i64 0, .int .i64 0, .int .i64 0, .int .i64 0, .slice none 0 0, .int .i64 0, .int .i64 0, .int .i64 0, .int .i64 0]) ?_ 3 _ rfl; refine blk_put (cs := #[.string ⟨#[]⟩, .bool false, .int .i64 0, .int .i64 0, .int .i64 0, .int .i64 0, .slice none 0 0, .int .i64 0, .int .i64 0, .int .i64 0, .int .i64 0, .slice none 0 0, .int .i64 0, .int .i64 0, .int .i64 0, .int .i64 0]) ?_ 2 _ rfl; refine blk_put (cs := #[.string ⟨#[]⟩, .bool false, .int .i64 0, .int .i64 0, .int .i64 0, .int .i64 0, .slice none 0 0, .int .i64 0, .int .i64 0, .int .i64 0, .int .i64 0, .slice none 0 0, .int .i64 0, .int .i64 0, .int .i64 0, .int .i64 0]) ?_ 1 _ rfl; exact blk_put HN.out 0 _ rfl) Try.underlying29 rfl (by kernel_rfl)) rfl ?_
  refine ⟨_, _, rfl, R_nil0, R_nil0, ?_⟩
  have hb := below_step (below_alloc (Below.refl w.heap.size w) (.cells #[.string ⟨#[]⟩, .bool false, .int .i64 0, .int .i64 0, .int .i64 0, .int .i64 0, .slice none 0 0, .int .i64 0, .int .i64 0, .int .i64 0, .int .i64 0, .slice none 0 0, .int .i64 0, .int .i64 0, .int .i64 0, .int .i64 0] 29)) HB3.out
  exact below_set (below_set (below_set (below_set (below_set (below_set (below_set (below_set (below_set (below_set (below_set (below_set (below_set (below_set (below_set (below_set (hb) (Nat.le_refl _)) (Nat.le_refl _)) (Nat.le_refl _)) (Nat.le_refl _)) (Nat.le_refl _)) (Nat.le_refl _)) (Nat.le_refl _)) (Nat.le_refl _)) (Nat.le_refl _)) (Nat.le_refl _)) (Nat.le_refl _)) (Nat.le_refl _)) (Nat.le_refl _)) (Nat.le_refl _)) (Nat.le_refl _)) (Nat.le_refl _)

end Go.Proofs.Ytophnhmlknbmeaa.X
