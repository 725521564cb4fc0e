/- NodeSizes, over numbers and lists: a node has as many bytes as its parts tell. For every input. -/
import Derived.Test.YtophnhmlknbmeaaF5
import Derived.Test.YtophnhmlknbmeaaHO
import Derived.Test.YtophnhmlknbmeaaPNodeCut
namespace Go.Proofs.Ytophnhmlknbmeaa.Pure
open Go.RowKit Go.Proofs.Ytophnhmlknbmeaa.X Go.Proofs.YtophnhmlknbmeaaW.PrintWords Go.Proofs.YtophnhmlknbmeaaW.PrintLast Go.Proofs.Ytophnhmlknbmeaa.Lib

theorem parse_cut {L : List Int} (n : Int) (hl : L.length ≤ 1000000) (hb : Byt L) (h : cNode L = n) (hn : n ≠ 0) : ∃ b a0 a1 a2 a3 a4 a5 a6 a7 a8 a9 a10 a11 a12 a13 a14, node_Parse.f L = some (b, a0, a1, a2, a3, a4, a5, a6, a7, a8, a9, a10, a11, a12, a13, a14, n) := by
  unfold node_Parse.f
  rw [if_pos ⟨hl, hb, by rw [h]; exact hn⟩, h]
  exact ⟨_, _, _, _, _, _, _, _, _, _, _, _, _, _, _, _, rfl⟩
theorem sizes_l1 {E : List Int} (hg : Good cNode E) (hb : Byt E) (hl : E.length ≤ 20000) : ∀ (n j : Nat), j + n = E.length → ∀ k, n < k → donjonlaw10_NodeSizes.l1 k E (j : Int) = some true := by
  intro n
  induction n with
  | zero =>
    intro j hj k hk
    obtain ⟨k, rfl⟩ : ∃ q, k = q + 1 := ⟨k - 1, by omega⟩
    obtain ⟨b, a0, a1, a2, a3, a4, a5, a6, a7, a8, a9, a10, a11, a12, a13, a14, e⟩ := parse_cut (L := E ++ [0]) 9 (by simp; omega) (byt_app hb (byt_cons ⟨by omega, by omega⟩ byt_nil)) hg.1 (by omega)
    rw [donjonlaw10_NodeSizes.l1, if_neg (by omega), Option.bind_some, if_pos (by simp; omega), Option.bind_some, if_pos (by simp; omega), List.nil_append, e]
    rfl
  | succ n ih =>
    intro j hj k hk
    obtain ⟨k, rfl⟩ : ∃ q, k = q + 1 := ⟨k - 1, by omega⟩
    obtain ⟨b, a0, a1, a2, a3, a4, a5, a6, a7, a8, a9, a10, a11, a12, a13, a14, e⟩ := parse_cut (L := E.take j) 8 (by rw [List.length_take]; omega) (fun x hx => hb x (List.mem_of_mem_take hx)) (hg.2 j (by omega)) (by omega)
    rw [donjonlaw10_NodeSizes.l1, if_pos (by omega), if_pos (by omega), if_pos (by omega), Int.toNat_natCast, e, Option.bind_some, if_pos rfl, wNextN (by omega)]
    exact ih (j + 1) (by omega) k (by omega)
theorem sizes_l0 (p : ByteArray) (b : Bool) (s c i d : Int) (l : List Gr) (q1 q2 q3 q4 : Int) (ws : List Int) (s' c' i' d' : Int) (hp : p.size ≤ 255) (hl : l.length < 40) (h3 : ∀ g ∈ l, g.f0.size ≤ 255) (hw : ws.length < 100) :
    ∀ (n j : Nat), j + n = l.length → (encAcl (l.take j)).length ≤ 257 * j → ∀ k, n + 20000 < k → donjonlaw10_NodeSizes.l0 k (((16 + p.size + 8 * ws.length + (encAcl (l.take j)).length : Nat) : Int)) (j : Int) p b s c i d l q1 q2 q3 q4 ws s' c' i' d' = some true := by
  intro n
  induction n with
  | zero =>
    intro j hj hlen k hk
    obtain ⟨k, rfl⟩ : ∃ q, k = q + 1 := ⟨k - 1, by omega⟩
    have hE := node_len p b s c i d l q1 q2 q3 q4 ws s' c' i' d'
    have ht : l.take j = l := List.take_of_length_le (by omega)
    rw [ht] at hlen ⊢
    rw [donjonlaw10_NodeSizes.l0, if_neg (by omega), encode_f p b s c i d l q1 q2 q3 q4 ws s' c' i' d' hp (by omega) h3 (by omega), Option.bind_some, if_pos (by rw [hE])]
    exact sizes_l1 (good_node p b s c i d l q1 q2 q3 q4 ws s' c' i' d' hp (by omega) h3 (by omega)) (byt_node p b s c i d l q1 q2 q3 q4 ws s' c' i' d') (by omega) _ 0 (Nat.zero_add _) k (by omega)
  | succ n ih =>
    intro j hj hlen k hk
    obtain ⟨k, rfl⟩ : ∃ q, k = q + 1 := ⟨k - 1, by omega⟩
    have hj' : j < l.length := by omega
    have er : rd_T35 l (j : Int) = l[j] := by
      unfold rd_T35
      rw [Int.toNat_natCast, List.getD_eq_getElem?_getD, List.getElem?_eq_getElem hj', Option.getD_some]
    have hs := h3 l[j] (List.getElem_mem hj')
    have hA := encAcl_snoc l hj'
    have hA' : (encAcl (l.take (j + 1))).length = (encAcl (l.take j)).length + (l[j].f0.size + 2) := by
      rw [hA, List.length_append, List.length_append, encStr_length]
      rfl
    rw [donjonlaw10_NodeSizes.l0, if_pos (by omega), if_pos (by omega), wNextN (by omega), er]
    have e2 : wrap64 (wrap64 (((16 + p.size + 8 * ws.length + (encAcl (l.take j)).length : Nat) : Int) + 2) + (l[j].f0.size : Int)) = ((16 + p.size + 8 * ws.length + (encAcl (l.take (j + 1))).length : Nat) : Int) := by
      rw [wrap64_id (n := ((16 + p.size + 8 * ws.length + (encAcl (l.take j)).length : Nat) : Int) + 2) (by omega) (by omega), wrap64_id (by omega) (by omega), hA']
      omega
    rw [e2]
    exact ih (j + 1) (by omega) (by omega) k (by omega)
theorem NodeSizes : ∀ (a0_0 : ByteArray) (a0_1 : Bool) (a0_2 : Int) (a0_3 : Int) (a0_4 : Int) (a0_5 : Int) (l0_6 : List (S35)) (a0_7 : Int) (a0_8 : Int) (a0_9 : Int) (a0_10 : Int) (l0_11 : List Int) (a0_12 : Int) (a0_13 : Int) (a0_14 : Int) (a0_15 : Int), a0_0.size ≤ 140737488351232 → (Lit.int .i64 a0_2).wf = true → (Lit.int .i64 a0_3).wf = true → (Lit.int .i64 a0_4).wf = true → (Lit.int .i64 a0_5).wf = true → (l0_6.length ≤ maxLen ∧ l0_6.length * 24 ≤ 140737488351232 ∧ ∀ y_ ∈ l0_6, g_T35 y_) → (Lit.int .i64 a0_7).wf = true → (Lit.int .i64 a0_8).wf = true → (Lit.int .i64 a0_9).wf = true → (Lit.int .i64 a0_10).wf = true → (l0_11.length ≤ maxLen ∧ l0_11.length * 8 ≤ 140737488351232 ∧ ∀ y_ ∈ l0_11, (Lit.int .i64 y_).wf = true) → (Lit.int .i64 a0_12).wf = true → (Lit.int .i64 a0_13).wf = true → (Lit.int .i64 a0_14).wf = true → (Lit.int .i64 a0_15).wf = true → ∃ k, donjonlaw10_NodeSizes.f k a0_0 a0_1 a0_2 a0_3 a0_4 a0_5 l0_6 a0_7 a0_8 a0_9 a0_10 l0_11 a0_12 a0_13 a0_14 a0_15 = some true := by
  intro p0 b a0_2 a0_3 a0_4 a0_5 l0 a0_7 a0_8 a0_9 a0_10 ws a0_12 a0_13 a0_14 a0_15 _ _ _ _ _ _ _ _ _ _ _ _ _ _ _
  refine ⟨30000, ?_⟩
  unfold donjonlaw10_NodeSizes.f
  rw [show donjonlaw10_known.f = some true by decide +kernel, Option.bind_some, if_pos rfl]
  by_cases hfew : (p0.size : Int) < 1000 ∧ (l0.length : Int) < 40 ∧ (ws.length : Int) < 100
  · have hf : donjonlaw10_few.f p0 b a0_2 a0_3 a0_4 a0_5 l0 a0_7 a0_8 a0_9 a0_10 ws a0_12 a0_13 a0_14 a0_15 = some true := by
      unfold donjonlaw10_few.f
      rw [if_pos hfew.1, if_pos hfew.2.1, decide_eq_true hfew.2.2]
    obtain ⟨p2, acl, r1, r2, r3, g, ep, hp, hal, hak, _⟩ := plain_f 30000 (by omega) p0 b a0_2 a0_3 a0_4 a0_5 l0 (by omega) a0_7 a0_8 a0_9 a0_10 ws a0_12 a0_13 a0_14 a0_15
    rw [hf, Option.bind_some, if_pos rfl, ep, Option.bind_some]
    dsimp only
    have hw := hfew.2.2
    have e : wrap64 ((wrap64 ((wrap64 ((wrap64 ((wrap64 ((wrap64 ((wrap64 (1 + (p2.size : Int))) + 1)) + 8)) + 1)) + 4)) + 1)) + (wrap64 (8 * (ws.length : Int)))) = ((16 + p2.size + 8 * ws.length + (encAcl (acl.take 0)).length : Nat) : Int) := by
      rw [wrap64_id (n := 1 + (p2.size : Int)) (by omega) (by omega), wrap64_id (n := 1 + (p2.size : Int) + 1) (by omega) (by omega), wrap64_id (n := 1 + (p2.size : Int) + 1 + 8) (by omega) (by omega), wrap64_id (n := 1 + (p2.size : Int) + 1 + 8 + 1) (by omega) (by omega), wrap64_id (n := 1 + (p2.size : Int) + 1 + 8 + 1 + 4) (by omega) (by omega), wrap64_id (n := 1 + (p2.size : Int) + 1 + 8 + 1 + 4 + 1) (by omega) (by omega), wrap64_id (n := 8 * (ws.length : Int)) (by omega) (by omega), wrap64_id (by omega) (by omega)]
      show _ = ((16 + p2.size + 8 * ws.length + 0 : Nat) : Int)
      omega
    rw [e]
    exact sizes_l0 p2 b _ _ _ _ acl r1 r2 r3 g ws _ _ _ _ hp (by omega) (fun q hq => (hak q hq).1) (by omega) acl.length 0 (by omega) (by show (0 : Nat) ≤ _; omega) 30000 (by omega)
  · have hf : donjonlaw10_few.f p0 b a0_2 a0_3 a0_4 a0_5 l0 a0_7 a0_8 a0_9 a0_10 ws a0_12 a0_13 a0_14 a0_15 = some false := by
      unfold donjonlaw10_few.f
      by_cases f1 : (p0.size : Int) < 1000
      · rw [if_pos f1]
        by_cases f2 : (l0.length : Int) < 40
        · rw [if_pos f2, decide_eq_false (fun f3 => hfew ⟨f1, f2, f3⟩)]
        · rw [if_neg f2]
      · rw [if_neg f1]
    rw [hf, Option.bind_some, if_neg (by simp)]
end Go.Proofs.Ytophnhmlknbmeaa.Pure
