/- NodeOwn, over numbers and lists: of two nodes that are unlike in one thing the bytes are unlike, and they are not the same. For every input. -/
import Derived.Test.YtophnhmlknbmeaaF3
import Derived.Test.YtophnhmlknbmeaaPNode
import Derived.Test.YtophnhmlknbmeaaHO
namespace Go.Proofs.Ytophnhmlknbmeaa.Pure
open Go.RowKit Go.Proofs.Ytophnhmlknbmeaa.X Go.Proofs.YtophnhmlknbmeaaW.PrintWords Go.Proofs.YtophnhmlknbmeaaW.PrintLast Go.Proofs.Ytophnhmlknbmeaa.Lib

theorem same_acl (l : List Gr) (hl : l.length ≤ 1000) : ∀ (n i : Nat), i + n = l.length → ∀ k, n < k → api_Grant.l0 k l l (l.length : Int) (i : Int) = some true := by
  intro n
  induction n with
  | zero =>
    intro i hi k hk
    obtain ⟨k, rfl⟩ : ∃ q, k = q + 1 := ⟨k - 1, by omega⟩
    rw [api_Grant.l0, if_neg (by omega)]
  | succ n ih =>
    intro i hi k hk
    obtain ⟨k, rfl⟩ : ∃ q, k = q + 1 := ⟨k - 1, by omega⟩
    rw [api_Grant.l0, if_pos (by omega), if_pos (by omega), if_pos (by omega), if_pos (by omega), if_neg (by simp), wNextN (by omega)]
    exact ih (i + 1) (by omega) k (by omega)
theorem same_acl_f (l : List Gr) (hl : l.length ≤ 40) (k : Nat) (hk : 50 < k) : api_Grant.f k l l = some true := by
  unfold api_Grant.f
  rw [if_pos rfl]
  exact same_acl l (by omega) l.length 0 (by omega) k (by omega)
theorem own_end (k : Nat) (p : ByteArray) (b : Bool) (s c i d : Int) (l : List Gr) (q1 q2 q3 q4 : Int) (ws : List Int) (s' c' i' d' : Int) (b2 : Bool) (s2 c2 i2 d2 : Int) (l2 : List Gr) (o1 o2 o3 o4 : Int) (ws2 : List Int) (s2' c2' i2' d2' : Int)
    (h1 : p.size ≤ 255) (h2 : l.length ≤ 100) (h3 : ∀ g ∈ l, g.f0.size ≤ 255) (h4 : ws.length ≤ 200) (h2' : l2.length ≤ 100) (h3' : ∀ g ∈ l2, g.f0.size ≤ 255) (h4' : ws2.length ≤ 200)
    (hs : node_Same.f k p b s c i d l q1 q2 q3 q4 ws s' c' i' d' p b2 s2 c2 i2 d2 l2 o1 o2 o3 o4 ws2 s2' c2' i2' d2' = some false)
    (he : ((strOfNums (encNode p b s c i d l q1 q2 q3 q4 ws s' c' i' d')).toList != (strOfNums (encNode p b2 s2 c2 i2 d2 l2 o1 o2 o3 o4 ws2 s2' c2' i2' d2')).toList) = true) :
    donjonlaw10_NodeOwn.j0 (k + 1) p b s c i d l q1 q2 q3 q4 ws s' c' i' d' p b2 s2 c2 i2 d2 l2 o1 o2 o3 o4 ws2 s2' c2' i2' d2' = some true := by
  rw [donjonlaw10_NodeOwn.j0, hs, Option.bind_some, if_neg (by simp), encode_f p b s c i d l q1 q2 q3 q4 ws s' c' i' d' h1 h2 h3 h4, Option.bind_some, encode_f p b2 s2 c2 i2 d2 l2 o1 o2 o3 o4 ws2 s2' c2' i2' d2' h1 h2' h3' h4', Option.bind_some, he]
theorem tmod_pos {a n : Int} (h : 0 ≤ a) : Int.tmod a n = a % n := Int.tmod_eq_emod_of_nonneg h
theorem NodeOwn : ∀ (a0_0 : ByteArray) (a0_1 : Bool) (a0_2 : Int) (a0_3 : Int) (a0_4 : Int) (a0_5 : Int) (l0_6 : List (S35)) (a0_7 : Int) (a0_8 : Int) (a0_9 : Int) (a0_10 : Int) (l0_11 : List Int) (a0_12 : Int) (a0_13 : Int) (a0_14 : Int) (a0_15 : Int) (a1 : Int) (a2 : Int), a0_0.size ≤ 140737488351232 → (Lit.int .i64 a0_2).wf = true → (Lit.int .i64 a0_3).wf = true → (Lit.int .i64 a0_4).wf = true → (Lit.int .i64 a0_5).wf = true → (l0_6.length ≤ maxLen ∧ l0_6.length * 24 ≤ 140737488351232 ∧ ∀ y_ ∈ l0_6, g_T35 y_) → (Lit.int .i64 a0_7).wf = true → (Lit.int .i64 a0_8).wf = true → (Lit.int .i64 a0_9).wf = true → (Lit.int .i64 a0_10).wf = true → (l0_11.length ≤ maxLen ∧ l0_11.length * 8 ≤ 140737488351232 ∧ ∀ y_ ∈ l0_11, (Lit.int .i64 y_).wf = true) → (Lit.int .i64 a0_12).wf = true → (Lit.int .i64 a0_13).wf = true → (Lit.int .i64 a0_14).wf = true → (Lit.int .i64 a0_15).wf = true → (Lit.int .i64 a1).wf = true → (Lit.int .i64 a2).wf = true → ∃ k, donjonlaw10_NodeOwn.f k a0_0 a0_1 a0_2 a0_3 a0_4 a0_5 l0_6 a0_7 a0_8 a0_9 a0_10 l0_11 a0_12 a0_13 a0_14 a0_15 a1 a2 = some true := by
  intro p0 b a0_2 a0_3 a0_4 a0_5 l0 a0_7 a0_8 a0_9 a0_10 ws a0_12 a0_13 a0_14 a0_15 a1 a2 _ _ _ _ _ _ _ _ _ _ _ _ _ _ _ _ _
  refine ⟨101, ?_⟩
  unfold donjonlaw10_NodeOwn.f
  rw [show donjonlaw10_known.f = some true by decide +kernel, Option.bind_some, if_pos rfl]
  by_cases hfew : (p0.size : Int) < 1000 ∧ (l0.length : Int) < 40 ∧ (ws.length : Int) < 100
  · obtain ⟨f1, f2, f3⟩ := hfew
    rw [show donjonlaw10_few.f p0 b a0_2 a0_3 a0_4 a0_5 l0 a0_7 a0_8 a0_9 a0_10 ws a0_12 a0_13 a0_14 a0_15 = some true by unfold donjonlaw10_few.f; rw [if_pos f1, if_pos f2, decide_eq_true f3], Option.bind_some, if_pos rfl]
    obtain ⟨p, acl, r1, r2, r3, g, ep, hp, hal, hacl, hr1, hr2, hr3, hr4, hg1, hg2⟩ := plain_f 101 (by omega) p0 b a0_2 a0_3 a0_4 a0_5 l0 (by omega) a0_7 a0_8 a0_9 a0_10 ws a0_12 a0_13 a0_14 a0_15
    obtain ⟨t, et, t0, t1, _⟩ := within_small (a := a2) (n := 3) (by omega) (by omega)
    obtain ⟨v, ev, v0, v1, _⟩ := within_small (a := a1) (n := 7) (by omega) (by omega)
    have hL := lab_good a0_2 a0_3 a0_4 a0_5
    have hL' := lab_good a0_12 a0_13 a0_14 a0_15
    rw [ep, Option.bind_some, show donjonlaw10_within.f a2 3 = some t from et, Option.bind_some, show donjonlaw10_within.f a1 7 = some v from ev, Option.bind_some]
    dsimp only
    generalize a0_2 % 4 = s at hL ⊢
    generalize a0_3 % 256 = c at hL ⊢
    generalize a0_4 % 4 = i at hL ⊢
    generalize a0_5 % 256 = d at hL ⊢
    generalize a0_12 % 4 = s' at hL' ⊢
    generalize a0_13 % 256 = c' at hL' ⊢
    generalize a0_14 % 4 = i' at hL' ⊢
    generalize a0_15 % 256 = d' at hL' ⊢
    obtain ⟨l1, l2, l3, l4, l5, l6, l7, l8⟩ := hL
    obtain ⟨m1, m2, m3, m4, m5, m6, m7, m8⟩ := hL'
    have hw1 : wrap64 (1 + t) = 1 + t := wrap64_id (by omega) (by omega)
    have h3 : ∀ g ∈ acl, g.f0.size ≤ 255 := fun g hg => (hacl g hg).1
    have hrefl : ∀ a b c d : Int, (a == a && (b == b && (c == c && (d == d)))) = true := fun a b c d => by simp
    rw [hw1]
    have hv : v = 0 ∨ v = 1 ∨ v = 2 ∨ v = 3 ∨ v = 4 ∨ v = 5 ∨ v = 6 := by omega
    rcases hv with rfl | rfl | rfl | rfl | rfl | rfl | rfl
    · rw [if_pos rfl]
      refine own_end 100 _ _ _ _ _ _ _ _ _ _ _ _ _ _ _ _ _ _ _ _ _ _ _ _ _ _ _ _ _ _ _ hp (by omega) h3 (by omega) (by omega) h3 (by omega) ?_ ?_
      · unfold node_Same.f
        rw [if_pos rfl, if_neg (by cases b <;> simp)]
      · refine bytes_ne (encStr p) (encLab s c i d ++ (encLab s' c' i' d' ++ encB (acl.length : Int)) ++ (encAcl acl ++ (encMid r1 r2 r3 g ws.length ++ encWords ws))) (encLab s c i d ++ (encLab s' c' i' d' ++ encB (acl.length : Int)) ++ (encAcl acl ++ (encMid r1 r2 r3 g ws.length ++ encWords ws))) ((if b = true then 1 else 0) % 256) ((if (!b) = true then 1 else 0) % 256) (by omega) (by omega) (by omega) (by omega) (by cases b <;> simp) ?_ ?_
        · simp [encNode, encHead, encB]
        · simp [encNode, encHead, encB]
    · rw [if_neg (by omega), if_pos rfl, wrap64_id (by omega) (by omega), tmod_pos (by omega)]
      refine own_end 100 _ _ _ _ _ _ _ _ _ _ _ _ _ _ _ _ _ _ _ _ _ _ _ _ _ _ _ _ _ _ _ hp (by omega) h3 (by omega) (by omega) h3 (by omega) ?_ ?_
      · unfold node_Same.f
        rw [if_pos rfl, if_pos (by simp), if_neg (by simp; omega)]
      · refine bytes_ne (encStr p ++ encB (if b = true then 1 else 0)) ([c % 256, i % 256, d % 256] ++ (encLab s' c' i' d' ++ encB (acl.length : Int)) ++ (encAcl acl ++ (encMid r1 r2 r3 g ws.length ++ encWords ws))) ([c % 256, i % 256, d % 256] ++ (encLab s' c' i' d' ++ encB (acl.length : Int)) ++ (encAcl acl ++ (encMid r1 r2 r3 g ws.length ++ encWords ws))) (s % 256) ((s + (1 + t)) % 4 % 256) (by omega) (by omega) (by omega) (by omega) (by omega) ?_ ?_
        · simp [encNode, encHead, encB, encLab]
        · simp [encNode, encHead, encB, encLab]
    · rw [if_neg (by omega), if_neg (by omega), if_pos rfl, wrap64_id (by omega) (by omega), tmod_pos (by omega)]
      refine own_end 100 _ _ _ _ _ _ _ _ _ _ _ _ _ _ _ _ _ _ _ _ _ _ _ _ _ _ _ _ _ _ _ hp (by omega) h3 (by omega) (by omega) h3 (by omega) ?_ ?_
      · unfold node_Same.f
        rw [if_pos rfl, if_pos (by simp), if_pos (hrefl _ _ _ _), if_neg (by simp; omega)]
      · refine bytes_ne (encStr p ++ encB (if b = true then 1 else 0) ++ encLab s c i d ++ [s' % 256, c' % 256, i' % 256]) (encB (acl.length : Int) ++ (encAcl acl ++ (encMid r1 r2 r3 g ws.length ++ encWords ws))) (encB (acl.length : Int) ++ (encAcl acl ++ (encMid r1 r2 r3 g ws.length ++ encWords ws))) (d' % 256) ((d' + (1 + t)) % 256 % 256) (by omega) (by omega) (by omega) (by omega) (by omega) ?_ ?_
        · simp [encNode, encHead, encB, encLab]
        · simp [encNode, encHead, encB, encLab]
    · rw [if_neg (by omega), if_neg (by omega), if_neg (by omega), if_pos rfl, wrap64_id (by omega) (by omega), tmod_pos (by omega)]
      refine own_end 100 _ _ _ _ _ _ _ _ _ _ _ _ _ _ _ _ _ _ _ _ _ _ _ _ _ _ _ _ _ _ _ hp (by omega) h3 (by omega) (by omega) h3 (by omega) ?_ ?_
      · unfold node_Same.f
        rw [if_pos rfl, if_pos (by simp), if_pos (hrefl _ _ _ _), if_pos (hrefl _ _ _ _), if_neg (by simp; omega)]
      · refine bytes_ne (encStr p ++ encB (if b = true then 1 else 0) ++ encLab s c i d ++ encLab s' c' i' d' ++ encB (acl.length : Int) ++ encAcl acl ++ [r1 % 256, r2 % 256, r3 % 256]) (encB (ws.length : Int) ++ encWords ws) (encB (ws.length : Int) ++ encWords ws) (g % 256) ((g + (1 + t)) % 17 % 256) (by omega) (by omega) (by omega) (by omega) (by omega) ?_ ?_
        · simp [encNode, encHead, encB, encLab, encMid]
        · simp [encNode, encHead, encB, encLab, encMid]
    · rw [if_neg (by omega), if_neg (by omega), if_neg (by omega), if_neg (by omega), if_pos rfl, Option.bind_some, if_pos (by simp; omega), Option.bind_some, List.nil_append, if_pos (by omega)]
      refine own_end 100 _ _ _ _ _ _ _ _ _ _ _ _ _ _ _ _ _ _ _ _ _ _ _ _ _ _ _ _ _ _ _ hp (by omega) h3 (by omega) (by omega) h3 (by simp; omega) ?_ ?_
      · unfold node_Same.f
        rw [if_pos rfl, if_pos (by simp), if_pos (hrefl _ _ _ _), if_pos (hrefl _ _ _ _), if_pos (hrefl _ _ _ _), same_acl_f acl (by omega) 100 (by omega), Option.bind_some, if_pos rfl]
        unfold slices_Equal_int64_int64.f
        rw [if_neg (by simp only [List.length_append, List.length_cons, List.length_nil]; omega)]
        rfl
      · refine bytes_ne (encStr p ++ encB (if b = true then 1 else 0) ++ encLab s c i d ++ encLab s' c' i' d' ++ encB (acl.length : Int) ++ encAcl acl ++ encLab r1 r2 r3 g) (encWords ws) (encWords (ws ++ [1 + t])) ((ws.length : Int) % 256) (((ws ++ [1 + t]).length : Int) % 256) (by omega) (by omega) (by omega) (by omega) (by simp; omega) ?_ ?_
        · simp [encNode, encHead, encB, encLab, encMid]
        · simp [encNode, encHead, encB, encLab, encMid]
    · rw [if_neg (by omega), if_neg (by omega), if_neg (by omega), if_neg (by omega), if_neg (by omega), if_pos rfl, Option.bind_some, if_pos (by simp; omega), Option.bind_some, List.nil_append, if_pos (by omega)]
      have h3' : ∀ g ∈ acl ++ [(⟨(⟨#[122]⟩ : ByteArray), 1 + t⟩ : Gr)], g.f0.size ≤ 255 := fun g hg => by
        rcases List.mem_append.1 hg with hg | hg
        · exact h3 g hg
        · obtain rfl := List.mem_singleton.1 hg
          show (⟨#[122]⟩ : ByteArray).size ≤ 255
          decide
      refine own_end 100 _ _ _ _ _ _ _ _ _ _ _ _ _ _ _ _ _ _ _ _ _ _ _ _ _ _ _ _ _ _ _ hp (by omega) h3 (by omega) (by simp; omega) h3' (by omega) ?_ ?_
      · unfold node_Same.f
        rw [if_pos rfl, if_pos (by simp), if_pos (hrefl _ _ _ _), if_pos (hrefl _ _ _ _), if_pos (hrefl _ _ _ _)]
        unfold api_Grant.f
        rw [if_neg (by simp only [List.length_append, List.length_cons, List.length_nil]; omega), Option.bind_some, if_neg (by simp)]
      · refine bytes_ne (encStr p ++ encB (if b = true then 1 else 0) ++ encLab s c i d ++ encLab s' c' i' d') (encAcl acl ++ (encMid r1 r2 r3 g ws.length ++ encWords ws)) (encAcl (acl ++ [(⟨(⟨#[122]⟩ : ByteArray), 1 + t⟩ : Gr)]) ++ (encMid r1 r2 r3 g ws.length ++ encWords ws)) ((acl.length : Int) % 256) (((acl ++ [(⟨(⟨#[122]⟩ : ByteArray), 1 + t⟩ : Gr)]).length : Int) % 256) (by omega) (by omega) (by omega) (by omega) (by simp; omega) ?_ ?_
        · simp [encNode, encHead, encB, encLab]
        · simp [encNode, encHead, encB, encLab]
    · rw [if_neg (by omega), if_neg (by omega), if_neg (by omega), if_neg (by omega), if_neg (by omega), if_neg (by omega), if_pos rfl, good4_f, Option.bind_some, wrap64_id (by omega) (by omega)]
      dsimp only
      refine own_end 100 _ _ _ _ _ _ _ _ _ _ _ _ _ _ _ _ _ _ _ _ _ _ _ _ _ _ _ _ _ _ _ hp (by omega) h3 (by omega) (by omega) h3 (by omega) ?_ ?_
      · unfold node_Same.f
        rw [if_pos rfl, if_pos (by simp), if_neg (by simp; omega)]
      · refine bytes_ne (encStr p ++ encB (if b = true then 1 else 0)) ([c % 256, i % 256, d % 256] ++ (encLab s' c' i' d' ++ encB (acl.length : Int)) ++ (encAcl acl ++ (encMid r1 r2 r3 g ws.length ++ encWords ws))) ([c % 256 % 256, i % 4 % 256, d % 256 % 256] ++ (encLab s' c' i' d' ++ encB (acl.length : Int)) ++ (encAcl acl ++ (encMid r1 r2 r3 g ws.length ++ encWords ws))) (s % 256) ((s + (1 + t)) % 4 % 256) (by omega) (by omega) (by omega) (by omega) (by omega) ?_ ?_
        · simp [encNode, encHead, encB, encLab]
        · simp [encNode, encHead, encB, encLab]
  · have hf : donjonlaw10_few.f p0 b a0_2 a0_3 a0_4 a0_5 l0 a0_7 a0_8 a0_9 a0_10 ws a0_12 a0_13 a0_14 a0_15 = some false := by
      unfold donjonlaw10_few.f
      by_cases f1 : (p0.size : Int) < 1000
      · rw [if_pos f1]
        by_cases f2 : (l0.length : Int) < 40
        · rw [if_pos f2, decide_eq_false (fun f3 => hfew ⟨f1, f2, f3⟩)]
        · rw [if_neg f2]
      · rw [if_neg f1]
    rw [hf, Option.bind_some, if_neg (by simp)]
end Go.Proofs.Ytophnhmlknbmeaa.Pure
