/- NodeRules, over numbers and lists: directories have no words and no rings, segments MaxWords words at most; the root is a directory. For every input. -/
import Derived.Test.YtophnhmlknbmeaaDoorF4
import Derived.Test.YtophnhmlknbmeaaDoorHO
import Derived.Test.YtophnhmlknbmeaaDoorTxt
namespace Go.Proofs.YtophnhmlknbmeaaDoor.Pure
open Go.RowKit Go.Proofs.YtophnhmlknbmeaaDoor.X Go.Proofs.YtophnhmlknbmeaaDoorW.PrintWords Go.Proofs.YtophnhmlknbmeaaDoorW.PrintLast Go.Proofs.YtophnhmlknbmeaaDoor.Lib

theorem rules_good6 (a b c d : Int) : ∃ r1 r2 r3 g, donjonlaw6_Good.f a b c d = some (r1, r2, r3, g) ∧ 0 ≤ r1 ∧ r1 ≤ r2 ∧ r2 ≤ r3 ∧ r3 < 8 ∧ 0 ≤ g ∧ g < 17 := by
  obtain ⟨t1, e1, h1, h2, _⟩ := within_small (a := a) (n := 8) (by omega) (by omega)
  obtain ⟨t2, e2, h3, h4, _⟩ := within_small (a := b) (n := 8 - t1) (by omega) (by omega)
  obtain ⟨t3, e3, h5, h6, _⟩ := within_small (a := c) (n := 8 - (t1 + t2)) (by omega) (by omega)
  obtain ⟨t4, e4, h7, h8, _⟩ := within_small (a := d) (n := 17) (by omega) (by omega)
  refine ⟨t1, t1 + t2, t1 + t2 + t3, t4, ?_, by omega, by omega, by omega, by omega, by omega, by omega⟩
  unfold donjonlaw6_Good.f
  rw [show donjonlaw6_within.f a 8 = some t1 from e1, Option.bind_some, if_pos ⟨by omega, by omega⟩, show donjonlaw6_within.f b (8 - t1) = some t2 from e2, Option.bind_some, if_pos ⟨by omega, by omega⟩, show donjonlaw6_within.f c (8 - (t1 + t2)) = some t3 from e3, Option.bind_some, if_pos ⟨by omega, by omega⟩, show donjonlaw6_within.f d 17 = some t4 from e4, Option.bind_some]
theorem rules_ring (r1 r2 r3 g : Int) (h0 : 0 ≤ r1) (h1 : r1 ≤ r2) (h2 : r2 ≤ r3) (h3 : r3 < 8) (h4 : 0 ≤ g) (h5 : g < 17) : ring_Check.f r1 r2 r3 g = some 0 := by
  unfold ring_Check.f
  rw [if_neg (by omega), if_neg (by omega), if_neg (by omega), if_neg (by omega), if_neg (by omega), if_neg (by omega)]
/-- What node.Check says of such a node. -/
theorem rules_check (p : ByteArray) (root : Bool) (hp : path_Check.f p = some 0) (hr : (p.toList = [47]) = (root = true)) (dir : Bool) (r1 r2 r3 g : Int) (ws : List Int) (hg : ring_Check.f r1 r2 r3 g = some 0) (k : Nat) :
    node_Check.f (k + 7) p dir 0 0 0 0 [] r1 r2 r3 g ws 0 0 0 0 = some (if root = true ∧ dir = false then 3 else if dir = true ∧ ((!(r1 == 0) || (!(r2 == 0) || (!(r3 == 0) || (!(g == 0))))) = true ∨ 0 < ws.length) then 11 else if dir = true then 0 else if 16 < ws.length then 4 else 0) := by
  have e1 : label_Check.f 0 0 0 0 = some 0 := by decide
  have e2 : acl_Check.f (k + 7) [] = some 0 := by
    unfold acl_Check.f
    rw [if_neg (by simp), acl_Check.l0, if_neg (by simp)]
  have e3 : node_first.f (k + 7) [0, 0, 0, 0] = some 0 := by
    have w1 : wrap64 (0 + 1) = 1 := by rw [wrap64_id (by omega) (by omega)]; rfl
    have w2 : wrap64 (1 + 1) = 2 := by rw [wrap64_id (by omega) (by omega)]; rfl
    have w3 : wrap64 (2 + 1) = 3 := by rw [wrap64_id (by omega) (by omega)]; rfl
    have w4 : wrap64 (3 + 1) = 4 := by rw [wrap64_id (by omega) (by omega)]; rfl
    have d0 : rd [0, 0, 0, 0] 0 = 0 := by decide
    have d1 : rd [0, 0, 0, 0] 1 = 0 := by decide
    have d2 : rd [0, 0, 0, 0] 2 = 0 := by decide
    have d3 : rd [0, 0, 0, 0] 3 = 0 := by decide
    unfold node_first.f
    rw [node_first.l0, if_pos (by decide), if_pos (by decide), if_pos (by decide), if_pos d0, w1, node_first.l0, if_pos (by decide), if_pos (by decide), if_pos (by decide), if_pos d1, w2, node_first.l0, if_pos (by decide), if_pos (by decide), if_pos (by decide), if_pos d2, w3, node_first.l0, if_pos (by decide), if_pos (by decide), if_pos (by decide), if_pos d3, w4, node_first.l0, if_neg (by decide)]
  have e4 : ∀ x : Bool, node_Check.j0 (k + 7) x p dir 0 0 0 0 [] r1 r2 r3 g ws 0 0 0 0 = some (if x = true then 3 else if dir = true ∧ ((!(r1 == 0) || (!(r2 == 0) || (!(r3 == 0) || (!(g == 0))))) = true ∨ 0 < ws.length) then 11 else if dir = true then 0 else if 16 < ws.length then 4 else 0) := by
    intro x
    rw [node_Check.j0, node_Check.j1, node_Check.j1, node_Check.j1, hg, Option.bind_some, if_pos rfl]
    generalize (!(r1 == 0) || (!(r2 == 0) || (!(r3 == 0) || (!(g == 0))))) = q
    cases x <;> cases dir <;> cases q <;> simp
    · by_cases h : 16 < ws.length
      · rw [if_pos (by omega), if_pos h]
      · rw [if_neg (by omega), if_neg h]
    · by_cases h : 16 < ws.length
      · rw [if_pos (by omega), if_pos h]
      · rw [if_neg (by omega), if_neg h]
    · by_cases h : 0 < ws.length
      · rw [if_pos (by omega), if_pos h]
      · rw [if_neg (by omega), if_neg h]
  unfold node_Check.f
  rw [hp, Option.bind_some, e1, Option.bind_some, Option.bind_some, e2, Option.bind_some, e3, Option.bind_some, if_pos rfl]
  by_cases h : p.toList = [47]
  · have hroot : root = true := by rw [← hr]; exact h
    subst hroot
    rw [if_pos h, e4]
    cases dir <;> simp
  · have hroot : root = false := by
      cases root
      · rfl
      · exact absurd (by rw [hr]) h
    subst hroot
    rw [if_neg h, e4]
    simp
theorem NodeRules : ∀ (a0_0 : Int) (a0_1 : Int) (a0_2 : Int) (a0_3 : Int) (a1 : Int) (a2 : Bool) (a3 : Bool), (Lit.int .i64 a0_0).wf = true → (Lit.int .i64 a0_1).wf = true → (Lit.int .i64 a0_2).wf = true → (Lit.int .i64 a0_3).wf = true → (Lit.int .i64 a1).wf = true → ∃ k, donjonlaw10_NodeRules.f k a0_0 a0_1 a0_2 a0_3 a1 a2 a3 = some true := by
  intro a b c d words dir root _ _ _ _ _
  refine ⟨10, ?_⟩
  obtain ⟨r1, r2, r3, g, eg, h0, h1, h2, h3, h4, h5⟩ := rules_good6 a b c d
  obtain ⟨t, et, t0, t1, _⟩ := within_small (a := words) (n := 20) (by omega) (by omega)
  have hg := rules_ring r1 r2 r3 g h0 h1 h2 h3 h4 h5
  unfold donjonlaw10_NodeRules.f
  rw [show donjonlaw10_known.f = some true by decide +kernel, Option.bind_some, if_pos rfl, eg, Option.bind_some, show donjonlaw10_within.f words 20 = some t from et, Option.bind_some, if_pos t0, if_pos (by omega), Option.bind_some]
  dsimp only
  obtain ⟨n, rfl⟩ : ∃ n : Nat, t = (n : Int) := ⟨t.toNat, by omega⟩
  rw [Int.toNat_natCast]
  have hlen : (List.replicate n (0 : Int)).length = n := List.length_replicate
  have p1 : path_Check.f ⟨#[47]⟩ = some 0 := by decide +kernel
  have p2 : path_Check.f ⟨#[47, 97]⟩ = some 0 := by decide +kernel
  have q1 : ∀ k, node_Check.f (k + 7) ⟨#[47]⟩ dir 0 0 0 0 [] r1 r2 r3 g (List.replicate n 0) 0 0 0 0 = _ := rules_check ⟨#[47]⟩ true p1 (by simp) dir r1 r2 r3 g (List.replicate n 0) hg
  have q2 : ∀ k, node_Check.f (k + 7) ⟨#[47, 97]⟩ dir 0 0 0 0 [] r1 r2 r3 g (List.replicate n 0) 0 0 0 0 = _ := rules_check ⟨#[47, 97]⟩ false p2 (by simp) dir r1 r2 r3 g (List.replicate n 0) hg
  rw [hlen] at q1 q2
  generalize List.replicate n (0 : Int) = ws at q1 q2 ⊢
  simp only [donjonlaw10_NodeRules.j0, donjonlaw10_NodeRules.j1, donjonlaw10_NodeRules.j2]
  have a7 : node_Check.f 7 ⟨#[47]⟩ dir 0 0 0 0 [] r1 r2 r3 g ws 0 0 0 0 = _ := q1 0
  have a8 : node_Check.f 8 ⟨#[47]⟩ dir 0 0 0 0 [] r1 r2 r3 g ws 0 0 0 0 = _ := q1 1
  have b7 : node_Check.f 7 ⟨#[47, 97]⟩ dir 0 0 0 0 [] r1 r2 r3 g ws 0 0 0 0 = _ := q2 0
  have b8 : node_Check.f 8 ⟨#[47, 97]⟩ dir 0 0 0 0 [] r1 r2 r3 g ws 0 0 0 0 = _ := q2 1
  rw [a7, a8, b7, b8]
  clear q1 q2 a7 a8 b7 b8
  simp only [Option.bind_some]
  generalize (!(r1 == 0) || (!(r2 == 0) || (!(r3 == 0) || (!(g == 0))))) = q
  by_cases n0 : 0 < n <;> by_cases n16 : 16 < n
  · have m0 : (n : Int) > 0 := by omega
    have m16 : (16 : Int) < n := by omega
    cases root <;> cases dir <;> cases q <;> simp [n0, n16, m16]
  · have m0 : (n : Int) > 0 := by omega
    have m16 : ¬ (n : Int) > 16 := by omega
    have m17 : (n : Int) ≤ 16 := by omega
    cases root <;> cases dir <;> cases q <;> simp [n0, n16, m17]
  · omega
  · obtain rfl : n = 0 := by omega
    cases root <;> cases dir <;> cases q <;> simp
end Go.Proofs.YtophnhmlknbmeaaDoor.Pure
