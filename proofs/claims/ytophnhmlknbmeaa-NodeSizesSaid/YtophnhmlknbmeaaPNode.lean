/- Nodes in plain numbers and lists: what the law makes plain. -/
import Derived.Test.YtophnhmlknbmeaaF8
import Derived.Test.YtophnhmlknbmeaaF12
import Derived.Test.YtophnhmlknbmeaaPLab4
namespace Go.Proofs.Ytophnhmlknbmeaa.Pure
open Go.RowKit Go.Proofs.Ytophnhmlknbmeaa.X Go.Proofs.YtophnhmlknbmeaaW.PrintWords Go.Proofs.YtophnhmlknbmeaaW.PrintLast Go.Proofs.Ytophnhmlknbmeaa.Lib

abbrev Gr := S35
theorem wNextN {i : Nat} (h : i < 1000000) : wrap64 ((i : Int) + 1) = ((i + 1 : Nat) : Int) := by rw [wrap64_id (by omega) (by omega)]; omega
theorem good6_f (a b c d : Int) : ∃ r1 r2 r3 g, donjonlaw6_Good.f a b c d = some (r1, r2, r3, g) ∧ 0 ≤ r1 ∧ r1 ≤ r2 ∧ r2 ≤ r3 ∧ r3 < 8 ∧ 0 ≤ g ∧ g < 17 := by
  obtain ⟨t1, e1, h1, h2, _⟩ := within_small (a := a) (n := 8) (by omega) (by omega)
  obtain ⟨t2, e2, h3, h4, _⟩ := within_small (a := b) (n := 8 - t1) (by omega) (by omega)
  obtain ⟨t3, e3, h5, h6, _⟩ := within_small (a := c) (n := 8 - (t1 + t2)) (by omega) (by omega)
  obtain ⟨t4, e4, h7, h8, _⟩ := within_small (a := d) (n := 17) (by omega) (by omega)
  refine ⟨t1, t1 + t2, t1 + t2 + t3, t4, ?_, by omega, by omega, by omega, by omega, by omega, by omega⟩
  unfold donjonlaw6_Good.f
  rw [show donjonlaw6_within.f a 8 = some t1 from e1, Option.bind_some, if_pos ⟨by omega, by omega⟩, show donjonlaw6_within.f b (8 - t1) = some t2 from e2, Option.bind_some, if_pos ⟨by omega, by omega⟩, show donjonlaw6_within.f c (8 - (t1 + t2)) = some t3 from e3, Option.bind_some, if_pos ⟨by omega, by omega⟩, show donjonlaw6_within.f d 17 = some t4 from e4, Option.bind_some]
/-- A list of grants such as bytes can say. -/
def AclOk (l : List Gr) : Prop := ∀ g ∈ l, g.f0.size ≤ 255 ∧ 0 ≤ g.f1 ∧ g.f1 < 256
theorem plain_l0 (l : List Gr) (hl : l.length < 40) (p : ByteArray) (b : Bool) (s c i d r1 r2 r3 g : Int) (ws : List Int) (s' c' i' d' : Int) : ∀ (n j : Nat) (out : List Gr), j + n = l.length → out.length ≤ j → AclOk out → ∀ k, n < k →
    ∃ acl, donjonlaw10_plain.l0 k out (j : Int) p b s c i d l r1 r2 r3 g ws s' c' i' d' = some (p, b, s, c, i, d, acl, r1, r2, r3, g, ws, s', c', i', d') ∧ acl.length ≤ l.length ∧ AclOk acl := by
  intro n
  induction n with
  | zero =>
    intro j out hj ho hok k hk
    obtain ⟨k, rfl⟩ : ∃ q, k = q + 1 := ⟨k - 1, by omega⟩
    exact ⟨out, by rw [donjonlaw10_plain.l0, if_neg (by omega)], by omega, hok⟩
  | succ n ih =>
    intro j out hj ho hok k hk
    obtain ⟨k, rfl⟩ : ∃ q, k = q + 1 := ⟨k - 1, by omega⟩
    rw [donjonlaw10_plain.l0, if_pos (by omega), if_pos (by omega), wNextN (by omega)]
    by_cases hs : (((rd_T35 l (j : Int)).f0).size : Int) ≤ 255
    · obtain ⟨t, et, t0, t1, _⟩ := within_small (a := (rd_T35 l (j : Int)).f1) (n := 256) (by omega) (by omega)
      rw [if_pos hs, show donjonlaw10_within.f ((rd_T35 l (j : Int)).f1) 256 = some t from et, Option.bind_some, if_pos (by omega)]
      refine ih (j + 1) _ (by omega) (by simp; omega) (fun q hq => ?_) k (by omega)
      rcases List.mem_append.1 hq with hq | hq
      · exact hok q hq
      · obtain rfl := List.mem_singleton.1 hq
        exact ⟨by show (rd_T35 l (j : Int)).f0.size ≤ 255; omega, t0, t1⟩
    · rw [if_neg hs]
      exact ih (j + 1) out (by omega) (by omega) hok k (by omega)
theorem plain_f (k : Nat) (hk : 50 < k) (p : ByteArray) (b : Bool) (s c i d : Int) (l : List Gr) (hl : l.length < 40) (q1 q2 q3 q4 : Int) (ws : List Int) (s' c' i' d' : Int) :
    ∃ p2 acl r1 r2 r3 g, donjonlaw10_plain.f k p b s c i d l q1 q2 q3 q4 ws s' c' i' d' = some (p2, b, s % 4, c % 256, i % 4, d % 256, acl, r1, r2, r3, g, ws, s' % 4, c' % 256, i' % 4, d' % 256) ∧ p2.size ≤ 255 ∧ acl.length ≤ l.length ∧ AclOk acl ∧ 0 ≤ r1 ∧ r1 ≤ r2 ∧ r2 ≤ r3 ∧ r3 < 8 ∧ 0 ≤ g ∧ g < 17 := by
  obtain ⟨r1, r2, r3, g, eg, h1, h2, h3, h4, h5, h6⟩ := good6_f q1 q2 q3 q4
  have hj : ∀ p2 : ByteArray, ∃ acl, donjonlaw10_plain.j0 k p2 b s c i d l q1 q2 q3 q4 ws s' c' i' d' = some (p2, b, s % 4, c % 256, i % 4, d % 256, acl, r1, r2, r3, g, ws, s' % 4, c' % 256, i' % 4, d' % 256) ∧ acl.length ≤ l.length ∧ AclOk acl := by
    intro p2
    obtain ⟨k, rfl⟩ : ∃ q, k = q + 1 := ⟨k - 1, by omega⟩
    rw [donjonlaw10_plain.j0, good4_f, Option.bind_some, good4_f, Option.bind_some, eg, Option.bind_some]
    exact plain_l0 l hl p2 b (s % 4) (c % 256) (i % 4) (d % 256) r1 r2 r3 g ws (s' % 4) (c' % 256) (i' % 4) (d' % 256) l.length 0 [] (by omega) (by simp) (fun _ h => absurd h (by simp)) k (by omega)
  unfold donjonlaw10_plain.f
  by_cases hp : (p.size : Int) > 255
  · obtain ⟨acl, e, a1, a2⟩ := hj (p.extract 0 255)
    rw [if_pos hp, if_pos (by omega), if_pos (by omega)]
    refine ⟨_, acl, r1, r2, r3, g, e, ?_, a1, a2, h1, h2, h3, h4, h5, h6⟩
    rw [ByteArray.size_extract]
    omega
  · obtain ⟨acl, e, a1, a2⟩ := hj p
    rw [if_neg hp]
    exact ⟨p, acl, r1, r2, r3, g, e, by omega, a1, a2, h1, h2, h3, h4, h5, h6⟩
theorem encode_f (p : ByteArray) (b : Bool) (s c i d : Int) (l : List Gr) (q1 q2 q3 q4 : Int) (ws : List Int) (s' c' i' d' : Int) (h1 : p.size ≤ 255) (h2 : l.length ≤ 100) (h3 : ∀ g ∈ l, g.f0.size ≤ 255) (h4 : ws.length ≤ 200) :
    node_Encode.f p b s c i d l q1 q2 q3 q4 ws s' c' i' d' = some (encNode p b s c i d l q1 q2 q3 q4 ws s' c' i' d') := by
  unfold node_Encode.f
  rw [if_pos ⟨h1, h2, h3, h4⟩]
theorem bytes_ne (A r r' : List Int) (x y : Int) (hx0 : 0 ≤ x) (hx : x < 256) (hy0 : 0 ≤ y) (hy : y < 256) (hne : x ≠ y) {X Y : List Int} (eX : X = A ++ x :: r) (eY : Y = A ++ y :: r') : ((strOfNums X).toList != (strOfNums Y).toList) = true := by
  subst eX eY
  have e : ∀ z : List Int, (strOfNums z).toList = z.map (fun n => UInt8.ofNat n.toNat) := fun z => ByteArray.toList_mk _
  rw [e, e, bne_iff_ne, List.map_append, List.map_append, List.map_cons, List.map_cons]
  intro h
  have h2 := List.append_cancel_left h
  rw [List.cons.injEq] at h2
  have h3 := congrArg UInt8.toNat h2.1
  rw [UInt8.toNat_ofNat', UInt8.toNat_ofNat'] at h3
  omega
end Go.Proofs.Ytophnhmlknbmeaa.Pure
