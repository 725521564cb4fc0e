/- Arguments opened by their types: what reads as data of a type reads as a value of a kind, its numbers fit, its strings and slices are within the reach. -/
import Derived.Test.YtihknjmibnonjaaDoorWMore
import Derived.SizedLaws
import Derived.ChangeSlices
import Derived.Deep.Slices
import Derived.Deep.Fields
import Derived.ProofKit
import Derived.WideShapes
namespace Go.Proofs.YtihknjmibnonjaaDoor.Opens
open Go.RowKit Go.ChangeShapes Go.WideShapes Go.Deep Go.Proofs.YtihknjmibnonjaaDoorW.PrintWords

def Opens (P : Program) (t : TypeId) {α : Type} (d : Kd α) (G : α → Prop) : Prop :=
  ∀ (H : Type) (enc : TypeId × Value → H) (w : World) (base : Nat) (spare : Nat → Bool) (held : Bool) (fuel : Nat) (cs : List Value) (x : DataW H × List MemPlace),
    DataW.trod enc P w base spare held fuel t cs = some x → (∀ n ∈ x.1.weights P t, n ≤ reachBytes) → ∃ a, d.K w a cs ∧ G a

theorem opens_int {P : Program} {t : TypeId} {k : IntKind} (ht : P.underlying t = some (.int k)) : Opens P t (Kd.int k) (fun n => (Lit.int k n).wf = true) := by
  intro H enc w base spare held fuel cs x h _
  obtain ⟨n, rfl, rfl, hw⟩ := DataW.trod_int ht h
  exact ⟨n, rfl, hw⟩
theorem opens_bool {P : Program} {t : TypeId} (ht : P.underlying t = some .bool) : Opens P t Kd.bool (fun _ => True) := by
  intro H enc w base spare held fuel cs x h _
  obtain ⟨n, rfl, rfl⟩ := DataW.trod_bool ht h
  exact ⟨n, rfl, trivial⟩
theorem opens_string {P : Program} {t : TypeId} (ht : P.underlying t = some .string) : Opens P t Kd.string (fun s => s.size ≤ 140737488351232) := by
  intro H enc w base spare held fuel cs x h hz
  obtain ⟨s, rfl, rfl, _⟩ := DataW.trod_string ht h
  refine ⟨s, rfl, ?_⟩
  have := hz s.data.toList.length (by simp [DataW.weights])
  simpa [reachBytes] using this

theorem weightsAll_mem {H : Type} {P : Program} {e : TypeId} : ∀ {ds : List (DataW H)} {d : DataW H}, d ∈ ds → ∀ n ∈ d.weights P e, n ∈ DataW.weightsAll P e ds
  | d0 :: ds, d, hd, n, hn => by
    rw [DataW.weightsAll]
    rcases List.mem_cons.1 hd with rfl | hd
    · exact List.mem_append_left _ hn
    · exact List.mem_append_right _ (weightsAll_mem hd n hn)
  | [], _, hd, _, _ => by simp at hd

/-- One choice for each index. -/
theorem pick {α : Type} {n : Nat} {p : Nat → α → Prop} (h : ∀ i, i < n → ∃ a, p i a) : ∃ xs : List α, xs.length = n ∧ ∀ j x, xs[j]? = some x → p j x := by
  induction n with
  | zero => exact ⟨[], rfl, fun j x hx => by simp at hx⟩
  | succ n ih =>
    obtain ⟨xs, hl, hx⟩ := ih (fun i hi => h i (by omega))
    obtain ⟨a, ha⟩ := h n (by omega)
    refine ⟨xs ++ [a], by simp [hl], fun j x hj => ?_⟩
    rcases Nat.lt_or_ge j n with hlt | hge
    · rw [List.getElem?_append_left (by omega)] at hj
      exact hx j x hj
    · have hjl := (List.getElem?_eq_some_iff.1 hj).1
      have e : j = n := by simp [hl] at hjl; omega
      subst e
      rw [List.getElem?_append_right (by omega), hl] at hj
      simp at hj
      exact hj ▸ ha

theorem opens_slice {P : Program} {t e : TypeId} {α : Type} {d : Kd α} {G : α → Prop} {B : Nat} (ht : P.underlying t = some (.slice e)) (hd : Opens P e d G) (hs : P.cellsOf e = d.sz) (hB : P.bytesOf e = B) :
    Opens P t (Kd.slice e d) (fun xs => xs.length ≤ maxLen ∧ xs.length * B ≤ 140737488351232 ∧ ∀ x ∈ xs, G x) := by
  intro H enc w base spare held fuel cs x h hz
  rcases open_slice ht h with ⟨rfl, rfl⟩ | ⟨a, len, cap, m, n, D, Pl, rfl, hb, hl, hm, hmm, rfl, hi⟩
  · exact ⟨[], ⟨none, 0, rfl, by simp, by simp, by simp, fun h0 => by simp at h0⟩, by simp, by simp, by simp⟩
  · have hlm : len ≤ m := by rw [hmm]; split <;> omega
    simp only [DataW.weights, ht] at hz
    have hi2 : ∀ i, i < len → ∃ y : α, (∃ c, d.K w y c ∧ w.cells? base (a.add (i * P.cellsOf e)) (P.cellsOf e) = some c) ∧ G y := by
      intro i him
      obtain ⟨cs', hc, ht'⟩ := hi i (by omega)
      obtain ⟨y, hy, hg⟩ := hd H enc w base spare held n cs' _ ht' (fun q hq => hz q (by
        refine List.mem_cons_of_mem _ (List.mem_append_left _ (weightsAll_mem (d := D i) ?_ q hq))
        exact List.mem_map.2 ⟨i, by simpa using him, rfl⟩))
      exact ⟨y, ⟨cs', hy, hc⟩, hg⟩
    obtain ⟨xs, hxl, hx⟩ := pick hi2
    have hml : len ≤ 9223372036854775807 := by unfold maxLen at hm; omega
    refine ⟨xs, ⟨some a, cap, by rw [hxl], by omega, hxl ▸ rfl, by omega, fun _ => ⟨a, rfl, fun j p hj => ?_⟩⟩, by unfold maxLen; omega, ?_, fun y hy => ?_⟩
    · obtain ⟨⟨c, hK, hc⟩, _⟩ := hx j p hj
      refine ⟨c, d.K_len hK, hK, fun i u hu => ?_⟩
      obtain ⟨_, hcl, hat⟩ := World.cells?_some hc
      have hil := (List.getElem?_eq_some_iff.1 hu).1
      have := hat i (by omega)
      rw [hs] at this
      rw [← Go.Deep.add_add, this, hu]
    · have := hz _ List.mem_cons_self
      simp only [List.length_map, List.length_range, hB] at this
      rw [hxl]
      have h2 : len * B ≤ (len + (m - len)) * B := Nat.mul_le_mul_right _ (by omega)
      have h3 : reachBytes = 140737488351232 := rfl
      omega
    · obtain ⟨j, hj⟩ := List.mem_iff_getElem?.1 hy
      exact (hx j y hj).2

def OpensFields (P : Program) (fs : List Field) (o : Nat) {α : Type} (d : Kd α) (G : α → Prop) : Prop :=
  ∀ (H : Type) (enc : TypeId × Value → H) (w : World) (base : Nat) (spare : Nat → Bool) (held : Bool) (fuel : Nat) (cs : List Value) (xs : List (DataW H × List MemPlace)),
    cs.length = o + d.sz → xs.length = fs.length → (∀ (j : Nat) f, fs[j]? = some f → DataW.trod enc P w base spare held fuel f.type ((cs.drop f.offset).take (P.cellsOf f.type)) = xs[j]?) →
    (∀ n ∈ DataW.weightsEach P (fs.map (·.type)) (xs.map (·.1)), n ≤ reachBytes) → ∃ a, d.K w a (cs.drop o) ∧ G a

theorem fields_one {P : Program} {f : Field} {o : Nat} {α : Type} {d : Kd α} {G : α → Prop} (ho : f.offset = o) (hs : P.cellsOf f.type = d.sz) (hd : Opens P f.type d G) : OpensFields P [f] o d G := by
  intro H enc w base spare held fuel cs xs hl hx hf hz
  match xs, hx with
  | [x], _ =>
    have h := hf 0 f rfl
    rw [ho, hs, List.take_of_length_le (by rw [List.length_drop]; omega)] at h
    exact hd H enc w base spare held fuel _ x h (fun n hn => hz n (by simp [DataW.weightsEach, hn]))

theorem fields_cons {P : Program} {f : Field} {fs : List Field} {o : Nat} {α β : Type} {d : Kd α} {d' : Kd β} {G : α → Prop} {G' : β → Prop} (ho : f.offset = o) (hs : P.cellsOf f.type = d.sz) (hd : Opens P f.type d G)
    (ht : OpensFields P fs (o + d.sz) d' G') : OpensFields P (f :: fs) o (Kd.pair d d') (fun p => G p.1 ∧ G' p.2) := by
  intro H enc w base spare held fuel cs xs hl hx hf hz
  match xs, hx with
  | x :: xs, hx =>
    have hsz : (Kd.pair d d').sz = d.sz + d'.sz := rfl
    have h := hf 0 f rfl
    rw [ho, hs] at h
    obtain ⟨y, hy, hg⟩ := hd H enc w base spare held fuel _ x h (fun n hn => hz n (by simp [DataW.weightsEach, hn]))
    obtain ⟨z, hz2, hg2⟩ := ht H enc w base spare held fuel cs xs (by omega) (by simpa using hx) (fun j g hj => by simpa using hf (j + 1) g (by simpa using hj)) (fun n hn => hz n (by simp [DataW.weightsEach, hn]))
    refine ⟨(y, z), ⟨(cs.drop o).take d.sz, cs.drop (o + d.sz), ?_, hy, hz2⟩, hg, hg2⟩
    rw [← List.drop_drop, List.take_append_drop]

theorem opens_struct {P : Program} {t : TypeId} {fs : Array Field} {α β : Type} {d : Kd α} {G : α → Prop} (ht : P.underlying t = some (.struct fs)) (hs : P.cellsOf t = d.sz) (f : β → α) (g : α → β) (hfg : ∀ y, f (g y) = y)
    (hd : OpensFields P fs.toList 0 d G) : Opens P t (Kd.iso d f) (fun b => G (f b)) := by
  intro H enc w base spare held fuel cs x h hz
  obtain ⟨xs, n, _, rfl, hl, hlen, hf⟩ := DataW.trod_struct ht h
  simp only [DataW.weights, ht] at hz
  obtain ⟨a, ha, hg⟩ := hd H enc w base spare held n cs xs (by omega) (by simpa using hlen) (fun j f hj => hf j f (by simpa using hj)) hz
  refine ⟨g a, ?_, ?_⟩
  · show d.K w (f (g a)) cs
    rw [hfg]
    simpa using ha
  · show G (f (g a))
    rw [hfg]
    exact hg

/-- A parameter, whatever its type. -/
theorem opened {H : Type} {enc : TypeId × Value → H} {P : Program} {W : World} {base : Nat} {spare : Nat → Bool} {held : Bool} {t : TypeId} {v : Value} {d : DataW H} {ps : List MemPlace} {ts : List TypeId} {ds : List (DataW H)} {j : Nat} {α : Type} {D : Kd α} {G : α → Prop}
    (hsz : (DataW.weightsEach P ts ds).all (· ≤ reachBytes) = true) (ht : ts[j]? = some t) (hd : ds[j]? = some d) (ho : Opens P t D G) (h : DataW.Trod enc P W base spare held t v d ps) : ∃ a, D.K W a v.cells.toList ∧ G a := by
  obtain ⟨fuel, hf⟩ := h
  exact ho H enc W base spare held fuel _ _ hf (fun n hn => by simpa using List.all_eq_true.1 hsz n (DataW.weights_mem_each ht hd n hn))

end Go.Proofs.YtihknjmibnonjaaDoor.Opens
