/- What is seen later holds what was seen, in its order; plain lists of labels and entries. -/
import Derived.Test.YtihknjmibnonjaaDoorAAl3
import Derived.Test.YtihknjmibnonjaaDoorF22
import Derived.Test.YtihknjmibnonjaaDoorF21
namespace Go.Proofs.YtihknjmibnonjaaDoor.Pure
open Go.RowKit Go.Proofs.YtihknjmibnonjaaDoor.X Go.Proofs.YtihknjmibnonjaaDoorW.PrintWords Go.Proofs.YtihknjmibnonjaaDoorW.PrintLast Go.Proofs.YtihknjmibnonjaaDoor.Lib Go.Proofs.YtihknjmibnonjaaDoorW.PrintMore
set_option linter.unusedVariables false
set_option linter.unusedSimpArgs false
/-- and, or of what is not below 0, in natural numbers. -/
theorem and_i64 {a b : Int} (ha0 : 0 ≤ a) (ha : a < 9223372036854775808) (hb0 : 0 ≤ b) (hb : b < 9223372036854775808) : Go.bits .and .i64 a b = ((a.toNat &&& b.toNat : Nat) : Int) := by
  have hx : a.toNat &&& b.toNat ≤ a.toNat := Nat.and_le_left
  show IntKind.i64.wrap ((BitVec.ofInt 64 a &&& BitVec.ofInt 64 b).toNat : Int) = _
  rw [BitVec.toNat_and, ofInt64_toNat ha0 (by omega), ofInt64_toNat hb0 (by omega), i64_wrap_id (by omega) (by omega)]
theorem or_i64 {a b : Int} (ha0 : 0 ≤ a) (ha : a < 9223372036854775808) (hb0 : 0 ≤ b) (hb : b < 9223372036854775808) : Go.bits .or .i64 a b = ((a.toNat ||| b.toNat : Nat) : Int) := by
  have hx : a.toNat ||| b.toNat < 2 ^ 63 := Nat.or_lt_two_pow (by omega) (by omega)
  show IntKind.i64.wrap ((BitVec.ofInt 64 a ||| BitVec.ofInt 64 b).toNat : Int) = _
  rw [BitVec.toNat_or, ofInt64_toNat ha0 (by omega), ofInt64_toNat hb0 (by omega), i64_wrap_id (by omega) (by omega)]
theorem nat_or_iff (a b : Nat) : a ||| b = a ↔ a &&& b = b := by
  constructor
  · intro h
    rw [← h]
    apply Nat.eq_of_testBit_eq
    intro i
    simp
    intro hb
    exact .inr hb
  · intro h
    apply Nat.eq_of_testBit_eq
    intro i
    have hi : (a &&& b).testBit i = b.testBit i := by rw [h]
    simp at hi ⊢
    exact hi
/-- May what is known at the second come to the first? -/
def overV (s c i d s' c' i' d' : Int) : Bool := decide (s' ≤ s) && (decide (c.toNat &&& c'.toNat = c'.toNat) && (decide (i ≤ i') && decide (d.toNat &&& d'.toNat = d.toNat)))
theorem mx_eq (a b : Int) : (mx a b == a) = decide (b ≤ a) := by
  unfold mx
  by_cases h : a < b
  · rw [if_pos h, decide_eq_false (by omega)]
    simp; omega
  · rw [if_neg h, decide_eq_true (by omega)]
    simp
theorem mn_eq (a b : Int) : (mn a b == a) = decide (a ≤ b) := by
  unfold mn
  by_cases h : b < a
  · rw [if_pos h, decide_eq_false (by omega)]
    simp; omega
  · rw [if_neg h, decide_eq_true (by omega)]
    simp
theorem over_f {s c i d s' c' i' d' : Int} (h : Lab s c i d) (h' : Lab s' c' i' d') : label_Over.f s c i d s' c' i' d' = some (overV s c i d s' c' i' d') := by
  obtain ⟨a1, a2, a3, a4, a5, a6, a7, a8⟩ := h
  obtain ⟨b1, b2, b3, b4, b5, b6, b7, b8⟩ := h'
  unfold label_Over.f label_Join.f overV
  rw [Option.bind_some, mx_eq, mn_eq, or_i64 a3 (by omega) b3 (by omega), and_i64 a7 (by omega) b7 (by omega)]
  congr 3
  · rw [Bool.eq_iff_iff]
    simp only [beq_iff_eq, decide_eq_true_eq]
    rw [← nat_or_iff]
    omega
  · congr 1
    rw [Bool.eq_iff_iff]
    simp only [beq_iff_eq, decide_eq_true_eq]
    omega
theorem ref_over_f {s c i d s' c' i' d' : Int} (h : Lab s c i d) (h' : Lab s' c' i' d') : donjonref4_Over.f s c i d s' c' i' d' = some (overV s c i d s' c' i' d') := by
  obtain ⟨a1, a2, a3, a4, a5, a6, a7, a8⟩ := h
  obtain ⟨b1, b2, b3, b4, b5, b6, b7, b8⟩ := h'
  unfold donjonref4_Over.f overV
  rw [and_i64 a3 (by omega) b3 (by omega), and_i64 a7 (by omega) b7 (by omega)]
  by_cases h1 : s' ≤ s
  · rw [if_pos h1, decide_eq_true h1, Bool.true_and]
    by_cases h2 : c.toNat &&& c'.toNat = c'.toNat
    · rw [if_pos (by omega), decide_eq_true h2, Bool.true_and]
      by_cases h3 : i ≤ i'
      · rw [if_pos h3, decide_eq_true h3, Bool.true_and]
        congr 1
        rw [Bool.eq_iff_iff]
        simp only [beq_iff_eq, decide_eq_true_eq]
        omega
      · rw [if_neg h3, decide_eq_false h3, Bool.false_and]
    · rw [if_neg (by omega), decide_eq_false h2, Bool.false_and]
  · rw [if_neg h1, decide_eq_false h1, Bool.false_and]
/-- In order: none is less than one ahead of it. -/
def SortedS (l : List SL) : Prop := l.Pairwise fun x y => lessS y x = false
theorem lessS_asym {x y : SL} (h : lessS x y = true) : lessS y x = false := by
  cases h2 : lessS y x
  · rfl
  · have := lessS_trans h h2
    rw [lessS_irrefl] at this
    cases this
theorem eq_of_sorted : ∀ {l l' : List SL}, SortedS l → SortedS l' → l.Perm l' → l = l'
  | [], l', _, _, hp => hp.nil_eq
  | a :: l, [], _, _, hp => absurd hp.length_eq (by simp)
  | a :: l, b :: l', h, h', hp => by
    obtain ⟨h1, h2⟩ := List.pairwise_cons.1 h
    obtain ⟨h1', h2'⟩ := List.pairwise_cons.1 h'
    have hab : a = b := by
      rcases List.mem_cons.1 (hp.mem_iff.1 List.mem_cons_self) with e | ha
      · exact e
      · rcases List.mem_cons.1 (hp.mem_iff.2 List.mem_cons_self) with e | hb
        · exact e.symm
        · exact lessS_tot (h1' a ha) (h1 b hb)
    subst hab
    rw [eq_of_sorted h2 h2' hp.cons_inv]
theorem sortS_sorted (l : List SL) : SortedS (sortS l) := by
  have h := List.pairwise_mergeSort (le := fun x y : SL => !lessS y x) (fun a b c h1 h2 => by
    simp only [Bool.not_eq_true'] at h1 h2 ⊢
    exact lessS_ntrans h2 h1) (fun a b => by
    cases h2 : lessS b a
    · simp
    · rw [lessS_asym h2]; rfl) l
  exact h.imp (fun h => by simpa using h)
theorem labOk.lab {x : SL} (h : labOk x) : Lab x.f0 x.f1 x.f2 x.f3 := by
  obtain ⟨h0, h2, h1, h3⟩ := h
  exact ⟨by omega, by omega, by omega, by omega, by omega, by omega, by omega, by omega⟩
theorem over_ref {x y : SL} (hx : labOk x) (hy : labOk y) (h : overS x y = true) : donjonref4_Over.f x.f0 x.f1 x.f2 x.f3 y.f0 y.f1 y.f2 y.f3 = some true := by
  have h1 := over_f (labOk.lab hx) (labOk.lab hy)
  rw [over_S, Option.some.injEq] at h1
  rw [ref_over_f (labOk.lab hx) (labOk.lab hy), ← h1, h]
theorem flatMap_sub {f g : SL → List SE} (h : ∀ x, (f x).Sublist (g x)) : ∀ {l1 l2 : List SL}, l1.Sublist l2 → (l1.flatMap f).Sublist (l2.flatMap g)
  | _, _, .slnil => by simp
  | _, _, .cons x s => by
    rw [List.flatMap_cons]
    exact (flatMap_sub h s).trans (List.sublist_append_right _ _)
  | _, _, .cons_cons x s => by
    rw [List.flatMap_cons, List.flatMap_cons]
    exact (h x).append (flatMap_sub h s)
theorem flatMap_filter_ne (f : SL → List SE) : ∀ l : List SL, (l.filter fun x => !(f x).isEmpty).flatMap f = l.flatMap f
  | [] => rfl
  | x :: l => by
    rw [List.filter_cons, List.flatMap_cons]
    by_cases h : f x = []
    · rw [h]
      simpa using flatMap_filter_ne f l
    · have h1 : (!(f x).isEmpty) = true := by simpa using h
      rw [if_pos h1, List.flatMap_cons, flatMap_filter_ne f l]
/-- What was seen is seen again, in its order. -/
theorem seen_sub {rows0 rows1 : SL → List SE} {a : SL} {ats0 ats1 : List SL} (h0 : Seen rows0 a ats0) (h1 : Seen rows1 a ats1) (hp : ∀ y, (rows0 y).Sublist (rows1 y)) : ((sortS ats0).flatMap rows0).Sublist ((sortS ats1).flatMap rows1) := by
  rw [← flatMap_filter_ne rows0 (sortS ats0)]
  refine flatMap_sub hp ?_
  have hs0 : SortedS ((sortS ats0).filter fun x => !(rows0 x).isEmpty) := List.Pairwise.sublist List.filter_sublist (sortS_sorted ats0)
  have hn0 : ((sortS ats0).filter fun x => !(rows0 x).isEmpty).Nodup := List.Nodup.sublist List.filter_sublist ((sortS_perm2 ats0).nodup_iff.2 h0.2.1)
  have hm0 : ∀ y, y ∈ ((sortS ats0).filter fun x => !(rows0 x).isEmpty) → y ∈ sortS ats1 := fun y hy => by
    obtain ⟨h2, h3⟩ := List.mem_filter.1 hy
    have h4 := (sortS_perm2 ats0).mem_iff.1 h2
    refine (sortS_perm2 ats1).mem_iff.2 (h1.2.2 y (h0.1 y h4).1 (h0.1 y h4).2 (fun e => ?_))
    have h5 := (hp y)
    rw [e, List.sublist_nil] at h5
    rw [h5] at h3
    simp at h3
  generalize ((sortS ats0).filter fun x => !(rows0 x).isEmpty) = F at hs0 hn0 hm0
  have e : F = (sortS ats1).filter (fun y => decide (y ∈ F)) := by
    refine eq_of_sorted hs0 (List.Pairwise.sublist List.filter_sublist (sortS_sorted ats1)) ?_
    refine (List.perm_ext_iff_of_nodup hn0 (List.Nodup.sublist List.filter_sublist ((sortS_perm2 ats1).nodup_iff.2 h1.2.1))).2 (fun y => ?_)
    rw [List.mem_filter, decide_eq_true_eq]
    exact ⟨fun hy => ⟨hm0 y hy, hy⟩, fun hy => hy.2⟩
  rw [e]
  exact List.filter_sublist
/-- The rows of a log that is made by adding: each label's own, and no more than were added. -/
def RowsOk (rows : SL → List SE) (i : Nat) : Prop := (∀ y, (rows y).length ≤ i) ∧ ∀ y, ∀ e ∈ rows y, e.f1 = y ∧ labOk y
def addR (rows : SL → List SE) (e : SE) : SL → List SE := updR rows e.f1 (rows e.f1 ++ [(⟨((rows e.f1).length : Int) + 1, e.f1, e.f2, e.f3, e.f4, e.f5⟩ : SE)])
theorem RowsOk.add {rows : SL → List SE} {i : Nat} (h : RowsOk rows i) {e : SE} (he : labOk e.f1) : RowsOk (addR rows e) (i + 1) := by
  refine ⟨fun y => ?_, fun y x hx => ?_⟩
  · unfold addR updR
    split
    · have := h.1 e.f1
      simp only [List.length_append, List.length_singleton]
      omega
    · have := h.1 y
      omega
  · unfold addR updR at hx
    split at hx
    · rename_i hy
      subst hy
      rcases List.mem_append.1 hx with h1 | h1
      · exact h.2 _ x h1
      · obtain rfl := List.mem_singleton.1 h1
        exact ⟨rfl, he⟩
    · exact h.2 y x hx
theorem addR_sub (rows : SL → List SE) (e : SE) (y : SL) : (rows y) <+: (addR rows e y) := by
  unfold addR updR
  split
  · rename_i hy
    subst hy
    exact List.prefix_append _ _
  · exact List.prefix_rfl
theorem same_l0 (l : List SE) (hl : l.length ≤ 1000000) : ∀ (d k : Nat) (i : Int), 0 ≤ i → i + d = (l.length : Int) → d < k → donjonlaw14_same.l0 k l l i = some true
  | 0, k + 1, i, h0, h1, _ => by
    rw [donjonlaw14_same.l0, if_neg (by omega)]
  | d + 1, k + 1, i, h0, h1, hk => by
    rw [donjonlaw14_same.l0, if_pos (by omega), if_pos h0, if_pos (by omega)]
    simp only [beq_self_eq_true, Bool.not_true, Bool.or_self, Bool.false_eq_true, if_false]
    rw [wrap64_id (by omega) (by omega)]
    exact same_l0 l hl d k (i + 1) (by omega) (by omega) (by omega)
theorem same_self (l : List SE) (hl : l.length ≤ 1000000) : donjonlaw14_same.f (l.length + 1) l l = some true := by
  unfold donjonlaw14_same.f
  rw [if_pos rfl]
  exact same_l0 l hl l.length _ 0 (by omega) (by omega) (Nat.lt_succ_self _)
/-- One step of the count: the row that is left holds what is still to come. -/
theorem sub_step {x : SE} {t r : List SE} {y : SE} (h : (y :: t).Sublist (x :: r)) : (x = y → t.Sublist r) ∧ (x ≠ y → (y :: t).Sublist r) := by
  refine ⟨fun e => ?_, fun e => ?_⟩
  · subst e
    exact List.cons_sublist_cons.1 h
  · cases h with
    | cons _ h => exact h
    | cons_cons _ h => exact absurd rfl e
theorem RowsOk.mono {rows : SL → List SE} {i j : Nat} (h : RowsOk rows i) (hij : i ≤ j) : RowsOk rows j := ⟨fun y => Nat.le_trans (h.1 y) hij, h.2⟩
theorem LogIs.mono {w : World} {lb mb n n' base : Nat} {hdr : SL → Value} {rows : SL → List SE} (h : LogIs w lb mb n base hdr rows) (hn : n ≤ n') : LogIs w lb mb n' base hdr rows := ⟨h.1, h.2.1.mono hn, h.2.2⟩
/-- Whatever may be is taken, or its label is full. -/
theorem log_Add_any {w : World} {lb mb n base : Nat} {hdr : SL → Value} {rows : SL → List SE} (h : LogIs w lb mb n base hdr rows) (e : SE) (hm : mayE e) (hn : n < maxLen) (hbase : base ≤ w.heap.size) :
    Calls Tryd.prog 13 #[.pointer (some ⟨lb, 0, none⟩), ev e] w fun r w' => ∃ (rv : Int) (hdr' : SL → Value) (rows' : SL → List SE), r = .returned (.int .i64 rv) ∧ LogIs w' lb mb (n + 1) base hdr' rows' ∧ LogStep w w' mb hdr ∧ (∀ k, k < w.heap.size → okA hdr k → okA hdr' k) ∧ (rows' = rows ∨ rows' = addR rows e) := by
  by_cases hf : (rows e.f1).length < 40
  · refine (log_Add_ok h e hm hf hn hbase).mono ?_
    rintro r w' ⟨rfl, hdr', hL, hS, hok⟩
    exact ⟨0, hdr', _, rfl, hL, hS, hok, .inr rfl⟩
  · refine (log_Add_full h e hm (by omega)).mono ?_
    rintro r w' ⟨rfl, hb⟩
    exact ⟨18, hdr, rows, rfl, LogIs.mono (h.below hb) (Nat.le_succ _), LogStep.of_below hb mb hdr, fun _ _ ho => ho, .inl rfl⟩
theorem RowsOk.any {rows rows' : SL → List SE} {i : Nat} (h : RowsOk rows i) {e : SE} (he : labOk e.f1) (hr : rows' = rows ∨ rows' = addR rows e) : RowsOk rows' (i + 1) := by
  rcases hr with rfl | rfl
  · exact h.mono (Nat.le_succ _)
  · exact h.add he
theorem any_sub {rows rows' : SL → List SE} {e : SE} (hr : rows' = rows ∨ rows' = addR rows e) (y : SL) : (rows y) <+: (rows' y) := by
  rcases hr with rfl | rfl
  · exact List.prefix_rfl
  · exact addR_sub rows e y
/-- Rows that were handed out lie beside the log. -/
theorem row_fresh {w w' : World} {lb mb n base b : Nat} {hdr : SL → Value} {rows : SL → List SE} (hL : LogIs w lb mb n base hdr rows) (hb : w.heap.size ≤ b) {v : Value} {xs : List SE} (h : RE w' b (fun _ => True) v xs) (hbase : base ≤ b) : RE w' base (okA hdr) v xs :=
  Kd.R_lower (Kd.R_mono (Kd.R_bound h) (fun k hk => hL.old (Nat.le_trans hb hk.2.1))) hbase
/-- and stay over an Add. -/
theorem row_add {w w' : World} {mb base : Nat} {hdr hdr' : SL → Value} (s : LogStep w w' mb hdr) (hm : ∃ es c, w.heap[mb]? = some (.map es c)) (hok : ∀ k, k < w.heap.size → okA hdr k → okA hdr' k) {v : Value} {xs : List SE} (h : RE w base (okA hdr) v xs) : RE w' base (okA hdr') v xs :=
  Kd.R_mono (s.row hm h) (fun k hk => hok k hk.2 hk.1)
theorem log_Seen_len {w : World} {lb mb n base : Nat} {hdr : SL → Value} {rows : SL → List SE} (h : LogIs w lb mb n base hdr rows) {a : SL} (ha : okL a) (hn : n ≤ 100000) (hrow : ∀ y, okL y → (rows y).length ≤ 1000) :
    Calls Tryd.prog 20 #[.pointer (some ⟨lb, 0, none⟩), lv a] w fun e w' => ∃ (A : Option Addr) (m c : Nat) (ats : List SL) (sl : List SE), e = .returned (.slice A m c) ∧ Seen rows a ats ∧ (sortS ats).flatMap rows = sl ∧ sl.length = m ∧ RE w' w.heap.size (fun _ => True) (.slice A m c) sl ∧ Below w.heap.size w w' := by
  refine (log_Seen.calls h ha hn hrow).mono ?_
  rintro e w' ⟨v, ats, rfl, hS, hR, hb⟩
  obtain ⟨A, c, rfl⟩ := Kd.R_slice hR
  exact ⟨A, _, c, ats, _, rfl, hS, rfl, rfl, hR, hb⟩
theorem add_zero_ (ad : Addr) : ad.add 0 = ad := by cases ad; rfl
theorem eqE_self {y z : SE} (h : y = z) : (y.f0 == z.f0 && ((y.f1.f0 == z.f1.f0 && (y.f1.f1 == z.f1.f1 && (y.f1.f2 == z.f1.f2 && (y.f1.f3 == z.f1.f3)))) && (y.f2.toList == z.f2.toList && (y.f3 == z.f3 && (y.f4.toList == z.f4.toList && (y.f5 == z.f5)))))) = true := by
  subst h
  simp
theorem eqE_ne {y z : SE} (h : y ≠ z) : (y.f0 == z.f0 && ((y.f1.f0 == z.f1.f0 && (y.f1.f1 == z.f1.f1 && (y.f1.f2 == z.f1.f2 && (y.f1.f3 == z.f1.f3)))) && (y.f2.toList == z.f2.toList && (y.f3 == z.f3 && (y.f4.toList == z.f4.toList && (y.f5 == z.f5)))))) = false := by
  refine Bool.eq_false_iff.2 fun e => h ?_
  simp only [Bool.and_eq_true, beq_iff_eq] at e
  obtain ⟨e0, ⟨e1, e2, e3, e4⟩, e5, e6, e7, e8⟩ := e
  have hb : ∀ a b : ByteArray, a.toList = b.toList → a = b := fun a b h => by
    rw [Go.ByteArray.toList_eq, Go.ByteArray.toList_eq] at h
    obtain ⟨⟨a⟩⟩ := a
    obtain ⟨⟨b⟩⟩ := b
    simpa using h
  have e5' := hb _ _ e5
  have e7' := hb _ _ e7
  obtain ⟨y0, ⟨y1, y2, y3, y4⟩, y5, y6, y7, y8⟩ := y
  obtain ⟨z0, ⟨z1, z2, z3, z4⟩, z5, z6, z7, z8⟩ := z
  simp_all
theorem drop_rd (l : List SE) (k : Int) (h0 : 0 ≤ k) (h : k < (l.length : Int)) : l.drop k.toNat = rd_T26 l k :: l.drop (k + 1).toNat := by
  rw [show (k + 1).toNat = k.toNat + 1 by omega, List.drop_eq_getElem_cons (by omega)]
  unfold rd_T26
  rw [List.getD_eq_getElem?_getD, List.getElem?_eq_getElem (by omega)]
  rfl
end Go.Proofs.YtihknjmibnonjaaDoor.Pure
