/- slices.SortFunc at labels, under label.Less: the row holds core's mergeSort. -/
import Derived.Test.YtinbhijeonghaaaQLess
import Derived.Test.YtinbhijeonghaaaMapL
import Derived.Shelf.SlSortCmp.NoneTotal
namespace Go.Proofs.Ytinbhijeonghaaa.X
open Go.RowKit Go.Proofs.YtinbhijeonghaaaW.PrintWords Go.Proofs.YtinbhijeonghaaaW.PrintLast Go.Proofs.YtinbhijeonghaaaW.PrintMore Go.Proofs.Ytinbhijeonghaaa.More
set_option linter.unusedVariables false
set_option linter.unusedSimpArgs false
def sort_ren : Go.Shelf.Ren := ⟨fun | 6 => 31 | 14 => 40 | 15 => 41 | 20 => 44 | 21 => 45 | 22 => 46 | 23 => 47 | 24 => 48 | 25 => 49 | 26 => 50 | 27 => 51 | 28 => 52 | 29 => 53 | 46 => 55 | 47 => 56 | 48 => 57 | 49 => 58 | 50 => 59 | 57 => 60 | n => n, fun | 0 => 0 | 3 => 3 | 4 => 4 | 5 => 5 | 9 => 9 | 22 => 41 | 24 => 43 | 25 => 63 | 39 => 69 | 45 => 73 | 46 => 74 | 50 => 55 | 53 => 80 | 55 => 82 | 66 => 84 | 70 => 88 | 76 => 90 | 77 => 91 | n => n, fun n => n⟩
theorem sort_lays : SlLaysF0.n6 Try.prog sort_ren where
  mixed := by kernel_rfl
  f6 := ⟨"slices.SortFunc[[]donjon/api.Label,donjon/api.Label]", by decide, by kernel_rfl⟩
  f14 := ⟨"slices.pdqsortCmpFunc[donjon/api.Label]", by decide, by kernel_rfl⟩
  f15 := Try.func41
  f20 := ⟨"slices.insertionSortCmpFunc[donjon/api.Label]", by decide, by kernel_rfl⟩
  f21 := ⟨"slices.heapSortCmpFunc[donjon/api.Label]", by decide, by kernel_rfl⟩
  f22 := ⟨"slices.breakPatternsCmpFunc[donjon/api.Label]", by decide, by kernel_rfl⟩
  f23 := ⟨"slices.choosePivotCmpFunc[donjon/api.Label]", by decide, by kernel_rfl⟩
  f24 := ⟨"slices.reverseRangeCmpFunc[donjon/api.Label]", by decide, by kernel_rfl⟩
  f25 := ⟨"slices.partialInsertionSortCmpFunc[donjon/api.Label]", by decide, by kernel_rfl⟩
  f26 := ⟨"slices.partitionEqualCmpFunc[donjon/api.Label]", by decide, by kernel_rfl⟩
  f27 := ⟨"slices.partitionCmpFunc[donjon/api.Label]", by decide, by kernel_rfl⟩
  f28 := Try.func52
  f29 := Try.func53
  f46 := ⟨"slices.siftDownCmpFunc[donjon/api.Label]", by decide, by kernel_rfl⟩
  f47 := Try.func56
  f48 := Try.func57
  f49 := ⟨"slices.medianAdjacentCmpFunc[donjon/api.Label]", by decide, by kernel_rfl⟩
  f50 := ⟨"slices.medianCmpFunc[donjon/api.Label]", by decide, by kernel_rfl⟩
  f57 := ⟨"slices.order2CmpFunc[donjon/api.Label]", by decide, by kernel_rfl⟩
  t0 := Try.underlying0
  a0 := Try.isAgg0
  z0 := Try.sizeOf0
  v0 := Try.zeroValue0
  t3 := Try.underlying3
  a3 := Try.isAgg3
  z3 := Try.sizeOf3
  v3 := Try.zeroValue3
  t4 := Try.underlying4
  a4 := Try.isAgg4
  z4 := Try.sizeOf4
  v4 := Try.zeroValue4
  t5 := Try.underlying5
  a5 := Try.isAgg5
  z5 := Try.sizeOf5
  v5 := Try.zeroValue5
  t9 := Try.underlying9
  a9 := Try.isAgg9
  z9 := Try.sizeOf9
  v9 := Try.zeroValue9
  t22 := Try.underlying41
  a22 := Try.isAgg41
  z22 := Try.sizeOf41
  v22 := Try.zeroValue41
  t25 := Try.underlying63
  a25 := Try.isAgg63
  z25 := Try.sizeOf63
  v25 := Try.zeroValue63
  t39 := Try.underlying69
  a39 := Try.isAgg69
  z39 := Try.sizeOf69
  v39 := Try.zeroValue69
  t45 := Try.underlying73
  a45 := Try.isAgg73
  z45 := Try.sizeOf73
  v45 := Try.zeroValue73
  t46 := Try.underlying74
  a46 := Try.isAgg74
  z46 := Try.sizeOf74
  v46 := Try.zeroValue74
  t50 := Try.underlying55
  a50 := Try.isAgg55
  z50 := Try.sizeOf55
  v50 := Try.zeroValue55
  t53 := Try.underlying80
  a53 := Try.isAgg80
  z53 := Try.sizeOf80
  v53 := Try.zeroValue80
  t55 := Try.underlying82
  a55 := Try.isAgg82
  z55 := Try.sizeOf82
  v55 := Try.zeroValue82
  t66 := Try.underlying84
  a66 := Try.isAgg84
  z66 := Try.sizeOf84
  v66 := Try.zeroValue84
  t70 := Try.underlying88
  a70 := Try.isAgg88
  z70 := Try.sizeOf88
  v70 := Try.zeroValue88
  t76 := Try.underlying90
  a76 := Try.isAgg90
  z76 := Try.sizeOf90
  v76 := Try.zeroValue90
  t77 := Try.underlying91
  a77 := Try.isAgg91
  z77 := Try.sizeOf91
  v77 := Try.zeroValue91
instance inhL : Inhabited SL := ⟨⟨0, 0, 0, 0⟩⟩
def lessS (x y : SL) : Bool := lessK x.f0 x.f1 x.f2 x.f3 y.f0 y.f1 y.f2 y.f3 0
theorem lessS_iff (x y : SL) : lessS x y = true ↔ (x.f0 < y.f0 ∨ (x.f0 = y.f0 ∧ (x.f1 < y.f1 ∨ (x.f1 = y.f1 ∧ (x.f2 < y.f2 ∨ (x.f2 = y.f2 ∧ x.f3 < y.f3)))))) := by
  obtain ⟨a, b, c, d⟩ := x
  obtain ⟨a', b', c', d'⟩ := y
  unfold lessS lessK
  dsimp only
  by_cases h1 : a = a' <;> by_cases h2 : b = b' <;> by_cases h3 : c = c' <;> by_cases h4 : d = d' <;> simp [h1, h2, h3, h4]
def cmpS (x y : SL) : Int := if lessS x y = true then -1 else if lessS y x = true then 1 else 0
open Go.Sort in
theorem ltS (x y : SL) : ltOf cmpS x y = lessS x y := by
  unfold ltOf cmpS
  by_cases h1 : lessS x y = true
  · simp [h1]
  · by_cases h2 : lessS y x = true <;> simp [h1, h2]
theorem lessS_irrefl (x : SL) : lessS x x = false := by
  refine Bool.eq_false_iff.2 fun h => ?_
  rw [lessS_iff] at h
  omega
theorem lessS_trans {x y z : SL} (h1 : lessS x y = true) (h2 : lessS y z = true) : lessS x z = true := by
  rw [lessS_iff] at *
  omega
theorem lessS_ntrans {x y z : SL} (h1 : lessS x y = false) (h2 : lessS y z = false) : lessS x z = false := by
  refine Bool.eq_false_iff.2 fun h => ?_
  rw [Bool.eq_false_iff, ne_eq, lessS_iff] at h1 h2
  rw [lessS_iff] at h
  omega
theorem lessS_tot {x y : SL} (h1 : lessS x y = false) (h2 : lessS y x = false) : x = y := by
  rw [Bool.eq_false_iff, ne_eq, lessS_iff] at h1 h2
  obtain ⟨a, b, c, d⟩ := x
  obtain ⟨a', b', c', d'⟩ := y
  dsimp only at h1 h2
  obtain rfl : a = a' := by omega
  obtain rfl : b = b' := by omega
  obtain rfl : c = c' := by omega
  obtain rfl : d = d' := by omega
  rfl
open Go.Sort in
theorem swoS : SWO (ltOf cmpS) where
  irrefl x := by
    rw [ltS]
    exact lessS_irrefl x
  trans x y z h1 h2 := by
    rw [ltS] at *
    exact lessS_trans h1 h2
  ntrans x y z h1 h2 := by
    rw [ltS] at *
    exact lessS_ntrans h1 h2
/-- A label's four cells. -/
def encS (x : SL) : List Value := [.int .i64 x.f0, .int .i64 x.f1, .int .i64 x.f2, .int .i64 x.f3]
set_option maxHeartbeats 4000000 in
set_option maxRecDepth 100000 in
/-- The closure that compares. -/
theorem cmp_calls (x y : SL) (W : World) : Calls Try.prog 32 #[lv x, lv y] W fun e w' => e = .returned (.int .i64 (cmpS x y)) ∧ BelD W w' := by
  obtain ⟨a, b, c, d⟩ := x
  obtain ⟨a', b', c', d'⟩ := y
  obtain ⟨r, hr⟩ : ∃ r, lessS ⟨a, b, c, d⟩ ⟨a', b', c', d'⟩ = r := ⟨_, rfl⟩
  obtain ⟨q, hq⟩ : ∃ q, lessS ⟨a', b', c', d'⟩ ⟨a, b, c, d⟩ = q := ⟨_, rfl⟩
  have h1 := fun W => less_.calls a b c d a' b' c' d' r W (congrArg some hr)
  have h2 := fun W => less_.calls a' b' c' d' a b c d q W (congrArg some hq)
  have he : cmpS ⟨a, b, c, d⟩ ⟨a', b', c', d'⟩ = if r = true then -1 else if q = true then 1 else 0 := by
    unfold cmpS
    rw [hr, hq]
  rw [he]
  clear he hr hq
  unfold lv
  dsimp only
  go_enter Try.func32, Try.ntmps32
  cases r
  · go_wp2_with fail
    refine (h1 _).mono ?_
    clear h1
    rintro e w1 ⟨rfl, hb1⟩
    obtain ⟨hc1, hf1⟩ := old_cells' hb1
    have hz1 := hb1.1.size
    (try simp at hz1)
    have HB1 : Aside0 (BelD W w1) := ⟨beld_then (beld_alloc (beld_alloc (BelD.refl W) _) _) (by simp; omega) hb1⟩
    clear hb1
    have z10 : W.heap.size < w1.heap.size := by omega
    have z11 : W.heap.size + 1 < w1.heap.size := by omega
    cases q
    · go_wp2_with fail
      refine (h2 _).mono ?_
      clear h2
      rintro e w2 ⟨rfl, hb2⟩
      have HB2 : Aside0 (BelD W w2) := ⟨beld_then HB1.out (by omega) hb2⟩
      clear hb2 hc1 hf1
      go_wp2
      go_ret
      exact ⟨rfl, HB2.out⟩
    · go_wp2_with fail
      refine (h2 _).mono ?_
      clear h2
      rintro e w2 ⟨rfl, hb2⟩
      have HB2 : Aside0 (BelD W w2) := ⟨beld_then HB1.out (by omega) hb2⟩
      clear hb2 hc1 hf1
      go_wp2
      go_ret
      exact ⟨rfl, HB2.out⟩
  · go_wp2_with fail
    refine (h1 _).mono ?_
    clear h1
    rintro e w1 ⟨rfl, hb1⟩
    obtain ⟨hc1, hf1⟩ := old_cells' hb1
    have hz1 := hb1.1.size
    (try simp at hz1)
    have HB1 : Aside0 (BelD W w1) := ⟨beld_then (beld_alloc (beld_alloc (BelD.refl W) _) _) (by simp; omega) hb1⟩
    clear hb1
    have z10 : W.heap.size < w1.heap.size := by omega
    have z11 : W.heap.size + 1 < w1.heap.size := by omega
    go_wp2
    go_ret
    exact ⟨rfl, HB1.out⟩
/-! ### The sort of a row of labels -/
theorem encS_len (x : SL) : (encS x).length = 4 := rfl
theorem encS_one (x : SL) : ∀ v ∈ encS x, v.oneCell' = true := by
  intro v hv
  simp only [encS, List.mem_cons, List.not_mem_nil, or_false] at hv
  rcases hv with rfl | rfl | rfl | rfl <;> rfl
theorem flat_length (l : List SL) : (l.flatMap encS).length = l.length * 4 := by
  induction l with
  | nil => rfl
  | cons a r ih => rw [List.flatMap_cons, List.length_append, ih, encS_len, List.length_cons]; omega
theorem flat_block : ∀ (l : List SL) (j : Nat) (x : SL), l[j]? = some x → ((l.flatMap encS).drop (j * 4)).take 4 = encS x
  | [], _, _, h => by simp at h
  | a :: r, 0, x, h => by
    simp only [List.getElem?_cons_zero, Option.some.injEq] at h
    subst h
    rw [List.flatMap_cons, Nat.zero_mul, List.drop_zero, List.take_append_of_le_length (by rw [encS_len]; omega)]
    rfl
  | a :: r, j + 1, x, h => by
    rw [List.getElem?_cons_succ] at h
    rw [List.flatMap_cons, List.drop_append, show (encS a).drop ((j + 1) * 4) = [] from List.drop_eq_nil_of_le (by rw [encS_len]; omega), List.nil_append, encS_len, show (j + 1) * 4 - 4 = j * 4 by omega]
    exact flat_block r j x h
theorem flat_cell (l : List SL) (t : Nat) (h : t < l.length * 4) : (l.flatMap encS)[t]? = some ((encS l.toArray[t / 4]!)[t % 4]!) := by
  have hd : t / 4 < l.length := by omega
  have hb := flat_block l (t / 4) l[t / 4] (List.getElem?_eq_getElem hd)
  have h1 : (((l.flatMap encS).drop (t / 4 * 4)).take 4)[t % 4]? = (l.flatMap encS)[t]? := by
    rw [List.getElem?_take_of_lt (Nat.mod_lt _ (by omega)), List.getElem?_drop]
    congr 1
    omega
  rw [← h1, hb]
  have h2 : l.toArray[t / 4]! = l[t / 4] := by
    rw [getElem!_pos _ _ (by simpa using hd)]
    simp
  rw [h2]
  have h3 : t % 4 < (encS l[t / 4]).length := by rw [encS_len]; exact Nat.mod_lt _ (by omega)
  rw [List.getElem?_eq_getElem h3, getElem!_pos (encS l[t / 4]) (t % 4) h3]
theorem inner_flat {w : World} {base : Nat} {ok : Nat → Prop} {l : List SL} {cs : List Value} (h : Reps (k43.M w base ok) 4 l cs) : cs = l.flatMap encS := by
  refine List.ext_getElem? fun t => ?_
  by_cases ht : t < l.length * 4
  · have hd : t / 4 < l.length := by omega
    have hb := h.2 (t / 4) _ (List.getElem?_eq_getElem hd)
    have hc := k43_openM hb
    have h1 : ∀ ys : List Value, ((ys.drop (t / 4 * 4)).take 4)[t % 4]? = ys[t]? := fun ys => by
      rw [List.getElem?_take_of_lt (Nat.mod_lt _ (by omega)), List.getElem?_drop]
      congr 1
      omega
    rw [← h1 cs, ← h1 (l.flatMap encS), flat_block l (t / 4) _ (List.getElem?_eq_getElem hd), hc]
    rfl
  · rw [List.getElem?_eq_none (by rw [h.1]; omega), List.getElem?_eq_none (by rw [flat_length]; omega)]
theorem flat_reps (w : World) (base : Nat) (ok : Nat → Prop) (l : List SL) : Reps (k43.M w base ok) 4 l (l.flatMap encS) := ⟨flat_length l, fun j x hj => by rw [flat_block l j x hj]; exact k43_mkM w base ok x⟩
/-- Labels in their order. -/
def sortS (l : List SL) : List SL := l.mergeSort fun x y => !lessS y x
theorem sortS_length (l : List SL) : (sortS l).length = l.length := List.length_mergeSort l
open Go.Sort Go.Shelf in
theorem sort_labels (W : World) (base : Nat) (ok : Nat → Prop) (v : Value) (l : List SL) (h : Kd.R k43 43 W base ok v l) (hl : l.length < 4611686018427387904) :
    Calls Try.prog 31 #[v, .func (.func 32) #[] #[]] W fun e w' => e = .returned (.tuple #[]) ∧ Kd.R k43 43 w' base ok v (sortS l) ∧ W.grownBy w' v.ownBlock := by
  obtain ⟨h0, inner, hown, hr⟩ := h
  obtain rfl := inner_flat hr
  rcases hown.2 with ⟨rfl, hn⟩ | ⟨g, cap, cur, rfl, hbase, hb, h1, h2, h3, h4⟩
  · obtain rfl : l = [] := List.eq_nil_of_length_eq_zero hn
    refine (AnyF.slices_SortFunc_none sort_lays none 0 _ W).mono ?_
    rintro e w' ⟨rfl, rfl⟩
    exact ⟨rfl, ⟨h0, [], by simpa [sortS] using hown, by simpa [sortS] using Reps.none _ _⟩, World.grownBy.refl _ _⟩
  · have hg : g < W.heap.size := (Array.getElem?_eq_some_iff.1 hb).1
    have hH : HoldsK encS 4 W g 0 l.toArray := by
      intro j hj
      rw [size_flatK] at hj
      have hj' : j < l.length * 4 := by simpa using hj
      refine ⟨?_, by simp [World.frozen?, hb]⟩
      have h5 : (cur.toList.take (l.length * 4))[j]? = (l.flatMap encS)[j]? := congrArg (fun z : List Value => z[j]?) h4
      rw [List.getElem?_take_of_lt hj', flat_cell l j hj'] at h5
      rw [get_flatK _ _ _ _ hj]
      simp only [World.cell?, hb, Nat.zero_add]
      simp only [Option.isSome_none, Bool.false_eq_true, if_false]
      rw [← Array.getElem?_toList, h5]
      rfl
    have hcmp : CmpLays Try.prog 32 #[] encS 4 cmpS g 0 l.toArray.size W := fun m os dk _ x y => (cmp_calls x y _).mono fun e w' ⟨he, hb⟩ => ⟨he, by
      obtain ⟨q, os', hq⟩ := hb.grows
      exact ⟨q, os', hq⟩⟩
    refine (AnyQ.slices_SortFunc_total sort_lays 4 (fun w => by kernel_rfl) (fun w => by kernel_rfl) encS encS_len encS_one cmpS swoS 32 #[] g 0 cap l.toArray W (fun args w => by kernel_rfl) hcmp hH hg (by simpa using hl) (fun x y a b => lessS_tot (by rwa [ltS] at a) (by rwa [ltS] at b))).mono ?_
    rintro e w' ⟨rfl, m, os, rfl⟩
    have hlen : (sortS l).length = l.length := sortS_length l
    have hcur : cur.size = cap * 4 := h3
    have hflat : flatK encS 4 (sortS l).toArray = ((sortS l).flatMap encS).toArray := by
      apply Array.ext_getElem?
      intro t
      by_cases ht : t < (sortS l).length * 4
      · have h6 : t < (flatK encS 4 (sortS l).toArray).size := by rw [size_flatK]; simpa using ht
        have h7 := get_flatK encS 4 (sortS l).toArray t (by simpa using ht)
        rw [getElem!_pos _ t h6] at h7
        rw [Array.getElem?_eq_getElem h6, h7, List.getElem?_toArray, flat_cell _ t ht]
      · rw [Array.getElem?_eq_none (by rw [size_flatK]; simpa using ht), List.getElem?_toArray, List.getElem?_eq_none (by rw [flat_length]; omega)]
    have hfl : (flatK encS 4 (sortS l).toArray).size = l.length * 4 := by rw [size_flatK]; simp [hlen]
    have hblk : (sortWorldK encS 4 W g 0 m (l.toArray.toList.mergeSort fun x y => !(ltOf cmpS) y x).toArray os).heap[g]? = some (.cells (putCells id 0 (flatK encS 4 (sortS l).toArray) cur) 43 (0, 0)) := by
      rw [show (l.toArray.toList.mergeSort fun x y => !(ltOf cmpS) y x) = sortS l by simp [sortS, ltS]]
      unfold sortWorldK putRowK
      rw [heap_grow_old _ _ (by simpa using hg)]
      simp [putRow, mapBlock, Sort.ahead, Array.getElem?_modify, hb, onCells]
    refine ⟨rfl, ⟨h0, (sortS l).flatMap encS, ?_, flat_reps _ _ _ _⟩, ?_⟩
    · rw [hlen]
      refine ⟨by rw [flat_length, hlen]; rfl, .inr ⟨g, cap, _, rfl, hbase, hblk, h1, h2, by simp [putCells, hcur]; rfl, ?_⟩⟩
      show (putCells id 0 (flatK encS 4 (sortS l).toArray) cur).toList.take (l.length * 4) = _
      apply List.ext_getElem?
      intro t
      by_cases ht : t < l.length * 4
      · rw [List.getElem?_take_of_lt ht, Array.getElem?_toList]
        have htc : t < cur.size := by rw [hcur]; have := Nat.mul_le_mul_right 4 h1; omega
        have h8 : (flatK encS 4 (sortS l).toArray)[t]? = ((sortS l).flatMap encS)[t]? := by rw [hflat, List.getElem?_toArray]
        have h9 : t < (flatK encS 4 (sortS l).toArray).size := by rw [hfl]; exact ht
        rw [← h8, Array.getElem?_eq_getElem h9]
        have h10 : t < (sortS l).length * 4 := by rw [hlen]; exact ht
        have h11 := getElem!_pos (flatK encS 4 (sortS l).toArray) t h9
        simp [putCells, htc, h10, h11]
      · rw [List.getElem?_take_eq_none (by omega), List.getElem?_eq_none (by rw [flat_length, hlen]; omega)]
    · refine ⟨rfl, rfl, rfl, by simp [sortWorldK, putRowK, putRow, mapBlock, Sort.ahead, grow], fun k hk hne => ?_⟩
      unfold sortWorldK putRowK
      rw [heap_grow_old _ _ (by simpa [putRow, mapBlock, Sort.ahead] using hk)]
      have hgk : g ≠ k := fun e => hne (by rw [← e]; rfl)
      simp [putRow, mapBlock, Sort.ahead, Array.getElem?_modify, hgk]
end Go.Proofs.Ytinbhijeonghaaa.X
