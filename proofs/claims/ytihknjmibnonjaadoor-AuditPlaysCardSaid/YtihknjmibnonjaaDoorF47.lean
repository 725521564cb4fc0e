/- Written by a program of this session over the kit's print: YtihknjmibnonjaaDoorF47. -/
import Derived.Test.YtihknjmibnonjaaDoorH
import Derived.Shelf.SlSorted.Search
import Derived.Test.YtihknjmibnonjaaDoorLaid
import Derived.Test.YtihknjmibnonjaaDoorShelf
import Derived.WalkKit
import Derived.BigCall
import Derived.Maps.AppendAt
import Derived.Lib.ItoaLen
namespace Go.Proofs.YtihknjmibnonjaaDoor.X
open Go.RowKit Go.Proofs.YtihknjmibnonjaaDoorW.PrintWords Go.Proofs.YtihknjmibnonjaaDoorW.PrintLast Go.Proofs.YtihknjmibnonjaaDoorW.PrintMore Go.Proofs.YtihknjmibnonjaaDoor.More
attribute [local go_sem] max2_int min2_int max_two min_two max_three min_three max_four min_four binOp_string_leq binOp_string_gtr   -- for this text's walks alone
set_option linter.unusedVariables false
set_option linter.unusedSimpArgs false

/-! ### label_Text: function 47 -/
def fits64 (n : Int) : Prop := -9223372036854775808 ≤ n ∧ n ≤ 9223372036854775807
instance (n : Int) : Decidable (fits64 n) := by unfold fits64; infer_instance
/-- A number's numeral. -/
def numeralB (n : Int) : ByteArray := ⟨(Lib.itoa n).toArray⟩
/-- The four numbers of a label, by their places. -/
def nth4 (a b c d : Int) : Nat → Int
 | 0 => a
 | 1 => b
 | 2 => c
 | _ => d
/-- The numerals of the first k of them. -/
def firstT (a b c d : Int) : Nat → List ByteArray
 | 0 => []
 | k + 1 => firstT a b c d k ++ [numeralB (nth4 a b c d k)]
theorem firstT_len (a b c d : Int) : ∀ k, (firstT a b c d k).length = k
 | 0 => rfl
 | k + 1 => by
  have := firstT_len a b c d k
  simp only [firstT, List.length_append, List.length_singleton]
  omega
/-- A label's text. -/
def textV (a b c d : Int) : ByteArray := ⟨(Lib.join ((firstT a b c d 4).map (·.data.toList)) [46]).toArray⟩
def label_Text.f (a0_0 : Int) (a0_1 : Int) (a0_2 : Int) (a0_3 : Int) : Option ByteArray := if fits64 a0_0 ∧ fits64 a0_1 ∧ fits64 a0_2 ∧ fits64 a0_3 then some (textV a0_0 a0_1 a0_2 a0_3) else none
theorem label_Text.info : (Tryd.prog.info? 9).map (fun i => (i.zero, i.size, i.bytes)) = some (some (.string ByteArray.empty), 1, 16) := by kernel_rfl
theorem label_Text.short (a b c d : Int) (ha : fits64 a) (hb : fits64 b) (hc : fits64 c) (hd : fits64 d) : (Lib.join ((firstT a b c d 4).map (·.data.toList)) [46]).length ≤ 140737488355328 := by
 have h1 := Lib.itoa_length_le a ha.1 ha.2
 have h2 := Lib.itoa_length_le b hb.1 hb.2
 have h3 := Lib.itoa_length_le c hc.1 hc.2
 have h4 := Lib.itoa_length_le d hd.1 hd.2
 simp only [firstT, nth4, numeralB, List.nil_append, List.cons_append, List.map_cons, List.map_nil, Lib.join]
 simp
 omega
set_option maxRecDepth 100000 in
/-- The four numbers of a label, as an array. -/
theorem label_Text.numbers (a b c d : Int) (w : World) : Calls Tryd.prog 63 #[.agg #[.int .i64 a, .int .i64 b, .int .i64 c, .int .i64 d]] w fun e w' => e = .returned (.agg #[.int .i64 a, .int .i64 b, .int .i64 c, .int .i64 d]) ∧ Below w.heap.size w w' := by
 go_enter Tryd.func63, Tryd.ntmps63
 go_wp2
 refine bodyPost_ret (results_cell_row rfl _ _ (w.heap.size + 1) 86 #[.int .i64 a, .int .i64 b, .int .i64 c, .int .i64 d] (0, 0) _ rfl (heap_alloc2_new w _ _) Tryd.underlying86 rfl (by kernel_rfl)) rfl ?_
 exact ⟨rfl, by repeat (first | exact Below.refl _ _ | refine Below.alloc ?_ (by simp) _ | refine Below.drew ?_)⟩
set_option maxRecDepth 100000 in
set_option maxHeartbeats 4000000 in
theorem label_Text.calls (a0_0 : Int) (a0_1 : Int) (a0_2 : Int) (a0_3 : Int) (r : ByteArray) (w : World) (hG : Laid w) (h : label_Text.f a0_0 a0_1 a0_2 a0_3 = some r) :
  Calls Tryd.prog 47 #[.agg #[.int .i64 a0_0, .int .i64 a0_1, .int .i64 a0_2, .int .i64 a0_3]] w fun e w' => e = .returned (.string r) ∧ Below w.heap.size w w' := by
 have hfit : fits64 a0_0 ∧ fits64 a0_1 ∧ fits64 a0_2 ∧ fits64 a0_3 := by
  by_cases h1 : fits64 a0_0 ∧ fits64 a0_1 ∧ fits64 a0_2 ∧ fits64 a0_3
  ·exact h1
  ·unfold label_Text.f at h
   rw [if_neg h1] at h
   exact absurd h (by simp)
 have hr : textV a0_0 a0_1 a0_2 a0_3 = r := by
  unfold label_Text.f at h
  rw [if_pos hfit] at h
  exact Option.some.inj h
 subst hr
 have HLn : Hid ((Lib.join ((firstT a0_0 a0_1 a0_2 a0_3 4).map (·.data.toList)) [46]).length ≤ 140737488355328) := label_Text.short a0_0 a0_1 a0_2 a0_3 hfit.1 hfit.2.1 hfit.2.2.1 hfit.2.2.2
 have hnf : ∀ k, fits64 (nth4 a0_0 a0_1 a0_2 a0_3 k) := fun k => by
  match k with
  | 0 => exact hfit.1
  | 1 => exact hfit.2.1
  | 2 => exact hfit.2.2.1
  | _ + 3 => exact hfit.2.2.2
 have HF := Aside0.mk hnf
 have HG := Aside0.mk hG
 clear h hfit hnf hG
 obtain ⟨i0, hi, hz0, hz1, hz2⟩ := info_parts label_Text.info
 go_enter Tryd.func47, Tryd.ntmps47
 go_wp2_with (go_at_call 63; refine (label_Text.numbers a0_0 a0_1 a0_2 a0_3 _).mono ?_; rintro e w1 ⟨rfl, hb1⟩)
 have hb0 : Below w.heap.size w w1 := by
  have h1 := (Below.refl w.heap.size w).alloc (Nat.le_refl _) (.cells #[.int .i64 a0_0, .int .i64 a0_1, .int .i64 a0_2, .int .i64 a0_3] 23)
  exact h1.trans (hb1.mono (by simp))
 go_loopw [3, 8] (fun v i wr => ∃ (k : Nat) (ao : Option Addr) (cv : Nat), k ≤ 4 ∧ i = .int .i64 k ∧ v = .slice ao (firstT a0_0 a0_1 a0_2 a0_3 k).length cv ∧ wr.ownsRow w.heap.size 9 1 v (firstT a0_0 a0_1 a0_2 a0_3 k).length ((firstT a0_0 a0_1 a0_2 a0_3 k).map Value.string) ∧ Below w.heap.size w wr)
  (fun _ i _ => 4 - (intOf i).toNat)
 case atStart => exact ⟨0, none, 0, Nat.zero_le _, rfl, rfl, World.ownsRow_nil _ _ _ _, hb0⟩
 case round =>
  obtain ⟨k, ao, cv, hk, rfl, rfl, hown, hnx⟩ := hrel
  have hsize := hnx.size
  rcases (show k = 0 ∨ k = 1 ∨ k = 2 ∨ k = 3 ∨ k = 4 from by omega) with rfl | rfl | rfl | rfl | rfl
  ·have hi4 : ∀ w : World, (Instr.index 86 (.agg #[.int .i64 a0_0, .int .i64 a0_1, .int .i64 a0_2, .int .i64 a0_3]) (.int .i64 0)).run Tryd.prog w = .ok (.int .i64 a0_0) w := fun _ => by kernel_rfl
   have hT := Laid.below HG.out hnx
   have hfk : fits64 a0_0 := HF.out 0
   go_wp2_with (first
    | (go_at_call 46; refine (Tryd.strconv_Itoa a0_0 hfk.1 hfk.2 _ hT).mono ?_; rintro e w2 ⟨rfl, q, os, hw2⟩; have hbi : Below wr.heap.size wr w2 := (by rw [hw2]; exact below_grown_sl _ wr q os (Nat.le_refl _)); clear hw2)
    | (at_builtin; refine wpList_append_own _ rfl _ _ 73 rfl w.heap.size 9 i0 (.string ByteArray.empty) 1 16 Tryd.underlying73 hi hz0 hz1 hz2 rfl (by decide) _ _ _ rfl ((pw_own_below hown hbi).alloc _) ⟨w2.heap.size, 0, none⟩ 1 1 [.string (numeralB a0_0)] rfl rfl (cell_one_new _ _ _) (fun x hx => by simp at hx; subst hx; rfl) (by unfold maxLen; simp [firstT]) (by simp [firstT]) (by simp; have := hbi.size; omega) ?_; intro v' w3 hown' hgrow3 hnil3))
   go_roundw
   case rel =>
    obtain ⟨g3, cap3, hv3⟩ : ∃ g3 cap3, v' = .slice (some ⟨g3, 0, none⟩) ((firstT a0_0 a0_1 a0_2 a0_3 0).length + 1) cap3 := by
     rcases hown'.2 with ⟨_, h⟩ | ⟨g3, cap3, _, h, _⟩
     ·omega
     ·exact ⟨g3, cap3, h⟩
    have R : 1 ≤ 4 ∧ Value.int .i64 (0 + 1) = .int .i64 ((1 : Nat) : Int) ∧ v' = .slice (some ⟨g3, 0, none⟩) (firstT a0_0 a0_1 a0_2 a0_3 1).length cap3 ∧ w3.ownsRow w.heap.size 9 1 v' (firstT a0_0 a0_1 a0_2 a0_3 1).length ((firstT a0_0 a0_1 a0_2 a0_3 1).map Value.string) ∧ Below w.heap.size w w3 :=
     ⟨by omega, by first | rfl | simp, by rw [hv3]; simp [firstT], by rw [show firstT a0_0 a0_1 a0_2 a0_3 1 = firstT a0_0 a0_1 a0_2 a0_3 0 ++ [numeralB a0_0] from rfl, List.map_append, List.length_append]; exact hown', ((hnx.trans (hbi.mono hsize)).alloc (Nat.le_trans hsize hbi.size) _).grown hgrow3 (by simp; have := hbi.size; omega) (fun q hq => (hown.lt q hq).1)⟩
    first
     | exact ⟨1, some ⟨g3, 0, none⟩, cap3, R⟩
     | ((repeat apply Exists.intro); exact ⟨⟨1, some ⟨g3, 0, none⟩, cap3, R⟩, rfl⟩)
   case measure => simp [intOf]
  ·have hi4 : ∀ w : World, (Instr.index 86 (.agg #[.int .i64 a0_0, .int .i64 a0_1, .int .i64 a0_2, .int .i64 a0_3]) (.int .i64 1)).run Tryd.prog w = .ok (.int .i64 a0_1) w := fun _ => by kernel_rfl
   have hT := Laid.below HG.out hnx
   have hfk : fits64 a0_1 := HF.out 1
   go_wp2_with (first
    | (go_at_call 46; refine (Tryd.strconv_Itoa a0_1 hfk.1 hfk.2 _ hT).mono ?_; rintro e w2 ⟨rfl, q, os, hw2⟩; have hbi : Below wr.heap.size wr w2 := (by rw [hw2]; exact below_grown_sl _ wr q os (Nat.le_refl _)); clear hw2)
    | (at_builtin; refine wpList_append_own _ rfl _ _ 73 rfl w.heap.size 9 i0 (.string ByteArray.empty) 1 16 Tryd.underlying73 hi hz0 hz1 hz2 rfl (by decide) _ _ _ rfl ((pw_own_below hown hbi).alloc _) ⟨w2.heap.size, 0, none⟩ 1 1 [.string (numeralB a0_1)] rfl rfl (cell_one_new _ _ _) (fun x hx => by simp at hx; subst hx; rfl) (by unfold maxLen; simp [firstT]) (by simp [firstT]) (by simp; have := hbi.size; omega) ?_; intro v' w3 hown' hgrow3 hnil3))
   go_roundw
   case rel =>
    obtain ⟨g3, cap3, hv3⟩ : ∃ g3 cap3, v' = .slice (some ⟨g3, 0, none⟩) ((firstT a0_0 a0_1 a0_2 a0_3 1).length + 1) cap3 := by
     rcases hown'.2 with ⟨_, h⟩ | ⟨g3, cap3, _, h, _⟩
     ·omega
     ·exact ⟨g3, cap3, h⟩
    have R : 2 ≤ 4 ∧ Value.int .i64 (1 + 1) = .int .i64 ((2 : Nat) : Int) ∧ v' = .slice (some ⟨g3, 0, none⟩) (firstT a0_0 a0_1 a0_2 a0_3 2).length cap3 ∧ w3.ownsRow w.heap.size 9 1 v' (firstT a0_0 a0_1 a0_2 a0_3 2).length ((firstT a0_0 a0_1 a0_2 a0_3 2).map Value.string) ∧ Below w.heap.size w w3 :=
     ⟨by omega, by first | rfl | simp, by rw [hv3]; simp [firstT], by rw [show firstT a0_0 a0_1 a0_2 a0_3 2 = firstT a0_0 a0_1 a0_2 a0_3 1 ++ [numeralB a0_1] from rfl, List.map_append, List.length_append]; exact hown', ((hnx.trans (hbi.mono hsize)).alloc (Nat.le_trans hsize hbi.size) _).grown hgrow3 (by simp; have := hbi.size; omega) (fun q hq => (hown.lt q hq).1)⟩
    first
     | exact ⟨2, some ⟨g3, 0, none⟩, cap3, R⟩
     | ((repeat apply Exists.intro); exact ⟨⟨2, some ⟨g3, 0, none⟩, cap3, R⟩, rfl⟩)
   case measure => simp [intOf]
  ·have hi4 : ∀ w : World, (Instr.index 86 (.agg #[.int .i64 a0_0, .int .i64 a0_1, .int .i64 a0_2, .int .i64 a0_3]) (.int .i64 2)).run Tryd.prog w = .ok (.int .i64 a0_2) w := fun _ => by kernel_rfl
   have hT := Laid.below HG.out hnx
   have hfk : fits64 a0_2 := HF.out 2
   go_wp2_with (first
    | (go_at_call 46; refine (Tryd.strconv_Itoa a0_2 hfk.1 hfk.2 _ hT).mono ?_; rintro e w2 ⟨rfl, q, os, hw2⟩; have hbi : Below wr.heap.size wr w2 := (by rw [hw2]; exact below_grown_sl _ wr q os (Nat.le_refl _)); clear hw2)
    | (at_builtin; refine wpList_append_own _ rfl _ _ 73 rfl w.heap.size 9 i0 (.string ByteArray.empty) 1 16 Tryd.underlying73 hi hz0 hz1 hz2 rfl (by decide) _ _ _ rfl ((pw_own_below hown hbi).alloc _) ⟨w2.heap.size, 0, none⟩ 1 1 [.string (numeralB a0_2)] rfl rfl (cell_one_new _ _ _) (fun x hx => by simp at hx; subst hx; rfl) (by unfold maxLen; simp [firstT]) (by simp [firstT]) (by simp; have := hbi.size; omega) ?_; intro v' w3 hown' hgrow3 hnil3))
   go_roundw
   case rel =>
    obtain ⟨g3, cap3, hv3⟩ : ∃ g3 cap3, v' = .slice (some ⟨g3, 0, none⟩) ((firstT a0_0 a0_1 a0_2 a0_3 2).length + 1) cap3 := by
     rcases hown'.2 with ⟨_, h⟩ | ⟨g3, cap3, _, h, _⟩
     ·omega
     ·exact ⟨g3, cap3, h⟩
    have R : 3 ≤ 4 ∧ Value.int .i64 (2 + 1) = .int .i64 ((3 : Nat) : Int) ∧ v' = .slice (some ⟨g3, 0, none⟩) (firstT a0_0 a0_1 a0_2 a0_3 3).length cap3 ∧ w3.ownsRow w.heap.size 9 1 v' (firstT a0_0 a0_1 a0_2 a0_3 3).length ((firstT a0_0 a0_1 a0_2 a0_3 3).map Value.string) ∧ Below w.heap.size w w3 :=
     ⟨by omega, by first | rfl | simp, by rw [hv3]; simp [firstT], by rw [show firstT a0_0 a0_1 a0_2 a0_3 3 = firstT a0_0 a0_1 a0_2 a0_3 2 ++ [numeralB a0_2] from rfl, List.map_append, List.length_append]; exact hown', ((hnx.trans (hbi.mono hsize)).alloc (Nat.le_trans hsize hbi.size) _).grown hgrow3 (by simp; have := hbi.size; omega) (fun q hq => (hown.lt q hq).1)⟩
    first
     | exact ⟨3, some ⟨g3, 0, none⟩, cap3, R⟩
     | ((repeat apply Exists.intro); exact ⟨⟨3, some ⟨g3, 0, none⟩, cap3, R⟩, rfl⟩)
   case measure => simp [intOf]
  ·have hi4 : ∀ w : World, (Instr.index 86 (.agg #[.int .i64 a0_0, .int .i64 a0_1, .int .i64 a0_2, .int .i64 a0_3]) (.int .i64 3)).run Tryd.prog w = .ok (.int .i64 a0_3) w := fun _ => by kernel_rfl
   have hT := Laid.below HG.out hnx
   have hfk : fits64 a0_3 := HF.out 3
   go_wp2_with (first
    | (go_at_call 46; refine (Tryd.strconv_Itoa a0_3 hfk.1 hfk.2 _ hT).mono ?_; rintro e w2 ⟨rfl, q, os, hw2⟩; have hbi : Below wr.heap.size wr w2 := (by rw [hw2]; exact below_grown_sl _ wr q os (Nat.le_refl _)); clear hw2)
    | (at_builtin; refine wpList_append_own _ rfl _ _ 73 rfl w.heap.size 9 i0 (.string ByteArray.empty) 1 16 Tryd.underlying73 hi hz0 hz1 hz2 rfl (by decide) _ _ _ rfl ((pw_own_below hown hbi).alloc _) ⟨w2.heap.size, 0, none⟩ 1 1 [.string (numeralB a0_3)] rfl rfl (cell_one_new _ _ _) (fun x hx => by simp at hx; subst hx; rfl) (by unfold maxLen; simp [firstT]) (by simp [firstT]) (by simp; have := hbi.size; omega) ?_; intro v' w3 hown' hgrow3 hnil3))
   go_roundw
   case rel =>
    obtain ⟨g3, cap3, hv3⟩ : ∃ g3 cap3, v' = .slice (some ⟨g3, 0, none⟩) ((firstT a0_0 a0_1 a0_2 a0_3 3).length + 1) cap3 := by
     rcases hown'.2 with ⟨_, h⟩ | ⟨g3, cap3, _, h, _⟩
     ·omega
     ·exact ⟨g3, cap3, h⟩
    have R : 4 ≤ 4 ∧ Value.int .i64 (3 + 1) = .int .i64 ((4 : Nat) : Int) ∧ v' = .slice (some ⟨g3, 0, none⟩) (firstT a0_0 a0_1 a0_2 a0_3 4).length cap3 ∧ w3.ownsRow w.heap.size 9 1 v' (firstT a0_0 a0_1 a0_2 a0_3 4).length ((firstT a0_0 a0_1 a0_2 a0_3 4).map Value.string) ∧ Below w.heap.size w w3 :=
     ⟨by omega, by first | rfl | simp, by rw [hv3]; simp [firstT], by rw [show firstT a0_0 a0_1 a0_2 a0_3 4 = firstT a0_0 a0_1 a0_2 a0_3 3 ++ [numeralB a0_3] from rfl, List.map_append, List.length_append]; exact hown', ((hnx.trans (hbi.mono hsize)).alloc (Nat.le_trans hsize hbi.size) _).grown hgrow3 (by simp; have := hbi.size; omega) (fun q hq => (hown.lt q hq).1)⟩
    first
     | exact ⟨4, some ⟨g3, 0, none⟩, cap3, R⟩
     | ((repeat apply Exists.intro); exact ⟨⟨4, some ⟨g3, 0, none⟩, cap3, R⟩, rfl⟩)
   case measure => simp [intOf]
  ·obtain ⟨g, hao⟩ : ∃ g, ao = some ⟨g, 0, none⟩ := by
    rcases hown.2 with ⟨_, h⟩ | ⟨g, cap, _, h, _⟩
    ·exact absurd h (by rw [firstT_len]; decide)
    ·simp only [Value.slice.injEq] at h
     exact ⟨g, h.1⟩
   subst hao
   have hcells : ∀ (j : Nat) x, (firstT a0_0 a0_1 a0_2 a0_3 4)[j]? = some x → wr.cell? ⟨g, 0 + j, none⟩ = some (.string x) := by
    intro j x hj
    have hjl := (List.getElem?_eq_some_iff.1 hj).1
    rw [Nat.zero_add, hown.cellAt j (by omega)]
    simp [hj]
   have hgl : g < wr.heap.size := World.block_lt_of_cell? _ _ (hcells 0 _ rfl)
   have hcap : (firstT a0_0 a0_1 a0_2 a0_3 4).length ≤ cv := by
    rcases hown.2 with ⟨h, _⟩ | ⟨g', cap, _, h, _, _, hn, _⟩
    ·cases h
    ·simp only [Value.slice.injEq] at h
     omega
   go_wp2_with (go_at_call 45; refine (Tryd.strings_Join g 0 cv (firstT a0_0 a0_1 a0_2 a0_3 4) ⟨#[46]⟩ _ hcells hgl (by rw [firstT_len]; decide) hcap HLn.out).mono ?_; rintro e w' ⟨rfl, hb5⟩)
   go_ret
   exact ⟨rfl, hnx.trans (hb5.mono hsize)⟩

end Go.Proofs.YtihknjmibnonjaaDoor.X
