/- Parts that several texts share: F72, F73, F50, F51, F52, F53, F29, PStays, PPlays, PPlays2, PPlays3, PText14. -/
import Derived.Test.YtihknjmibnonjaaDoorAAl4
import Derived.Test.YtihknjmibnonjaaDoorPAl5
import Derived.Test.YtihknjmibnonjaaDoorH
import Derived.Test.YtihknjmibnonjaaDoorF22
import Derived.Test.YtihknjmibnonjaaDoorF21
section
/- Written by a program of this session over the kit's print: YtihknjmibnonjaaDoorF72. -/
namespace Go.Proofs.YtihknjmibnonjaaDoor.X
open Go.RowKit Go.Proofs.YtihknjmibnonjaaDoorW.PrintWords Go.Proofs.YtihknjmibnonjaaDoorW.PrintLast Go.Proofs.YtihknjmibnonjaaDoorW.PrintMore Go.Proofs.YtihknjmibnonjaaDoor.More
attribute [local go_sem] max2_int min2_int max_two min_two max_three min_three max_four min_four binOp_string_leq binOp_string_gtr   -- for this text's walks alone
set_option linter.unusedVariables false
set_option linter.unusedSimpArgs false

/-! ### donjonref14_digits: function 72 -/
def donjonref14_digits.f : Nat → Int → Option (ByteArray)
 | 0, _ => none
 | k + 1, a0 => if a0 ≥ 10 then ((donjonref14_digits.f k (IntKind.u64.wrap (Int.tdiv a0 10))).bind fun t101 => ((donjonref14_digits.f k (Int.tmod a0 10)).bind fun t102 => (if t101.size + t102.size ≤ 9223372036854775807 then (some (t101 ++ t102)) else (none)))) else (some (strOfNums (([(IntKind.u64.wrap (48 + a0)) % 256] : List Int))))
set_option maxHeartbeats 8000000 in
set_option maxRecDepth 100000 in
theorem donjonref14_digits.calls (k : Nat) : ∀ (a0 : Int) (r : ByteArray) (w : World) (h : donjonref14_digits.f k a0 = some r),
  Calls Tryd.prog 72 #[.int .u64 a0] w fun e w' => e = .returned (.string r) ∧ Below w.heap.size w w' := by
 induction k using Nat.strongRecOn with
 | _ k ih =>
 intro a0 r w h
 cases k with
 | zero => exact absurd h (by simp [donjonref14_digits.f])
 | succ k =>
 simp only [donjonref14_digits.f] at h
 have HB := Aside0.mk (Below.refl w.heap.size w)
 have H : (if a0 ≥ 10 then ((donjonref14_digits.f k (IntKind.u64.wrap (Int.tdiv a0 10))).bind fun t101 => ((donjonref14_digits.f k (Int.tmod a0 10)).bind fun t102 => (if t101.size + t102.size ≤ 9223372036854775807 then (some (t101 ++ t102)) else (none)))) else (some (strOfNums (([(IntKind.u64.wrap (48 + a0)) % 256] : List Int))))) = some r := h
 clear h
 by_cases c2 : a0 ≥ 10
 ·rw [if_pos c2] at H
  have c2b0 : decide (10 ≤ a0) = true := decide_eq_true c2
  clear c2
  replace H := Option.bind_eq_some_iff.mp H
  obtain ⟨t101, A30, H⟩ := H
  try dsimp only at H
  have A3 := Aside0.mk A30
  clear A30
  replace H := Option.bind_eq_some_iff.mp H
  obtain ⟨t102, A40, H⟩ := H
  try dsimp only at H
  have A4 := Aside0.mk A40
  clear A40
  by_cases c5 : t101.size + t102.size ≤ 9223372036854775807
  ·rw [if_pos c5] at H
   have c5b0 := eq_true c5
   have c5b1 : decide (t101.size + t102.size ≤ 9223372036854775807) = true := decide_eq_true c5
   try have c5b2 : (9223372036854775807 < t101.size + t102.size) = False := eq_false (Nat.not_lt.2 c5)
   obtain rfl := Option.some.inj H
   go_enter Tryd.func72, Tryd.ntmps72
   go_wp2_with (first | ((with_reducible refine gate_callee (f := 72) rfl ?_); refine goesL_ (some 7) rfl rfl Tryd.func72 (by kernel_rfl) rfl #[.int .u64 (IntKind.u64.wrap (Int.tdiv a0 10))] rfl (by (try simp only [List.map_toArray, List.map_cons, List.map_nil]); first | done | rfl | (simp only [List.length_drop, List.length_take]; rfl)) ?_; (with_reducible refine (ih k (by omega) (IntKind.u64.wrap (Int.tdiv a0 10)) t101 _ A3.out).mono ?_); rintro e w6 ⟨rfl, hb⟩; refine ⟨_, rfl, ?_⟩; have n0_ := Aside0.mk (below_step (bl_ HB.out) hb); clear HB; have HB := n0_; clear n0_; (try clear hb); (try clear hb2); (try clear hk); (try clear hi)) | ((with_reducible refine gate_callee (f := 72) rfl ?_); refine goesL_ (some 10) rfl rfl Tryd.func72 (by kernel_rfl) rfl #[.int .u64 (Int.tmod a0 10)] rfl (by (try simp only [List.map_toArray, List.map_cons, List.map_nil]); first | done | rfl | (simp only [List.length_drop, List.length_take]; rfl)) ?_; (with_reducible refine (ih k (by omega) (Int.tmod a0 10) t102 _ A4.out).mono ?_); rintro e w7 ⟨rfl, hb⟩; refine ⟨_, rfl, ?_⟩; have n0_ := Aside0.mk (below_step (bl_ HB.out) hb); clear HB; have HB := n0_; clear n0_; (try clear hb); (try clear hb2); (try clear hk); (try clear hi)))
   go_ret
   exact ⟨by first | rfl | (simp [errW_none, errW_some] <;> rfl) | (simp [*, errW_none, errW_some] <;> rfl), by repeat (first | (with_reducible first | exact HB.out | apply below_alloc | apply pw_below_drewN | apply below_drew1) | exact HB.out)⟩
  ·rw [if_neg c5] at H
   exact absurd H (by simp)
 ·rw [if_neg c2] at H
  have c2b0 : decide (10 ≤ a0) = false := decide_eq_false c2
  clear c2
  obtain ⟨y103, hy103⟩ : ∃ y_ : List Int, y_ = (([(IntKind.u64.wrap (48 + a0)) % 256] : List Int)) := ⟨_, rfl⟩
  replace H : (some (strOfNums y103)) = some r := by first | (rw [hy103]; with_reducible exact H) | (have H2_ := (Option.bind_some _ _).symm.trans H; rw [hy103]; with_reducible exact H2_) | (have H2_ := (Option.bind_some _ _).symm.trans H; with_reducible exact H2_) | with_reducible exact H | (rw [hy103]; exact H) | exact H
  have Ny103 := Aside0.mk hy103
  clear hy103
  obtain rfl := Option.some.inj H
  go_enter Tryd.func72, Tryd.ntmps72
  go_wp2_with (first | ((with_reducible refine gate_dst (N := 15) rfl ?_); refine Kd.R_lit (Kd.int .u8) _ 5 ?hg (N := 15) ?hd (xs := ([(IntKind.u64.wrap (48 + a0)) % 256] : List Int)) (inner := [.int .u8 ((IntKind.u64.wrap (48 + a0)) % 256)]) (ok := fun _ => True) (okp := fun _ => True) ?hr ?hp (fun _ hk => hk) trivial (Below.refl _ _) (Nat.le_refl _) (by simp) ?_; (case hd => rfl); (case hg => rfl); (case hr => first | (go_simp; done) | (go_simp; rfl)); (case hp => exact (Reps.one (show Kd.M (Kd.int .u8) _ _ _ ((IntKind.u64.wrap (48 + a0)) % 256) [.int .u8 ((IntKind.u64.wrap (48 + a0)) % 256)] from rfl) (Reps.none _ _))); intro v104 w8 ho9 hb hg_ hnew_; clear hg_ hnew_; (first | rw [← Ny103.out] at ho9 | (simp only [Int.reduceToNat] at ho9; rw [← Ny103.out] at ho9)); have n0_ := Aside0.mk (Kd.R_lower ho9 (below_size (bl_ HB.out))); have n1_ := Aside0.mk (below_step (bl_ HB.out) hb); clear HB; have HO105 := n0_; have HB := n1_; clear n0_ n1_; clear hb ho9; have hcv10 := own_string (P := Tryd.prog) Tryd.underlying41 Tryd.underlying5 Tryd.underlying9 (Kd.own_of_R HO105.out)))
  go_ret
  exact ⟨by first | rfl | (simp [errW_none, errW_some] <;> rfl) | (simp [*, errW_none, errW_some] <;> rfl), by repeat (first | (with_reducible first | exact HB.out | apply below_alloc | apply pw_below_drewN | apply below_drew1) | exact HB.out)⟩

end Go.Proofs.YtihknjmibnonjaaDoor.X
end

section
/- Written by a program of this session over the kit's print: YtihknjmibnonjaaDoorF73. -/
namespace Go.Proofs.YtihknjmibnonjaaDoor.X
open Go.RowKit Go.Proofs.YtihknjmibnonjaaDoorW.PrintWords Go.Proofs.YtihknjmibnonjaaDoorW.PrintLast Go.Proofs.YtihknjmibnonjaaDoorW.PrintMore Go.Proofs.YtihknjmibnonjaaDoor.More
attribute [local go_sem] max2_int min2_int max_two min_two max_three min_three max_four min_four binOp_string_leq binOp_string_gtr   -- for this text's walks alone
set_option linter.unusedVariables false
set_option linter.unusedSimpArgs false

/-! ### donjonref4_decimal: function 73 -/
def donjonref4_decimal.f : Nat → Int → Option (ByteArray)
 | 0, _ => none
 | k + 1, a0 => if a0 ≥ 10 then ((donjonref4_decimal.f k (wrap64 (Int.tdiv a0 10))).bind fun t101 => ((donjonref4_decimal.f k (Int.tmod a0 10)).bind fun t102 => (if t101.size + t102.size ≤ 9223372036854775807 then (some (t101 ++ t102)) else (none)))) else (some (strOfNums (([(wrap64 (48 + a0)) % 256] : List Int))))
set_option maxHeartbeats 8000000 in
set_option maxRecDepth 100000 in
theorem donjonref4_decimal.calls (k : Nat) : ∀ (a0 : Int) (r : ByteArray) (w : World) (h : donjonref4_decimal.f k a0 = some r),
  Calls Tryd.prog 73 #[.int .i64 a0] w fun e w' => e = .returned (.string r) ∧ Below w.heap.size w w' := by
 induction k using Nat.strongRecOn with
 | _ k ih =>
 intro a0 r w h
 cases k with
 | zero => exact absurd h (by simp [donjonref4_decimal.f])
 | succ k =>
 simp only [donjonref4_decimal.f] at h
 have HB := Aside0.mk (Below.refl w.heap.size w)
 have H : (if a0 ≥ 10 then ((donjonref4_decimal.f k (wrap64 (Int.tdiv a0 10))).bind fun t101 => ((donjonref4_decimal.f k (Int.tmod a0 10)).bind fun t102 => (if t101.size + t102.size ≤ 9223372036854775807 then (some (t101 ++ t102)) else (none)))) else (some (strOfNums (([(wrap64 (48 + a0)) % 256] : List Int))))) = some r := h
 clear h
 by_cases c2 : a0 ≥ 10
 ·rw [if_pos c2] at H
  have c2b0 : decide (10 ≤ a0) = true := decide_eq_true c2
  clear c2
  replace H := Option.bind_eq_some_iff.mp H
  obtain ⟨t101, A30, H⟩ := H
  try dsimp only at H
  have A3 := Aside0.mk A30
  clear A30
  replace H := Option.bind_eq_some_iff.mp H
  obtain ⟨t102, A40, H⟩ := H
  try dsimp only at H
  have A4 := Aside0.mk A40
  clear A40
  by_cases c5 : t101.size + t102.size ≤ 9223372036854775807
  ·rw [if_pos c5] at H
   have c5b0 := eq_true c5
   have c5b1 : decide (t101.size + t102.size ≤ 9223372036854775807) = true := decide_eq_true c5
   try have c5b2 : (9223372036854775807 < t101.size + t102.size) = False := eq_false (Nat.not_lt.2 c5)
   obtain rfl := Option.some.inj H
   go_enter Tryd.func73, Tryd.ntmps73
   go_wp2_with (first | ((with_reducible refine gate_callee (f := 73) rfl ?_); refine goesL_ (some 7) rfl rfl Tryd.func73 (by kernel_rfl) rfl #[.int .i64 (wrap64 (Int.tdiv a0 10))] rfl (by (try simp only [List.map_toArray, List.map_cons, List.map_nil]); first | done | rfl | (simp only [List.length_drop, List.length_take]; rfl)) ?_; (with_reducible refine (ih k (by omega) (wrap64 (Int.tdiv a0 10)) t101 _ A3.out).mono ?_); rintro e w6 ⟨rfl, hb⟩; refine ⟨_, rfl, ?_⟩; have n0_ := Aside0.mk (below_step (bl_ HB.out) hb); clear HB; have HB := n0_; clear n0_; (try clear hb); (try clear hb2); (try clear hk); (try clear hi)) | ((with_reducible refine gate_callee (f := 73) rfl ?_); refine goesL_ (some 10) rfl rfl Tryd.func73 (by kernel_rfl) rfl #[.int .i64 (Int.tmod a0 10)] rfl (by (try simp only [List.map_toArray, List.map_cons, List.map_nil]); first | done | rfl | (simp only [List.length_drop, List.length_take]; rfl)) ?_; (with_reducible refine (ih k (by omega) (Int.tmod a0 10) t102 _ A4.out).mono ?_); rintro e w7 ⟨rfl, hb⟩; refine ⟨_, rfl, ?_⟩; have n0_ := Aside0.mk (below_step (bl_ HB.out) hb); clear HB; have HB := n0_; clear n0_; (try clear hb); (try clear hb2); (try clear hk); (try clear hi)))
   go_ret
   exact ⟨by first | rfl | (simp [errW_none, errW_some] <;> rfl) | (simp [*, errW_none, errW_some] <;> rfl), by repeat (first | (with_reducible first | exact HB.out | apply below_alloc | apply pw_below_drewN | apply below_drew1) | exact HB.out)⟩
  ·rw [if_neg c5] at H
   exact absurd H (by simp)
 ·rw [if_neg c2] at H
  have c2b0 : decide (10 ≤ a0) = false := decide_eq_false c2
  clear c2
  obtain ⟨y103, hy103⟩ : ∃ y_ : List Int, y_ = (([(wrap64 (48 + a0)) % 256] : List Int)) := ⟨_, rfl⟩
  replace H : (some (strOfNums y103)) = some r := by first | (rw [hy103]; with_reducible exact H) | (have H2_ := (Option.bind_some _ _).symm.trans H; rw [hy103]; with_reducible exact H2_) | (have H2_ := (Option.bind_some _ _).symm.trans H; with_reducible exact H2_) | with_reducible exact H | (rw [hy103]; exact H) | exact H
  have Ny103 := Aside0.mk hy103
  clear hy103
  obtain rfl := Option.some.inj H
  go_enter Tryd.func73, Tryd.ntmps73
  go_wp2_with (first | ((with_reducible refine gate_dst (N := 15) rfl ?_); refine Kd.R_lit (Kd.int .u8) _ 5 ?hg (N := 15) ?hd (xs := ([(wrap64 (48 + a0)) % 256] : List Int)) (inner := [.int .u8 ((wrap64 (48 + a0)) % 256)]) (ok := fun _ => True) (okp := fun _ => True) ?hr ?hp (fun _ hk => hk) trivial (Below.refl _ _) (Nat.le_refl _) (by simp) ?_; (case hd => rfl); (case hg => rfl); (case hr => first | (go_simp; done) | (go_simp; rfl)); (case hp => exact (Reps.one (show Kd.M (Kd.int .u8) _ _ _ ((wrap64 (48 + a0)) % 256) [.int .u8 ((wrap64 (48 + a0)) % 256)] from rfl) (Reps.none _ _))); intro v104 w8 ho9 hb hg_ hnew_; clear hg_ hnew_; (first | rw [← Ny103.out] at ho9 | (simp only [Int.reduceToNat] at ho9; rw [← Ny103.out] at ho9)); have n0_ := Aside0.mk (Kd.R_lower ho9 (below_size (bl_ HB.out))); have n1_ := Aside0.mk (below_step (bl_ HB.out) hb); clear HB; have HO105 := n0_; have HB := n1_; clear n0_ n1_; clear hb ho9; have hcv10 := own_string (P := Tryd.prog) Tryd.underlying41 Tryd.underlying5 Tryd.underlying9 (Kd.own_of_R HO105.out)))
  go_ret
  exact ⟨by first | rfl | (simp [errW_none, errW_some] <;> rfl) | (simp [*, errW_none, errW_some] <;> rfl), by repeat (first | (with_reducible first | exact HB.out | apply below_alloc | apply pw_below_drewN | apply below_drew1) | exact HB.out)⟩

end Go.Proofs.YtihknjmibnonjaaDoor.X
end

section
/- Written by a program of this session over the kit's print: YtihknjmibnonjaaDoorF50. -/
namespace Go.Proofs.YtihknjmibnonjaaDoor.X
open Go.RowKit Go.Proofs.YtihknjmibnonjaaDoorW.PrintWords Go.Proofs.YtihknjmibnonjaaDoorW.PrintLast Go.Proofs.YtihknjmibnonjaaDoorW.PrintMore Go.Proofs.YtihknjmibnonjaaDoor.More
attribute [local go_sem] max2_int min2_int max_two min_two max_three min_three max_four min_four binOp_string_leq binOp_string_gtr   -- for this text's walks alone
set_option linter.unusedVariables false
set_option linter.unusedSimpArgs false

/-! ### donjonref14_Decimal: function 50 -/
def donjonref14_Decimal.f (k : Nat) (a0 : Int) : Option (ByteArray) := if a0 < 0 then ((donjonref14_digits.f k (IntKind.u64.wrap (-(IntKind.u64.wrap (a0))))).bind fun t101 => (if 1 + t101.size ≤ 9223372036854775807 then (some ((⟨#[45]⟩ : ByteArray) ++ t101)) else (none))) else ((donjonref14_digits.f k (IntKind.u64.wrap (a0))).bind fun t102 => (some t102))
set_option maxHeartbeats 8000000 in
set_option maxRecDepth 100000 in
theorem donjonref14_Decimal.calls (k : Nat) (a0 : Int) (r : ByteArray) (w : World) (h : donjonref14_Decimal.f k a0 = some r) :
  Calls Tryd.prog 50 #[.int .i64 a0] w fun e w' => e = .returned (.string r) ∧ Below w.heap.size w w' := by
 have HB := Aside0.mk (Below.refl w.heap.size w)
 have H : (if a0 < 0 then ((donjonref14_digits.f k (IntKind.u64.wrap (-(IntKind.u64.wrap (a0))))).bind fun t101 => (if 1 + t101.size ≤ 9223372036854775807 then (some ((⟨#[45]⟩ : ByteArray) ++ t101)) else (none))) else ((donjonref14_digits.f k (IntKind.u64.wrap (a0))).bind fun t102 => (some t102))) = some r := h
 clear h
 by_cases c2 : a0 < 0
 ·rw [if_pos c2] at H
  have c2b0 : decide (a0 < 0) = true := decide_eq_true c2
  clear c2
  replace H := Option.bind_eq_some_iff.mp H
  obtain ⟨t101, A30, H⟩ := H
  try dsimp only at H
  have A3 := Aside0.mk A30
  clear A30
  by_cases c4 : 1 + t101.size ≤ 9223372036854775807
  ·rw [if_pos c4] at H
   have c4b0 := eq_true c4
   have c4b1 : decide (1 + t101.size ≤ 9223372036854775807) = true := decide_eq_true c4
   try have c4b2 : (9223372036854775807 < 1 + t101.size) = False := eq_false (Nat.not_lt.2 c4)
   obtain rfl := Option.some.inj H
   go_enter Tryd.func50, Tryd.ntmps50
   go_wp2_with (first | ((with_reducible refine gate_callee (f := 72) rfl ?_); refine goesL_ (some 8) rfl rfl Tryd.func72 (by kernel_rfl) rfl #[.int .u64 (IntKind.u64.wrap (-(IntKind.u64.wrap (a0))))] rfl (by (try simp only [List.map_toArray, List.map_cons, List.map_nil]); first | done | rfl | (simp only [List.length_drop, List.length_take]; rfl)) ?_; (with_reducible refine (donjonref14_digits.calls k (IntKind.u64.wrap (-(IntKind.u64.wrap (a0)))) t101 _ A3.out).mono ?_); rintro e w5 ⟨rfl, hb⟩; refine ⟨_, rfl, ?_⟩; have n0_ := Aside0.mk (below_step (bl_ HB.out) hb); clear HB; have HB := n0_; clear n0_; (try clear hb); (try clear hb2); (try clear hk); (try clear hi)))
   go_ret
   exact ⟨by first | rfl | (simp [errW_none, errW_some] <;> rfl) | (simp [*, errW_none, errW_some] <;> rfl), by repeat (first | (with_reducible first | exact HB.out | apply below_alloc | apply pw_below_drewN | apply below_drew1) | exact HB.out)⟩
  ·rw [if_neg c4] at H
   exact absurd H (by simp)
 ·rw [if_neg c2] at H
  have c2b0 : decide (a0 < 0) = false := decide_eq_false c2
  clear c2
  replace H := Option.bind_eq_some_iff.mp H
  obtain ⟨t102, A60, H⟩ := H
  try dsimp only at H
  have A6 := Aside0.mk A60
  clear A60
  obtain rfl := Option.some.inj H
  go_enter Tryd.func50, Tryd.ntmps50
  go_wp2_with (first | ((with_reducible refine gate_callee (f := 72) rfl ?_); refine goesL_ (some 12) rfl rfl Tryd.func72 (by kernel_rfl) rfl #[.int .u64 (IntKind.u64.wrap (a0))] rfl (by (try simp only [List.map_toArray, List.map_cons, List.map_nil]); first | done | rfl | (simp only [List.length_drop, List.length_take]; rfl)) ?_; (with_reducible refine (donjonref14_digits.calls k (IntKind.u64.wrap (a0)) t102 _ A6.out).mono ?_); rintro e w7 ⟨rfl, hb⟩; refine ⟨_, rfl, ?_⟩; have n0_ := Aside0.mk (below_step (bl_ HB.out) hb); clear HB; have HB := n0_; clear n0_; (try clear hb); (try clear hb2); (try clear hk); (try clear hi)))
  go_ret
  exact ⟨by first | rfl | (simp [errW_none, errW_some] <;> rfl) | (simp [*, errW_none, errW_some] <;> rfl), by repeat (first | (with_reducible first | exact HB.out | apply below_alloc | apply pw_below_drewN | apply below_drew1) | exact HB.out)⟩

end Go.Proofs.YtihknjmibnonjaaDoor.X
end

section
/- Written by a program of this session over the kit's print: YtihknjmibnonjaaDoorF51. -/
namespace Go.Proofs.YtihknjmibnonjaaDoor.X
open Go.RowKit Go.Proofs.YtihknjmibnonjaaDoorW.PrintWords Go.Proofs.YtihknjmibnonjaaDoorW.PrintLast Go.Proofs.YtihknjmibnonjaaDoorW.PrintMore Go.Proofs.YtihknjmibnonjaaDoor.More
attribute [local go_sem] max2_int min2_int max_two min_two max_three min_three max_four min_four binOp_string_leq binOp_string_gtr   -- for this text's walks alone
set_option linter.unusedVariables false
set_option linter.unusedSimpArgs false

/-! ### donjonref4_Text: function 51 -/
def donjonref4_Text.f (k : Nat) (a0_0 : Int) (a0_1 : Int) (a0_2 : Int) (a0_3 : Int) : Option (ByteArray) := (donjonref4_decimal.f k a0_0).bind fun t102 => (if t102.size + 1 ≤ 9223372036854775807 then ((donjonref4_decimal.f k a0_1).bind fun t103 => (if (t102 ++ (⟨#[46]⟩ : ByteArray)).size + t103.size ≤ 9223372036854775807 then (if ((t102 ++ (⟨#[46]⟩ : ByteArray)) ++ t103).size + 1 ≤ 9223372036854775807 then ((donjonref4_decimal.f k a0_2).bind fun t104 => (if (((t102 ++ (⟨#[46]⟩ : ByteArray)) ++ t103) ++ (⟨#[46]⟩ : ByteArray)).size + t104.size ≤ 9223372036854775807 then (if ((((t102 ++ (⟨#[46]⟩ : ByteArray)) ++ t103) ++ (⟨#[46]⟩ : ByteArray)) ++ t104).size + 1 ≤ 9223372036854775807 then ((donjonref4_decimal.f k a0_3).bind fun t105 => (if (((((t102 ++ (⟨#[46]⟩ : ByteArray)) ++ t103) ++ (⟨#[46]⟩ : ByteArray)) ++ t104) ++ (⟨#[46]⟩ : ByteArray)).size + t105.size ≤ 9223372036854775807 then (some ((((((t102 ++ (⟨#[46]⟩ : ByteArray)) ++ t103) ++ (⟨#[46]⟩ : ByteArray)) ++ t104) ++ (⟨#[46]⟩ : ByteArray)) ++ t105)) else (none))) else (none)) else (none))) else (none)) else (none))) else (none))
def donjonref4_Text.T1 : Bool × List (List Nat × List Nat) := (true, [([], []), ([0], [0]), ([1], [1]), ([2], [2]), ([], []), ([4], [4]), ([5, 2], [5]), ([3, 6], [3, 6]), ([7], [7]), ([], []), ([9], [9]), ([10, 6], [10]), ([8, 11], [8, 11]), ([12], [12]), ([], []), ([14], [14]), ([15, 11], [15]), ([13, 16], [13, 16]), ([17, 16, 0, 1, 2, 3, 4, 5, 6, 7, 8, 9, 10, 11, 12, 13, 14, 15, 16, 17], [17])])
def donjonref4_Text.B1 : List Nat := [0, 1, 3, 7, 0, 16, 55, 127, 255, 0, 512, 1655, 4095, 8191, 0, 16384, 52855, 131071, 262143]
theorem donjonref4_Text.tab1 : rtab .any (opsOf Tryd.f51 1) = donjonref4_Text.T1 := by kernel_rfl
theorem donjonref4_Text.bits1 : waitsOk donjonref4_Text.T1.2 donjonref4_Text.B1 = true := by kernel_rfl
set_option maxHeartbeats 8000000 in
set_option maxRecDepth 100000 in
theorem donjonref4_Text.calls (k : Nat) (a0_0 : Int) (a0_1 : Int) (a0_2 : Int) (a0_3 : Int) (r : ByteArray) (w : World) (h : donjonref4_Text.f k a0_0 a0_1 a0_2 a0_3 = some r) :
  Calls Tryd.prog 51 #[.agg #[.int .i64 a0_0, .int .i64 a0_1, .int .i64 a0_2, .int .i64 a0_3]] w fun e w' => e = .returned (.string r) ∧ Below w.heap.size w w' := by
 have hu23 := Tryd.underlying23
 have HB := Aside0.mk (Below.refl w.heap.size w)
 have H : ((donjonref4_decimal.f k a0_0).bind fun t102 => (if t102.size + 1 ≤ 9223372036854775807 then ((donjonref4_decimal.f k a0_1).bind fun t103 => (if (t102 ++ (⟨#[46]⟩ : ByteArray)).size + t103.size ≤ 9223372036854775807 then (if ((t102 ++ (⟨#[46]⟩ : ByteArray)) ++ t103).size + 1 ≤ 9223372036854775807 then ((donjonref4_decimal.f k a0_2).bind fun t104 => (if (((t102 ++ (⟨#[46]⟩ : ByteArray)) ++ t103) ++ (⟨#[46]⟩ : ByteArray)).size + t104.size ≤ 9223372036854775807 then (if ((((t102 ++ (⟨#[46]⟩ : ByteArray)) ++ t103) ++ (⟨#[46]⟩ : ByteArray)) ++ t104).size + 1 ≤ 9223372036854775807 then ((donjonref4_decimal.f k a0_3).bind fun t105 => (if (((((t102 ++ (⟨#[46]⟩ : ByteArray)) ++ t103) ++ (⟨#[46]⟩ : ByteArray)) ++ t104) ++ (⟨#[46]⟩ : ByteArray)).size + t105.size ≤ 9223372036854775807 then (some ((((((t102 ++ (⟨#[46]⟩ : ByteArray)) ++ t103) ++ (⟨#[46]⟩ : ByteArray)) ++ t104) ++ (⟨#[46]⟩ : ByteArray)) ++ t105)) else (none))) else (none)) else (none))) else (none)) else (none))) else (none))) = some r := h
 clear h
 replace H := Option.bind_eq_some_iff.mp H
 obtain ⟨t102, A20, H⟩ := H
 try dsimp only at H
 have A2 := Aside0.mk A20
 clear A20
 by_cases c3 : t102.size + 1 ≤ 9223372036854775807
 ·rw [if_pos c3] at H
  have c3b0 := eq_true c3
  have c3b1 : decide (t102.size + 1 ≤ 9223372036854775807) = true := decide_eq_true c3
  try have c3b2 : (9223372036854775807 < t102.size + 1) = False := eq_false (Nat.not_lt.2 c3)
  replace H := Option.bind_eq_some_iff.mp H
  obtain ⟨t103, A40, H⟩ := H
  try dsimp only at H
  have A4 := Aside0.mk A40
  clear A40
  by_cases c5 : (t102 ++ (⟨#[46]⟩ : ByteArray)).size + t103.size ≤ 9223372036854775807
  ·rw [if_pos c5] at H
   have c5b0 := eq_true c5
   have c5b1 : decide ((t102 ++ (⟨#[46]⟩ : ByteArray)).size + t103.size ≤ 9223372036854775807) = true := decide_eq_true c5
   (try (have c5b19 := c5b1; simp only [ByteArray.size_append, show (⟨#[46]⟩ : ByteArray).size = 1 from rfl, Int.natCast_add] at c5b19))
   try have c5b2 : (9223372036854775807 < (t102 ++ (⟨#[46]⟩ : ByteArray)).size + t103.size) = False := eq_false (Nat.not_lt.2 c5)
   (try (have c5b29 := c5b2; simp only [ByteArray.size_append, show (⟨#[46]⟩ : ByteArray).size = 1 from rfl, Int.natCast_add] at c5b29))
   by_cases c6 : ((t102 ++ (⟨#[46]⟩ : ByteArray)) ++ t103).size + 1 ≤ 9223372036854775807
   ·rw [if_pos c6] at H
    have c6b0 := eq_true c6
    have c6b1 : decide (((t102 ++ (⟨#[46]⟩ : ByteArray)) ++ t103).size + 1 ≤ 9223372036854775807) = true := decide_eq_true c6
    (try (have c6b19 := c6b1; simp only [ByteArray.size_append, show (⟨#[46]⟩ : ByteArray).size = 1 from rfl, Int.natCast_add] at c6b19))
    try have c6b2 : (9223372036854775807 < ((t102 ++ (⟨#[46]⟩ : ByteArray)) ++ t103).size + 1) = False := eq_false (Nat.not_lt.2 c6)
    (try (have c6b29 := c6b2; simp only [ByteArray.size_append, show (⟨#[46]⟩ : ByteArray).size = 1 from rfl, Int.natCast_add] at c6b29))
    replace H := Option.bind_eq_some_iff.mp H
    obtain ⟨t104, A70, H⟩ := H
    try dsimp only at H
    have A7 := Aside0.mk A70
    clear A70
    by_cases c8 : (((t102 ++ (⟨#[46]⟩ : ByteArray)) ++ t103) ++ (⟨#[46]⟩ : ByteArray)).size + t104.size ≤ 9223372036854775807
    ·rw [if_pos c8] at H
     have c8b0 := eq_true c8
     have c8b1 : decide ((((t102 ++ (⟨#[46]⟩ : ByteArray)) ++ t103) ++ (⟨#[46]⟩ : ByteArray)).size + t104.size ≤ 9223372036854775807) = true := decide_eq_true c8
     (try (have c8b19 := c8b1; simp only [ByteArray.size_append, show (⟨#[46]⟩ : ByteArray).size = 1 from rfl, Int.natCast_add] at c8b19))
     try have c8b2 : (9223372036854775807 < (((t102 ++ (⟨#[46]⟩ : ByteArray)) ++ t103) ++ (⟨#[46]⟩ : ByteArray)).size + t104.size) = False := eq_false (Nat.not_lt.2 c8)
     (try (have c8b29 := c8b2; simp only [ByteArray.size_append, show (⟨#[46]⟩ : ByteArray).size = 1 from rfl, Int.natCast_add] at c8b29))
     by_cases c9 : ((((t102 ++ (⟨#[46]⟩ : ByteArray)) ++ t103) ++ (⟨#[46]⟩ : ByteArray)) ++ t104).size + 1 ≤ 9223372036854775807
     ·rw [if_pos c9] at H
      have c9b0 := eq_true c9
      have c9b1 : decide (((((t102 ++ (⟨#[46]⟩ : ByteArray)) ++ t103) ++ (⟨#[46]⟩ : ByteArray)) ++ t104).size + 1 ≤ 9223372036854775807) = true := decide_eq_true c9
      (try (have c9b19 := c9b1; simp only [ByteArray.size_append, show (⟨#[46]⟩ : ByteArray).size = 1 from rfl, Int.natCast_add] at c9b19))
      try have c9b2 : (9223372036854775807 < ((((t102 ++ (⟨#[46]⟩ : ByteArray)) ++ t103) ++ (⟨#[46]⟩ : ByteArray)) ++ t104).size + 1) = False := eq_false (Nat.not_lt.2 c9)
      (try (have c9b29 := c9b2; simp only [ByteArray.size_append, show (⟨#[46]⟩ : ByteArray).size = 1 from rfl, Int.natCast_add] at c9b29))
      replace H := Option.bind_eq_some_iff.mp H
      obtain ⟨t105, A100, H⟩ := H
      try dsimp only at H
      have A10 := Aside0.mk A100
      clear A100
      by_cases c11 : (((((t102 ++ (⟨#[46]⟩ : ByteArray)) ++ t103) ++ (⟨#[46]⟩ : ByteArray)) ++ t104) ++ (⟨#[46]⟩ : ByteArray)).size + t105.size ≤ 9223372036854775807
      ·rw [if_pos c11] at H
       have c11b0 := eq_true c11
       have c11b1 : decide ((((((t102 ++ (⟨#[46]⟩ : ByteArray)) ++ t103) ++ (⟨#[46]⟩ : ByteArray)) ++ t104) ++ (⟨#[46]⟩ : ByteArray)).size + t105.size ≤ 9223372036854775807) = true := decide_eq_true c11
       (try (have c11b19 := c11b1; simp only [ByteArray.size_append, show (⟨#[46]⟩ : ByteArray).size = 1 from rfl, Int.natCast_add] at c11b19))
       try have c11b2 : (9223372036854775807 < (((((t102 ++ (⟨#[46]⟩ : ByteArray)) ++ t103) ++ (⟨#[46]⟩ : ByteArray)) ++ t104) ++ (⟨#[46]⟩ : ByteArray)).size + t105.size) = False := eq_false (Nat.not_lt.2 c11)
       (try (have c11b29 := c11b2; simp only [ByteArray.size_append, show (⟨#[46]⟩ : ByteArray).size = 1 from rfl, Int.natCast_add] at c11b29))
       obtain rfl := Option.some.inj H
       go_enter Tryd.func51, Tryd.ntmps51
       try go_wp2_with (first | ((with_reducible refine gate_dst (N := 1) rfl ?_); refine box_event ?hg (N := 1) ?hd (cs := #[.int .i64 a0_0, .int .i64 a0_1, .int .i64 a0_2, .int .i64 a0_3]) (t := 23) ?hr ?_; (case hd => rfl); (case hg => rfl); (case hr => first | (go_simp; done) | (go_simp; rfl)); intro gb101 hg w12 hbox hb; have n0_ := Aside0.mk (below_step (bl_ HB.out) hb); have n1_ := Aside0.mk (hbox); have n2_ := Aside0.mk ((by rw [hg]; exact (below_size (bl_ HB.out)) : w.heap.size ≤ gb101)); have n3_ := Aside0.mk ((by rw [hg]; exact (below_size (bl_ HB.out)) : w.heap.size ≤ gb101)); clear HB; have HB := n0_; have BK101 := n1_; have GW101 := n2_; have GE101 := n3_; clear n0_ n1_ n2_ n3_; clear hb hbox hg))
       have n0_ := Aside0.mk (blk_drew BK101.out)
       have n1_ := Aside0.mk (below_drew1 HB.out)
       clear BK101 HB
       have BK101 := n0_; have HB := n1_
       clear n0_ n1_
       refine start_ (n := 19) (S := fun w' => w'.cell? ⟨gb101, 0, none⟩ = some (.int .i64 a0_0) ∧ w'.cell? ⟨gb101, 1, none⟩ = some (.int .i64 a0_1) ∧ w'.cell? ⟨gb101, 2, none⟩ = some (.int .i64 a0_2) ∧ w'.cell? ⟨gb101, 3, none⟩ = some (.int .i64 a0_3)) (ds := []) #[false, false, false, false, false, false, false, false, false, false, false, false, false, false, false, false, false, false, false] (by kernel_rfl) rfl rfl ⟨(blk_cell BK101.out 0).trans rfl, (blk_cell BK101.out 1).trans rfl, (blk_cell BK101.out 2).trans rfl, (blk_cell BK101.out 3).trans rfl⟩ (fun hHeld => ?_); refine with_tabW donjonref4_Text.tab1 donjonref4_Text.bits1 (fun HT_ HW_ => ?_)
       generalize w12.drew = w13 at BK101 HB hHeld ⊢
       refine pure_ (i := 0) (N := some 3) (v := ?_) (a' := ?_) #[true, false, false, false, false, false, false, false, false, false, false, false, false, false, false, false, false, false, false] rfl rfl (any_of HT_.out (by kernel_rfl)) (fun _ _ _ h => h) (Or.inl ⟨by rfl, ?_⟩) ?_ ?_
       rotate_left
       ·intro w'
        go_simp
        with_reducible rfl
       rotate_left
       ·simp only [Act.put, xset_a, xset_z, xset_s, i64_w, i32_w]
        rfl
       refine pure_ (i := 4) (N := some 7) (v := ?_) (a' := ?_) #[true, false, false, false, true, false, false, false, false, false, false, false, false, false, false, false, false, false, false] rfl rfl (any_of HT_.out (by kernel_rfl)) (fun _ _ _ h => h) (Or.inl ⟨by rfl, ?_⟩) ?_ ?_
       rotate_left
       ·intro w'
        go_simp
        with_reducible rfl
       rotate_left
       ·simp only [Act.put, xset_a, xset_z, xset_s, i64_w, i32_w]
        rfl
       refine pure_ (i := 9) (N := some 12) (v := ?_) (a' := ?_) #[true, false, false, false, true, false, false, false, false, true, false, false, false, false, false, false, false, false, false] rfl rfl (any_of HT_.out (by kernel_rfl)) (fun _ _ _ h => h) (Or.inl ⟨by rfl, ?_⟩) ?_ ?_
       rotate_left
       ·intro w'
        go_simp
        with_reducible rfl
       rotate_left
       ·simp only [Act.put, xset_a, xset_z, xset_s, i64_w, i32_w]
        rfl
       refine pure_ (i := 14) (N := some 17) (v := ?_) (a' := ?_) #[true, false, false, false, true, false, false, false, false, true, false, false, false, false, true, false, false, false, false] rfl rfl (any_of HT_.out (by kernel_rfl)) (fun _ _ _ h => h) (Or.inl ⟨by rfl, ?_⟩) ?_ ?_
       rotate_left
       ·intro w'
        go_simp
        with_reducible rfl
       rotate_left
       ·simp only [Act.put, xset_a, xset_z, xset_s, i64_w, i32_w]
        rfl
       refine take_ (i := 1) (N := some 4) (v := ?_) (a' := ?_) #[true, true, false, false, true, false, false, false, false, true, false, false, false, false, true, false, false, false, false] rfl rfl (take_ofW HT_.out HW_.out (by kernel_rfl)) (fun _ _ _ h => h) (Or.inl ⟨by rfl, ?_⟩) hHeld ?_ ?_
       rotate_left
       ·rintro w' ⟨s0, s1, s2, s3⟩
        go_simp
        with_reducible rfl
       rotate_left
       ·simp only [Act.put, xset_a, xset_z, xset_s, i64_w, i32_w]
        rfl
       refine take_ (i := 5) (N := some 8) (v := ?_) (a' := ?_) #[true, true, false, false, true, true, false, false, false, true, false, false, false, false, true, false, false, false, false] rfl rfl (take_ofW HT_.out HW_.out (by kernel_rfl)) (fun _ _ _ h => h) (Or.inl ⟨by rfl, ?_⟩) hHeld ?_ ?_
       rotate_left
       ·rintro w' ⟨s0, s1, s2, s3⟩
        go_simp
        with_reducible rfl
       rotate_left
       ·simp only [Act.put, xset_a, xset_z, xset_s, i64_w, i32_w]
        rfl
       refine take_ (i := 10) (N := some 13) (v := ?_) (a' := ?_) #[true, true, false, false, true, true, false, false, false, true, true, false, false, false, true, false, false, false, false] rfl rfl (take_ofW HT_.out HW_.out (by kernel_rfl)) (fun _ _ _ h => h) (Or.inl ⟨by rfl, ?_⟩) hHeld ?_ ?_
       rotate_left
       ·rintro w' ⟨s0, s1, s2, s3⟩
        go_simp
        with_reducible rfl
       rotate_left
       ·simp only [Act.put, xset_a, xset_z, xset_s, i64_w, i32_w]
        rfl
       refine take_ (i := 15) (N := some 18) (v := ?_) (a' := ?_) #[true, true, false, false, true, true, false, false, false, true, true, false, false, false, true, true, false, false, false] rfl rfl (take_ofW HT_.out HW_.out (by kernel_rfl)) (fun _ _ _ h => h) (Or.inl ⟨by rfl, ?_⟩) hHeld ?_ ?_
       rotate_left
       ·rintro w' ⟨s0, s1, s2, s3⟩
        go_simp
        with_reducible rfl
       rotate_left
       ·simp only [Act.put, xset_a, xset_z, xset_s, i64_w, i32_w]
        rfl
       refine one_ (i := 2) (N := some 5) #[true, true, true, false, true, true, false, false, false, true, true, false, false, false, true, true, false, false, false] rfl rfl (one_of HT_.out (by kernel_rfl)) (by decide) (fun K hK => ?_)
       refine goes_ Tryd.func73 (by kernel_rfl) rfl #[.int .i64 a0_0] (by rfl) rfl rfl (by (try simp only [List.map_toArray, List.map_cons, List.map_nil]); first | done | rfl | (simp only [List.length_drop, List.length_take]; rfl)) ?_
       with_reducible refine (donjonref4_decimal.calls k a0_0 t102 _ A2.out).mono ?_
       rintro e w14 ⟨rfl, hb⟩
       refine ⟨_, rfl, ?_⟩
       have n0_ := bb_ BK101 hb
       have n1_ := Aside0.mk (below_step (bl_ HB.out) hb)
       clear BK101 HB
       have BK101 := n0_; have HB := n1_
       clear n0_ n1_
       (try clear hb)
       (try clear hb2)
       (try clear hk)
       (try clear hi)
       refine hK.out _ _ ⟨(blk_cell BK101.out 0).trans rfl, (blk_cell BK101.out 1).trans rfl, (blk_cell BK101.out 2).trans rfl, (blk_cell BK101.out 3).trans rfl⟩ (fun hHeld => ?_)
       clear hK K
       refine norm_ (a' := ?_) ?_ ?_
       rotate_left
       ·show Act.put _ (some 5) _ = _
        simp only [Act.put, xset_a, xset_z, xset_s, i64_w, i32_w]
        rfl
       refine pure_ (i := 3) (N := some 6) (v := ?_) (a' := ?_) #[true, true, true, true, true, true, false, false, false, true, true, false, false, false, true, true, false, false, false] rfl rfl (any_of HT_.out (by kernel_rfl)) (fun _ _ _ h => h) (Or.inl ⟨by rfl, ?_⟩) ?_ ?_
       rotate_left
       ·intro w'
        go_simp
        with_reducible rfl
       rotate_left
       ·simp only [Act.put, xset_a, xset_z, xset_s, i64_w, i32_w]
        rfl
       refine one_ (i := 6) (N := some 9) #[true, true, true, true, true, true, true, false, false, true, true, false, false, false, true, true, false, false, false] rfl rfl (one_of HT_.out (by kernel_rfl)) (by decide) (fun K hK => ?_)
       refine goes_ Tryd.func73 (by kernel_rfl) rfl #[.int .i64 a0_1] (by rfl) rfl rfl (by (try simp only [List.map_toArray, List.map_cons, List.map_nil]); first | done | rfl | (simp only [List.length_drop, List.length_take]; rfl)) ?_
       with_reducible refine (donjonref4_decimal.calls k a0_1 t103 _ A4.out).mono ?_
       rintro e w15 ⟨rfl, hb⟩
       refine ⟨_, rfl, ?_⟩
       have n0_ := bb_ BK101 hb
       have n1_ := Aside0.mk (below_step (bl_ HB.out) hb)
       clear BK101 HB
       have BK101 := n0_; have HB := n1_
       clear n0_ n1_
       (try clear hb)
       (try clear hb2)
       (try clear hk)
       (try clear hi)
       refine hK.out _ _ ⟨(blk_cell BK101.out 0).trans rfl, (blk_cell BK101.out 1).trans rfl, (blk_cell BK101.out 2).trans rfl, (blk_cell BK101.out 3).trans rfl⟩ (fun hHeld => ?_)
       clear hK K
       refine norm_ (a' := ?_) ?_ ?_
       rotate_left
       ·show Act.put _ (some 9) _ = _
        simp only [Act.put, xset_a, xset_z, xset_s, i64_w, i32_w]
        rfl
       refine pure_ (i := 7) (N := some 10) (v := ?_) (a' := ?_) #[true, true, true, true, true, true, true, true, false, true, true, false, false, false, true, true, false, false, false] rfl rfl (any_of HT_.out (by kernel_rfl)) (fun _ _ _ h => h) (Or.inl ⟨by rfl, ?_⟩) ?_ ?_
       rotate_left
       ·intro w'
        go_simp
        with_reducible rfl
       rotate_left
       ·simp only [Act.put, xset_a, xset_z, xset_s, i64_w, i32_w]
        rfl
       refine pure_ (i := 8) (N := some 11) (v := ?_) (a' := ?_) #[true, true, true, true, true, true, true, true, true, true, true, false, false, false, true, true, false, false, false] rfl rfl (any_of HT_.out (by kernel_rfl)) (fun _ _ _ h => h) (Or.inl ⟨by rfl, ?_⟩) ?_ ?_
       rotate_left
       ·intro w'
        go_simp
        with_reducible rfl
       rotate_left
       ·simp only [Act.put, xset_a, xset_z, xset_s, i64_w, i32_w]
        rfl
       refine one_ (i := 11) (N := some 14) #[true, true, true, true, true, true, true, true, true, true, true, true, false, false, true, true, false, false, false] rfl rfl (one_of HT_.out (by kernel_rfl)) (by decide) (fun K hK => ?_)
       refine goes_ Tryd.func73 (by kernel_rfl) rfl #[.int .i64 a0_2] (by rfl) rfl rfl (by (try simp only [List.map_toArray, List.map_cons, List.map_nil]); first | done | rfl | (simp only [List.length_drop, List.length_take]; rfl)) ?_
       with_reducible refine (donjonref4_decimal.calls k a0_2 t104 _ A7.out).mono ?_
       rintro e w16 ⟨rfl, hb⟩
       refine ⟨_, rfl, ?_⟩
       have n0_ := bb_ BK101 hb
       have n1_ := Aside0.mk (below_step (bl_ HB.out) hb)
       clear BK101 HB
       have BK101 := n0_; have HB := n1_
       clear n0_ n1_
       (try clear hb)
       (try clear hb2)
       (try clear hk)
       (try clear hi)
       refine hK.out _ _ ⟨(blk_cell BK101.out 0).trans rfl, (blk_cell BK101.out 1).trans rfl, (blk_cell BK101.out 2).trans rfl, (blk_cell BK101.out 3).trans rfl⟩ (fun hHeld => ?_)
       clear hK K
       refine norm_ (a' := ?_) ?_ ?_
       rotate_left
       ·show Act.put _ (some 14) _ = _
        simp only [Act.put, xset_a, xset_z, xset_s, i64_w, i32_w]
        rfl
       refine pure_ (i := 12) (N := some 15) (v := ?_) (a' := ?_) #[true, true, true, true, true, true, true, true, true, true, true, true, true, false, true, true, false, false, false] rfl rfl (any_of HT_.out (by kernel_rfl)) (fun _ _ _ h => h) (Or.inl ⟨by rfl, ?_⟩) ?_ ?_
       rotate_left
       ·intro w'
        go_simp
        with_reducible rfl
       rotate_left
       ·simp only [Act.put, xset_a, xset_z, xset_s, i64_w, i32_w]
        rfl
       refine pure_ (i := 13) (N := some 16) (v := ?_) (a' := ?_) #[true, true, true, true, true, true, true, true, true, true, true, true, true, true, true, true, false, false, false] rfl rfl (any_of HT_.out (by kernel_rfl)) (fun _ _ _ h => h) (Or.inl ⟨by rfl, ?_⟩) ?_ ?_
       rotate_left
       ·intro w'
        go_simp
        with_reducible rfl
       rotate_left
       ·simp only [Act.put, xset_a, xset_z, xset_s, i64_w, i32_w]
        rfl
       refine one_ (i := 16) (N := some 19) #[true, true, true, true, true, true, true, true, true, true, true, true, true, true, true, true, true, false, false] rfl rfl (one_of HT_.out (by kernel_rfl)) (by decide) (fun K hK => ?_)
       refine goes_ Tryd.func73 (by kernel_rfl) rfl #[.int .i64 a0_3] (by rfl) rfl rfl (by (try simp only [List.map_toArray, List.map_cons, List.map_nil]); first | done | rfl | (simp only [List.length_drop, List.length_take]; rfl)) ?_
       with_reducible refine (donjonref4_decimal.calls k a0_3 t105 _ A10.out).mono ?_
       rintro e w17 ⟨rfl, hb⟩
       refine ⟨_, rfl, ?_⟩
       have n0_ := bb_ BK101 hb
       have n1_ := Aside0.mk (below_step (bl_ HB.out) hb)
       clear BK101 HB
       have BK101 := n0_; have HB := n1_
       clear n0_ n1_
       (try clear hb)
       (try clear hb2)
       (try clear hk)
       (try clear hi)
       refine hK.out _ _ ⟨(blk_cell BK101.out 0).trans rfl, (blk_cell BK101.out 1).trans rfl, (blk_cell BK101.out 2).trans rfl, (blk_cell BK101.out 3).trans rfl⟩ (fun hHeld => ?_)
       clear hK K
       refine norm_ (a' := ?_) ?_ ?_
       rotate_left
       ·show Act.put _ (some 19) _ = _
        simp only [Act.put, xset_a, xset_z, xset_s, i64_w, i32_w]
        rfl
       refine pure_ (i := 17) (N := some 20) (v := ?_) (a' := ?_) #[true, true, true, true, true, true, true, true, true, true, true, true, true, true, true, true, true, true, false] rfl rfl (any_of HT_.out (by kernel_rfl)) (fun _ _ _ h => h) (Or.inl ⟨by rfl, ?_⟩) ?_ ?_
       rotate_left
       ·intro w'
        go_simp
        with_reducible rfl
       rotate_left
       ·simp only [Act.put, xset_a, xset_z, xset_s, i64_w, i32_w]
        rfl
       refine pure_ (i := 18) (N := some 2) (v := ?_) (a' := ?_) #[true, true, true, true, true, true, true, true, true, true, true, true, true, true, true, true, true, true, true] rfl rfl (any_of HT_.out (by kernel_rfl)) (fun _ _ _ h => h) (Or.inl ⟨by rfl, ?_⟩) ?_ ?_
       rotate_left
       ·intro w'
        go_simp
        with_reducible rfl
       rotate_left
       ·simp only [Act.put, xset_a, xset_z, xset_s, i64_w, i32_w]
        rfl
       refine done_ (done_of HT_.out (by kernel_rfl)) ?_
       try go_wp2
       go_ret
       exact ⟨by first | rfl | (simp [errW_none, errW_some] <;> rfl) | (simp [*, errW_none, errW_some] <;> rfl), by repeat (first | (with_reducible first | exact HB.out | apply below_alloc | apply pw_below_drewN | apply below_drew1 | refine below_set ?_ GE101.out) | exact HB.out)⟩
      ·rw [if_neg c11] at H
       exact absurd H (by simp)
     ·rw [if_neg c9] at H
      exact absurd H (by simp)
    ·rw [if_neg c8] at H
     exact absurd H (by simp)
   ·rw [if_neg c6] at H
    exact absurd H (by simp)
  ·rw [if_neg c5] at H
   exact absurd H (by simp)
 ·rw [if_neg c3] at H
  exact absurd H (by simp)

end Go.Proofs.YtihknjmibnonjaaDoor.X
end

section
/- Written by a program of this session over the kit's print: YtihknjmibnonjaaDoorF52. -/
namespace Go.Proofs.YtihknjmibnonjaaDoor.X
open Go.RowKit Go.Proofs.YtihknjmibnonjaaDoorW.PrintWords Go.Proofs.YtihknjmibnonjaaDoorW.PrintLast Go.Proofs.YtihknjmibnonjaaDoorW.PrintMore Go.Proofs.YtihknjmibnonjaaDoor.More
attribute [local go_sem] max2_int min2_int max_two min_two max_three min_three max_four min_four binOp_string_leq binOp_string_gtr   -- for this text's walks alone
set_option linter.unusedVariables false
set_option linter.unusedSimpArgs false

/-! ### donjonref14_or: function 52 -/
def donjonref14_or.f (a0 : ByteArray) : Option (ByteArray) := if a0.toList = ([] : List UInt8) then (some (⟨#[45]⟩ : ByteArray)) else (some a0)
set_option maxHeartbeats 8000000 in
set_option maxRecDepth 100000 in
theorem donjonref14_or.calls (a0 : ByteArray) (r : ByteArray) (w : World) (h : donjonref14_or.f a0 = some r) :
  Calls Tryd.prog 52 #[.string a0] w fun e w' => e = .returned (.string r) ∧ Drawn0 w w' := by
 have H : (if a0.toList = ([] : List UInt8) then (some (⟨#[45]⟩ : ByteArray)) else (some a0)) = some r := h
 clear h
 by_cases c2 : a0.toList = ([] : List UInt8)
 ·rw [if_pos c2] at H
  have c2b0 : (a0.toList == ([] : List UInt8)) = true := beq_iff_eq.mpr c2
  have c2b1 : (a0.toList != ([] : List UInt8)) = false := bne_eq_false_iff_eq.mpr c2
  clear c2
  obtain rfl := Option.some.inj H
  go_enter Tryd.func52, Tryd.ntmps52
  go_wp2
  go_ret
  exact ⟨by first | rfl | (simp; done) | (simp [*]; done), by repeat (first | exact Drawn0.refl _ | apply Drawn0.step)⟩
 ·rw [if_neg c2] at H
  have c2b0 : (a0.toList == ([] : List UInt8)) = false := beq_eq_false_iff_ne.mpr c2
  have c2b1 : (a0.toList != ([] : List UInt8)) = true := bne_iff_ne.mpr c2
  obtain rfl := Option.some.inj H
  go_enter Tryd.func52, Tryd.ntmps52
  go_wp2
  go_ret
  exact ⟨by first | rfl | (simp; done) | (simp [*]; done), by repeat (first | exact Drawn0.refl _ | apply Drawn0.step)⟩

end Go.Proofs.YtihknjmibnonjaaDoor.X
end

section
/- Written by a program of this session over the kit's print: YtihknjmibnonjaaDoorF53. -/
namespace Go.Proofs.YtihknjmibnonjaaDoor.X
open Go.RowKit Go.Proofs.YtihknjmibnonjaaDoorW.PrintWords Go.Proofs.YtihknjmibnonjaaDoorW.PrintLast Go.Proofs.YtihknjmibnonjaaDoorW.PrintMore Go.Proofs.YtihknjmibnonjaaDoor.More
attribute [local go_sem] max2_int min2_int max_two min_two max_three min_three max_four min_four binOp_string_leq binOp_string_gtr   -- for this text's walks alone
set_option linter.unusedVariables false
set_option linter.unusedSimpArgs false

/-! ### donjonref14_verb: function 53 -/
def donjonref14_verb.f (a0 : Int) : Option (ByteArray) := (some (([(⟨#[108, 111, 103, 105, 110]⟩ : ByteArray), (⟨#[115, 101, 103]⟩ : ByteArray), (⟨#[100, 105, 114]⟩ : ByteArray), (⟨#[100, 101, 108]⟩ : ByteArray), (⟨#[97, 99, 108]⟩ : ByteArray), (⟨#[114, 105, 110, 103, 115]⟩ : ByteArray), (⟨#[112, 117, 116]⟩ : ByteArray), (⟨#[103, 101, 116]⟩ : ByteArray), (⟨#[108, 105, 115, 116]⟩ : ByteArray), (⟨#[114, 117, 110]⟩ : ByteArray), (⟨#[115, 101, 110, 100]⟩ : ByteArray), (⟨#[116, 97, 107, 101]⟩ : ByteArray), (⟨#[114, 101, 108, 101, 97, 115, 101]⟩ : ByteArray), (⟨#[100, 101, 110, 121]⟩ : ByteArray)] : List ByteArray) : List ByteArray)).bind fun y101 => (if 0 ≤ (wrap64 (a0 - 1)) then (if (wrap64 (a0 - 1)) < (y101.length : Int) then (some (rdOf ByteArray.empty y101 (wrap64 (a0 - 1)))) else (none)) else (none))
set_option maxHeartbeats 8000000 in
set_option maxRecDepth 100000 in
theorem donjonref14_verb.calls (a0 : Int) (r : ByteArray) (w : World) (h : donjonref14_verb.f a0 = some r) :
  Calls Tryd.prog 53 #[.int .i64 a0] w fun e w' => e = .returned (.string r) ∧ Below w.heap.size w w' := by
 have HB := Aside0.mk (Below.refl w.heap.size w)
 have H : ((some (([(⟨#[108, 111, 103, 105, 110]⟩ : ByteArray), (⟨#[115, 101, 103]⟩ : ByteArray), (⟨#[100, 105, 114]⟩ : ByteArray), (⟨#[100, 101, 108]⟩ : ByteArray), (⟨#[97, 99, 108]⟩ : ByteArray), (⟨#[114, 105, 110, 103, 115]⟩ : ByteArray), (⟨#[112, 117, 116]⟩ : ByteArray), (⟨#[103, 101, 116]⟩ : ByteArray), (⟨#[108, 105, 115, 116]⟩ : ByteArray), (⟨#[114, 117, 110]⟩ : ByteArray), (⟨#[115, 101, 110, 100]⟩ : ByteArray), (⟨#[116, 97, 107, 101]⟩ : ByteArray), (⟨#[114, 101, 108, 101, 97, 115, 101]⟩ : ByteArray), (⟨#[100, 101, 110, 121]⟩ : ByteArray)] : List ByteArray) : List ByteArray)).bind fun y101 => (if 0 ≤ (wrap64 (a0 - 1)) then (if (wrap64 (a0 - 1)) < (y101.length : Int) then (some (rdOf ByteArray.empty y101 (wrap64 (a0 - 1)))) else (none)) else (none))) = some r := h
 clear h
 obtain ⟨y101, hy101⟩ : ∃ y_ : List ByteArray, y_ = (([(⟨#[108, 111, 103, 105, 110]⟩ : ByteArray), (⟨#[115, 101, 103]⟩ : ByteArray), (⟨#[100, 105, 114]⟩ : ByteArray), (⟨#[100, 101, 108]⟩ : ByteArray), (⟨#[97, 99, 108]⟩ : ByteArray), (⟨#[114, 105, 110, 103, 115]⟩ : ByteArray), (⟨#[112, 117, 116]⟩ : ByteArray), (⟨#[103, 101, 116]⟩ : ByteArray), (⟨#[108, 105, 115, 116]⟩ : ByteArray), (⟨#[114, 117, 110]⟩ : ByteArray), (⟨#[115, 101, 110, 100]⟩ : ByteArray), (⟨#[116, 97, 107, 101]⟩ : ByteArray), (⟨#[114, 101, 108, 101, 97, 115, 101]⟩ : ByteArray), (⟨#[100, 101, 110, 121]⟩ : ByteArray)] : List ByteArray)) := ⟨_, rfl⟩
 replace H : (if 0 ≤ (wrap64 (a0 - 1)) then (if (wrap64 (a0 - 1)) < (y101.length : Int) then (some (rdOf ByteArray.empty y101 (wrap64 (a0 - 1)))) else (none)) else (none)) = some r := by first | (rw [hy101]; with_reducible exact H) | (have H2_ := (Option.bind_some _ _).symm.trans H; rw [hy101]; with_reducible exact H2_) | (have H2_ := (Option.bind_some _ _).symm.trans H; with_reducible exact H2_) | with_reducible exact H | (rw [hy101]; exact H) | exact H
 have Ny101 := Aside0.mk hy101
 clear hy101
 obtain ⟨ji2, hji2⟩ : ∃ j_ : Int, (wrap64 (a0 - 1)) = j_ := ⟨_, rfl⟩
 replace H : (if 0 ≤ (ji2) then (if (ji2) < (y101.length : Int) then (some (rdOf ByteArray.empty y101 (ji2))) else (none)) else (none)) = some r := by first | (rw [hji2] at H; exact H) | (simp only [hji2] at H ⊢; exact H)
 have hji2w : (IntKind.i64.wrap (a0 - 1)) = ji2 := (i64_w _).trans hji2
 by_cases c3 : 0 ≤ (ji2)
 ·rw [if_pos c3] at H
  have c3b0 : decide (0 ≤ (ji2)) = true := decide_eq_true c3
  clear c3
  by_cases c4 : (ji2) < (y101.length : Int)
  ·rw [if_pos c4] at H
   have c4b0 : decide ((ji2) < (y101.length : Int)) = true := decide_eq_true c4
   clear c4
   obtain rfl := Option.some.inj H
   go_enter Tryd.func53, Tryd.ntmps53
   go_wp2_with (first | ((with_reducible refine gate_dst (N := 4) rfl ?_); refine Kd.R_lit Kd.string _ 9 ?hg (N := 4) ?hd (xs := ([(⟨#[108, 111, 103, 105, 110]⟩ : ByteArray), (⟨#[115, 101, 103]⟩ : ByteArray), (⟨#[100, 105, 114]⟩ : ByteArray), (⟨#[100, 101, 108]⟩ : ByteArray), (⟨#[97, 99, 108]⟩ : ByteArray), (⟨#[114, 105, 110, 103, 115]⟩ : ByteArray), (⟨#[112, 117, 116]⟩ : ByteArray), (⟨#[103, 101, 116]⟩ : ByteArray), (⟨#[108, 105, 115, 116]⟩ : ByteArray), (⟨#[114, 117, 110]⟩ : ByteArray), (⟨#[115, 101, 110, 100]⟩ : ByteArray), (⟨#[116, 97, 107, 101]⟩ : ByteArray), (⟨#[114, 101, 108, 101, 97, 115, 101]⟩ : ByteArray), (⟨#[100, 101, 110, 121]⟩ : ByteArray)] : List ByteArray)) (inner := [.string ⟨#[108, 111, 103, 105, 110]⟩, .string ⟨#[115, 101, 103]⟩, .string ⟨#[100, 105, 114]⟩, .string ⟨#[100, 101, 108]⟩, .string ⟨#[97, 99, 108]⟩, .string ⟨#[114, 105, 110, 103, 115]⟩, .string ⟨#[112, 117, 116]⟩, .string ⟨#[103, 101, 116]⟩, .string ⟨#[108, 105, 115, 116]⟩, .string ⟨#[114, 117, 110]⟩, .string ⟨#[115, 101, 110, 100]⟩, .string ⟨#[116, 97, 107, 101]⟩, .string ⟨#[114, 101, 108, 101, 97, 115, 101]⟩, .string ⟨#[100, 101, 110, 121]⟩]) (ok := fun _ => True) (okp := fun _ => True) ?hr ?hp (fun _ hk => hk) trivial (Below.refl _ _) (Nat.le_refl _) (by simp) ?_; (case hd => rfl); (case hg => rfl); (case hr => first | (go_simp; done) | (go_simp; rfl)); (case hp => exact (Reps.one (show Kd.M Kd.string _ _ _ (⟨#[108, 111, 103, 105, 110]⟩ : ByteArray) [.string ⟨#[108, 111, 103, 105, 110]⟩] from rfl) (Reps.one (show Kd.M Kd.string _ _ _ (⟨#[115, 101, 103]⟩ : ByteArray) [.string ⟨#[115, 101, 103]⟩] from rfl) (Reps.one (show Kd.M Kd.string _ _ _ (⟨#[100, 105, 114]⟩ : ByteArray) [.string ⟨#[100, 105, 114]⟩] from rfl) (Reps.one (show Kd.M Kd.string _ _ _ (⟨#[100, 101, 108]⟩ : ByteArray) [.string ⟨#[100, 101, 108]⟩] from rfl) (Reps.one (show Kd.M Kd.string _ _ _ (⟨#[97, 99, 108]⟩ : ByteArray) [.string ⟨#[97, 99, 108]⟩] from rfl) (Reps.one (show Kd.M Kd.string _ _ _ (⟨#[114, 105, 110, 103, 115]⟩ : ByteArray) [.string ⟨#[114, 105, 110, 103, 115]⟩] from rfl) (Reps.one (show Kd.M Kd.string _ _ _ (⟨#[112, 117, 116]⟩ : ByteArray) [.string ⟨#[112, 117, 116]⟩] from rfl) (Reps.one (show Kd.M Kd.string _ _ _ (⟨#[103, 101, 116]⟩ : ByteArray) [.string ⟨#[103, 101, 116]⟩] from rfl) (Reps.one (show Kd.M Kd.string _ _ _ (⟨#[108, 105, 115, 116]⟩ : ByteArray) [.string ⟨#[108, 105, 115, 116]⟩] from rfl) (Reps.one (show Kd.M Kd.string _ _ _ (⟨#[114, 117, 110]⟩ : ByteArray) [.string ⟨#[114, 117, 110]⟩] from rfl) (Reps.one (show Kd.M Kd.string _ _ _ (⟨#[115, 101, 110, 100]⟩ : ByteArray) [.string ⟨#[115, 101, 110, 100]⟩] from rfl) (Reps.one (show Kd.M Kd.string _ _ _ (⟨#[116, 97, 107, 101]⟩ : ByteArray) [.string ⟨#[116, 97, 107, 101]⟩] from rfl) (Reps.one (show Kd.M Kd.string _ _ _ (⟨#[114, 101, 108, 101, 97, 115, 101]⟩ : ByteArray) [.string ⟨#[114, 101, 108, 101, 97, 115, 101]⟩] from rfl) (Reps.one (show Kd.M Kd.string _ _ _ (⟨#[100, 101, 110, 121]⟩ : ByteArray) [.string ⟨#[100, 101, 110, 121]⟩] from rfl) (Reps.none _ _)))))))))))))))); intro v102 w5 ho6 hb hg_ hnew_; clear hg_ hnew_; (first | rw [← Ny101.out] at ho6 | (simp only [Int.reduceToNat] at ho6; rw [← Ny101.out] at ho6)); have n0_ := Aside0.mk (Kd.R_lower ho6 (below_size (bl_ HB.out))); have n1_ := Aside0.mk (below_step (bl_ HB.out) hb); clear HB; have HO103 := n0_; have HB := n1_; clear n0_ n1_; clear hb ho6; obtain ⟨Ao7, co7, eo7⟩ := Kd.R_slice HO103.out; subst eo7; have p104 : 0 ≤ ((ji2) : Int) := of_decide_eq_true (by first | (with_reducible assumption) | assumption); have q104 : (ji2) < (y101.length : Int) := of_decide_eq_true (by first | (with_reducible assumption) | assumption); obtain ⟨ad104, e104, hx104_0⟩ := Kd.at_string (Kd.R_reads' HO103.out).2.2 (ji2) p104 q104; cases e104; replace p104 := eq_true p104; replace q104 := eq_true q104))
   go_ret
   exact ⟨by first | rfl | (simp [errW_none, errW_some] <;> rfl) | (simp only [← hji2]; first | rfl | (simp [errW_none, errW_some] <;> rfl)) | (simp [*, errW_none, errW_some] <;> rfl), by repeat (first | (with_reducible first | exact HB.out | apply below_alloc | apply pw_below_drewN | apply below_drew1) | exact HB.out)⟩
  ·rw [if_neg c4] at H
   exact absurd H (by simp)
 ·rw [if_neg c3] at H
  exact absurd H (by simp)

end Go.Proofs.YtihknjmibnonjaaDoor.X
end

section
/- Written by a program of this session over the kit's print: YtihknjmibnonjaaDoorF29. -/
namespace Go.Proofs.YtihknjmibnonjaaDoor.X
open Go.RowKit Go.Proofs.YtihknjmibnonjaaDoorW.PrintWords Go.Proofs.YtihknjmibnonjaaDoorW.PrintLast Go.Proofs.YtihknjmibnonjaaDoorW.PrintMore Go.Proofs.YtihknjmibnonjaaDoor.More
attribute [local go_sem] max2_int min2_int max_two min_two max_three min_three max_four min_four binOp_string_leq binOp_string_gtr   -- for this text's walks alone
set_option linter.unusedVariables false
set_option linter.unusedSimpArgs false

/-! ### donjonref14_Text: function 29 -/
def donjonref14_Text.f (k : Nat) (a0_0 : Int) (a0_1 : Int) (a0_2 : Int) (a0_3 : Int) (a0_4 : Int) (a0_5 : ByteArray) (a0_6 : Int) (a0_7 : ByteArray) (a0_8 : Int) : Option (ByteArray) := (donjonref14_Decimal.f k a0_0).bind fun t102 => (if t102.size + 1 ≤ 9223372036854775807 then ((donjonref4_Text.f k a0_1 a0_2 a0_3 a0_4).bind fun t103 => (if (t102 ++ (⟨#[32]⟩ : ByteArray)).size + t103.size ≤ 9223372036854775807 then (if ((t102 ++ (⟨#[32]⟩ : ByteArray)) ++ t103).size + 1 ≤ 9223372036854775807 then ((donjonref14_or.f a0_5).bind fun t104 => (if (((t102 ++ (⟨#[32]⟩ : ByteArray)) ++ t103) ++ (⟨#[32]⟩ : ByteArray)).size + t104.size ≤ 9223372036854775807 then (if ((((t102 ++ (⟨#[32]⟩ : ByteArray)) ++ t103) ++ (⟨#[32]⟩ : ByteArray)) ++ t104).size + 1 ≤ 9223372036854775807 then ((donjonref14_verb.f a0_6).bind fun t105 => (if (((((t102 ++ (⟨#[32]⟩ : ByteArray)) ++ t103) ++ (⟨#[32]⟩ : ByteArray)) ++ t104) ++ (⟨#[32]⟩ : ByteArray)).size + t105.size ≤ 9223372036854775807 then (if ((((((t102 ++ (⟨#[32]⟩ : ByteArray)) ++ t103) ++ (⟨#[32]⟩ : ByteArray)) ++ t104) ++ (⟨#[32]⟩ : ByteArray)) ++ t105).size + 1 ≤ 9223372036854775807 then ((donjonref14_or.f a0_7).bind fun t106 => (if (((((((t102 ++ (⟨#[32]⟩ : ByteArray)) ++ t103) ++ (⟨#[32]⟩ : ByteArray)) ++ t104) ++ (⟨#[32]⟩ : ByteArray)) ++ t105) ++ (⟨#[32]⟩ : ByteArray)).size + t106.size ≤ 9223372036854775807 then (if ((((((((t102 ++ (⟨#[32]⟩ : ByteArray)) ++ t103) ++ (⟨#[32]⟩ : ByteArray)) ++ t104) ++ (⟨#[32]⟩ : ByteArray)) ++ t105) ++ (⟨#[32]⟩ : ByteArray)) ++ t106).size + 1 ≤ 9223372036854775807 then ((api_Errno_Error.f a0_8).bind fun t107 => (if (((((((((t102 ++ (⟨#[32]⟩ : ByteArray)) ++ t103) ++ (⟨#[32]⟩ : ByteArray)) ++ t104) ++ (⟨#[32]⟩ : ByteArray)) ++ t105) ++ (⟨#[32]⟩ : ByteArray)) ++ t106) ++ (⟨#[32]⟩ : ByteArray)).size + t107.size ≤ 9223372036854775807 then (some ((((((((((t102 ++ (⟨#[32]⟩ : ByteArray)) ++ t103) ++ (⟨#[32]⟩ : ByteArray)) ++ t104) ++ (⟨#[32]⟩ : ByteArray)) ++ t105) ++ (⟨#[32]⟩ : ByteArray)) ++ t106) ++ (⟨#[32]⟩ : ByteArray)) ++ t107)) else (none))) else (none)) else (none))) else (none)) else (none))) else (none)) else (none))) else (none)) else (none))) else (none))
def donjonref14_Text.T1 : Bool × List (List Nat × List Nat) := (true, [([], []), ([0], [0]), ([1], [1]), ([2], [2]), ([], []), ([4], [4]), ([5, 2], [5]), ([3, 6], [3, 6]), ([7], [7]), ([], []), ([9], [9]), ([10, 6], [10]), ([8, 11], [8, 11]), ([12], [12]), ([], []), ([14], [14]), ([15, 11], [15]), ([13, 16], [13, 16]), ([17], [17]), ([], []), ([19], [19]), ([20, 16], [20]), ([18, 21], [18, 21]), ([22], [22]), ([], []), ([24], [24]), ([25, 21], [25]), ([23, 26], [23, 26]), ([27, 26, 0, 1, 2, 3, 4, 5, 6, 7, 8, 9, 10, 11, 12, 13, 14, 15, 16, 17, 18, 19, 20, 21, 22, 23, 24, 25, 26, 27], [27])])
def donjonref14_Text.B1 : List Nat := [0, 1, 3, 7, 0, 16, 55, 127, 255, 0, 512, 1655, 4095, 8191, 0, 16384, 52855, 131071, 262143, 0, 524288, 1691255, 4194303, 8388607, 0, 16777216, 54120055, 134217727, 268435455]
theorem donjonref14_Text.tab1 : rtab .any (opsOf Tryd.f29 1) = donjonref14_Text.T1 := by kernel_rfl
theorem donjonref14_Text.bits1 : waitsOk donjonref14_Text.T1.2 donjonref14_Text.B1 = true := by kernel_rfl
set_option maxHeartbeats 8000000 in
set_option maxRecDepth 100000 in
theorem donjonref14_Text.calls (k : Nat) (a0_0 : Int) (a0_1 : Int) (a0_2 : Int) (a0_3 : Int) (a0_4 : Int) (a0_5 : ByteArray) (a0_6 : Int) (a0_7 : ByteArray) (a0_8 : Int) (r : ByteArray) (w : World) (h : donjonref14_Text.f k a0_0 a0_1 a0_2 a0_3 a0_4 a0_5 a0_6 a0_7 a0_8 = some r) :
  Calls Tryd.prog 29 #[.agg #[.int .i64 a0_0, .int .i64 a0_1, .int .i64 a0_2, .int .i64 a0_3, .int .i64 a0_4, .string a0_5, .int .i64 a0_6, .string a0_7, .int .i64 a0_8]] w fun e w' => e = .returned (.string r) ∧ Below w.heap.size w w' := by
 have hu26 := Tryd.underlying26
 have hu23 := Tryd.underlying23
 have HB := Aside0.mk (Below.refl w.heap.size w)
 have H : ((donjonref14_Decimal.f k a0_0).bind fun t102 => (if t102.size + 1 ≤ 9223372036854775807 then ((donjonref4_Text.f k a0_1 a0_2 a0_3 a0_4).bind fun t103 => (if (t102 ++ (⟨#[32]⟩ : ByteArray)).size + t103.size ≤ 9223372036854775807 then (if ((t102 ++ (⟨#[32]⟩ : ByteArray)) ++ t103).size + 1 ≤ 9223372036854775807 then ((donjonref14_or.f a0_5).bind fun t104 => (if (((t102 ++ (⟨#[32]⟩ : ByteArray)) ++ t103) ++ (⟨#[32]⟩ : ByteArray)).size + t104.size ≤ 9223372036854775807 then (if ((((t102 ++ (⟨#[32]⟩ : ByteArray)) ++ t103) ++ (⟨#[32]⟩ : ByteArray)) ++ t104).size + 1 ≤ 9223372036854775807 then ((donjonref14_verb.f a0_6).bind fun t105 => (if (((((t102 ++ (⟨#[32]⟩ : ByteArray)) ++ t103) ++ (⟨#[32]⟩ : ByteArray)) ++ t104) ++ (⟨#[32]⟩ : ByteArray)).size + t105.size ≤ 9223372036854775807 then (if ((((((t102 ++ (⟨#[32]⟩ : ByteArray)) ++ t103) ++ (⟨#[32]⟩ : ByteArray)) ++ t104) ++ (⟨#[32]⟩ : ByteArray)) ++ t105).size + 1 ≤ 9223372036854775807 then ((donjonref14_or.f a0_7).bind fun t106 => (if (((((((t102 ++ (⟨#[32]⟩ : ByteArray)) ++ t103) ++ (⟨#[32]⟩ : ByteArray)) ++ t104) ++ (⟨#[32]⟩ : ByteArray)) ++ t105) ++ (⟨#[32]⟩ : ByteArray)).size + t106.size ≤ 9223372036854775807 then (if ((((((((t102 ++ (⟨#[32]⟩ : ByteArray)) ++ t103) ++ (⟨#[32]⟩ : ByteArray)) ++ t104) ++ (⟨#[32]⟩ : ByteArray)) ++ t105) ++ (⟨#[32]⟩ : ByteArray)) ++ t106).size + 1 ≤ 9223372036854775807 then ((api_Errno_Error.f a0_8).bind fun t107 => (if (((((((((t102 ++ (⟨#[32]⟩ : ByteArray)) ++ t103) ++ (⟨#[32]⟩ : ByteArray)) ++ t104) ++ (⟨#[32]⟩ : ByteArray)) ++ t105) ++ (⟨#[32]⟩ : ByteArray)) ++ t106) ++ (⟨#[32]⟩ : ByteArray)).size + t107.size ≤ 9223372036854775807 then (some ((((((((((t102 ++ (⟨#[32]⟩ : ByteArray)) ++ t103) ++ (⟨#[32]⟩ : ByteArray)) ++ t104) ++ (⟨#[32]⟩ : ByteArray)) ++ t105) ++ (⟨#[32]⟩ : ByteArray)) ++ t106) ++ (⟨#[32]⟩ : ByteArray)) ++ t107)) else (none))) else (none)) else (none))) else (none)) else (none))) else (none)) else (none))) else (none)) else (none))) else (none))) = some r := h
 clear h
 replace H := Option.bind_eq_some_iff.mp H
 obtain ⟨t102, A20, H⟩ := H
 try dsimp only at H
 have A2 := Aside0.mk A20
 clear A20
 by_cases c3 : t102.size + 1 ≤ 9223372036854775807
 ·rw [if_pos c3] at H
  have c3b0 := eq_true c3
  have c3b1 : decide (t102.size + 1 ≤ 9223372036854775807) = true := decide_eq_true c3
  try have c3b2 : (9223372036854775807 < t102.size + 1) = False := eq_false (Nat.not_lt.2 c3)
  replace H := Option.bind_eq_some_iff.mp H
  obtain ⟨t103, A40, H⟩ := H
  try dsimp only at H
  have A4 := Aside0.mk A40
  clear A40
  by_cases c5 : (t102 ++ (⟨#[32]⟩ : ByteArray)).size + t103.size ≤ 9223372036854775807
  ·rw [if_pos c5] at H
   have c5b0 := eq_true c5
   have c5b1 : decide ((t102 ++ (⟨#[32]⟩ : ByteArray)).size + t103.size ≤ 9223372036854775807) = true := decide_eq_true c5
   (try (have c5b19 := c5b1; simp only [ByteArray.size_append, show (⟨#[32]⟩ : ByteArray).size = 1 from rfl, Int.natCast_add] at c5b19))
   try have c5b2 : (9223372036854775807 < (t102 ++ (⟨#[32]⟩ : ByteArray)).size + t103.size) = False := eq_false (Nat.not_lt.2 c5)
   (try (have c5b29 := c5b2; simp only [ByteArray.size_append, show (⟨#[32]⟩ : ByteArray).size = 1 from rfl, Int.natCast_add] at c5b29))
   by_cases c6 : ((t102 ++ (⟨#[32]⟩ : ByteArray)) ++ t103).size + 1 ≤ 9223372036854775807
   ·rw [if_pos c6] at H
    have c6b0 := eq_true c6
    have c6b1 : decide (((t102 ++ (⟨#[32]⟩ : ByteArray)) ++ t103).size + 1 ≤ 9223372036854775807) = true := decide_eq_true c6
    (try (have c6b19 := c6b1; simp only [ByteArray.size_append, show (⟨#[32]⟩ : ByteArray).size = 1 from rfl, Int.natCast_add] at c6b19))
    try have c6b2 : (9223372036854775807 < ((t102 ++ (⟨#[32]⟩ : ByteArray)) ++ t103).size + 1) = False := eq_false (Nat.not_lt.2 c6)
    (try (have c6b29 := c6b2; simp only [ByteArray.size_append, show (⟨#[32]⟩ : ByteArray).size = 1 from rfl, Int.natCast_add] at c6b29))
    replace H := Option.bind_eq_some_iff.mp H
    obtain ⟨t104, A70, H⟩ := H
    try dsimp only at H
    have A7 := Aside0.mk A70
    clear A70
    by_cases c8 : (((t102 ++ (⟨#[32]⟩ : ByteArray)) ++ t103) ++ (⟨#[32]⟩ : ByteArray)).size + t104.size ≤ 9223372036854775807
    ·rw [if_pos c8] at H
     have c8b0 := eq_true c8
     have c8b1 : decide ((((t102 ++ (⟨#[32]⟩ : ByteArray)) ++ t103) ++ (⟨#[32]⟩ : ByteArray)).size + t104.size ≤ 9223372036854775807) = true := decide_eq_true c8
     (try (have c8b19 := c8b1; simp only [ByteArray.size_append, show (⟨#[32]⟩ : ByteArray).size = 1 from rfl, Int.natCast_add] at c8b19))
     try have c8b2 : (9223372036854775807 < (((t102 ++ (⟨#[32]⟩ : ByteArray)) ++ t103) ++ (⟨#[32]⟩ : ByteArray)).size + t104.size) = False := eq_false (Nat.not_lt.2 c8)
     (try (have c8b29 := c8b2; simp only [ByteArray.size_append, show (⟨#[32]⟩ : ByteArray).size = 1 from rfl, Int.natCast_add] at c8b29))
     by_cases c9 : ((((t102 ++ (⟨#[32]⟩ : ByteArray)) ++ t103) ++ (⟨#[32]⟩ : ByteArray)) ++ t104).size + 1 ≤ 9223372036854775807
     ·rw [if_pos c9] at H
      have c9b0 := eq_true c9
      have c9b1 : decide (((((t102 ++ (⟨#[32]⟩ : ByteArray)) ++ t103) ++ (⟨#[32]⟩ : ByteArray)) ++ t104).size + 1 ≤ 9223372036854775807) = true := decide_eq_true c9
      (try (have c9b19 := c9b1; simp only [ByteArray.size_append, show (⟨#[32]⟩ : ByteArray).size = 1 from rfl, Int.natCast_add] at c9b19))
      try have c9b2 : (9223372036854775807 < ((((t102 ++ (⟨#[32]⟩ : ByteArray)) ++ t103) ++ (⟨#[32]⟩ : ByteArray)) ++ t104).size + 1) = False := eq_false (Nat.not_lt.2 c9)
      (try (have c9b29 := c9b2; simp only [ByteArray.size_append, show (⟨#[32]⟩ : ByteArray).size = 1 from rfl, Int.natCast_add] at c9b29))
      replace H := Option.bind_eq_some_iff.mp H
      obtain ⟨t105, A100, H⟩ := H
      try dsimp only at H
      have A10 := Aside0.mk A100
      clear A100
      by_cases c11 : (((((t102 ++ (⟨#[32]⟩ : ByteArray)) ++ t103) ++ (⟨#[32]⟩ : ByteArray)) ++ t104) ++ (⟨#[32]⟩ : ByteArray)).size + t105.size ≤ 9223372036854775807
      ·rw [if_pos c11] at H
       have c11b0 := eq_true c11
       have c11b1 : decide ((((((t102 ++ (⟨#[32]⟩ : ByteArray)) ++ t103) ++ (⟨#[32]⟩ : ByteArray)) ++ t104) ++ (⟨#[32]⟩ : ByteArray)).size + t105.size ≤ 9223372036854775807) = true := decide_eq_true c11
       (try (have c11b19 := c11b1; simp only [ByteArray.size_append, show (⟨#[32]⟩ : ByteArray).size = 1 from rfl, Int.natCast_add] at c11b19))
       try have c11b2 : (9223372036854775807 < (((((t102 ++ (⟨#[32]⟩ : ByteArray)) ++ t103) ++ (⟨#[32]⟩ : ByteArray)) ++ t104) ++ (⟨#[32]⟩ : ByteArray)).size + t105.size) = False := eq_false (Nat.not_lt.2 c11)
       (try (have c11b29 := c11b2; simp only [ByteArray.size_append, show (⟨#[32]⟩ : ByteArray).size = 1 from rfl, Int.natCast_add] at c11b29))
       by_cases c12 : ((((((t102 ++ (⟨#[32]⟩ : ByteArray)) ++ t103) ++ (⟨#[32]⟩ : ByteArray)) ++ t104) ++ (⟨#[32]⟩ : ByteArray)) ++ t105).size + 1 ≤ 9223372036854775807
       ·rw [if_pos c12] at H
        have c12b0 := eq_true c12
        have c12b1 : decide (((((((t102 ++ (⟨#[32]⟩ : ByteArray)) ++ t103) ++ (⟨#[32]⟩ : ByteArray)) ++ t104) ++ (⟨#[32]⟩ : ByteArray)) ++ t105).size + 1 ≤ 9223372036854775807) = true := decide_eq_true c12
        (try (have c12b19 := c12b1; simp only [ByteArray.size_append, show (⟨#[32]⟩ : ByteArray).size = 1 from rfl, Int.natCast_add] at c12b19))
        try have c12b2 : (9223372036854775807 < ((((((t102 ++ (⟨#[32]⟩ : ByteArray)) ++ t103) ++ (⟨#[32]⟩ : ByteArray)) ++ t104) ++ (⟨#[32]⟩ : ByteArray)) ++ t105).size + 1) = False := eq_false (Nat.not_lt.2 c12)
        (try (have c12b29 := c12b2; simp only [ByteArray.size_append, show (⟨#[32]⟩ : ByteArray).size = 1 from rfl, Int.natCast_add] at c12b29))
        replace H := Option.bind_eq_some_iff.mp H
        obtain ⟨t106, A130, H⟩ := H
        try dsimp only at H
        have A13 := Aside0.mk A130
        clear A130
        by_cases c14 : (((((((t102 ++ (⟨#[32]⟩ : ByteArray)) ++ t103) ++ (⟨#[32]⟩ : ByteArray)) ++ t104) ++ (⟨#[32]⟩ : ByteArray)) ++ t105) ++ (⟨#[32]⟩ : ByteArray)).size + t106.size ≤ 9223372036854775807
        ·rw [if_pos c14] at H
         have c14b0 := eq_true c14
         have c14b1 : decide ((((((((t102 ++ (⟨#[32]⟩ : ByteArray)) ++ t103) ++ (⟨#[32]⟩ : ByteArray)) ++ t104) ++ (⟨#[32]⟩ : ByteArray)) ++ t105) ++ (⟨#[32]⟩ : ByteArray)).size + t106.size ≤ 9223372036854775807) = true := decide_eq_true c14
         (try (have c14b19 := c14b1; simp only [ByteArray.size_append, show (⟨#[32]⟩ : ByteArray).size = 1 from rfl, Int.natCast_add] at c14b19))
         try have c14b2 : (9223372036854775807 < (((((((t102 ++ (⟨#[32]⟩ : ByteArray)) ++ t103) ++ (⟨#[32]⟩ : ByteArray)) ++ t104) ++ (⟨#[32]⟩ : ByteArray)) ++ t105) ++ (⟨#[32]⟩ : ByteArray)).size + t106.size) = False := eq_false (Nat.not_lt.2 c14)
         (try (have c14b29 := c14b2; simp only [ByteArray.size_append, show (⟨#[32]⟩ : ByteArray).size = 1 from rfl, Int.natCast_add] at c14b29))
         by_cases c15 : ((((((((t102 ++ (⟨#[32]⟩ : ByteArray)) ++ t103) ++ (⟨#[32]⟩ : ByteArray)) ++ t104) ++ (⟨#[32]⟩ : ByteArray)) ++ t105) ++ (⟨#[32]⟩ : ByteArray)) ++ t106).size + 1 ≤ 9223372036854775807
         ·rw [if_pos c15] at H
          have c15b0 := eq_true c15
          have c15b1 : decide (((((((((t102 ++ (⟨#[32]⟩ : ByteArray)) ++ t103) ++ (⟨#[32]⟩ : ByteArray)) ++ t104) ++ (⟨#[32]⟩ : ByteArray)) ++ t105) ++ (⟨#[32]⟩ : ByteArray)) ++ t106).size + 1 ≤ 9223372036854775807) = true := decide_eq_true c15
          (try (have c15b19 := c15b1; simp only [ByteArray.size_append, show (⟨#[32]⟩ : ByteArray).size = 1 from rfl, Int.natCast_add] at c15b19))
          try have c15b2 : (9223372036854775807 < ((((((((t102 ++ (⟨#[32]⟩ : ByteArray)) ++ t103) ++ (⟨#[32]⟩ : ByteArray)) ++ t104) ++ (⟨#[32]⟩ : ByteArray)) ++ t105) ++ (⟨#[32]⟩ : ByteArray)) ++ t106).size + 1) = False := eq_false (Nat.not_lt.2 c15)
          (try (have c15b29 := c15b2; simp only [ByteArray.size_append, show (⟨#[32]⟩ : ByteArray).size = 1 from rfl, Int.natCast_add] at c15b29))
          replace H := Option.bind_eq_some_iff.mp H
          obtain ⟨t107, A160, H⟩ := H
          try dsimp only at H
          have A16 := Aside0.mk A160
          clear A160
          by_cases c17 : (((((((((t102 ++ (⟨#[32]⟩ : ByteArray)) ++ t103) ++ (⟨#[32]⟩ : ByteArray)) ++ t104) ++ (⟨#[32]⟩ : ByteArray)) ++ t105) ++ (⟨#[32]⟩ : ByteArray)) ++ t106) ++ (⟨#[32]⟩ : ByteArray)).size + t107.size ≤ 9223372036854775807
          ·rw [if_pos c17] at H
           have c17b0 := eq_true c17
           have c17b1 : decide ((((((((((t102 ++ (⟨#[32]⟩ : ByteArray)) ++ t103) ++ (⟨#[32]⟩ : ByteArray)) ++ t104) ++ (⟨#[32]⟩ : ByteArray)) ++ t105) ++ (⟨#[32]⟩ : ByteArray)) ++ t106) ++ (⟨#[32]⟩ : ByteArray)).size + t107.size ≤ 9223372036854775807) = true := decide_eq_true c17
           (try (have c17b19 := c17b1; simp only [ByteArray.size_append, show (⟨#[32]⟩ : ByteArray).size = 1 from rfl, Int.natCast_add] at c17b19))
           try have c17b2 : (9223372036854775807 < (((((((((t102 ++ (⟨#[32]⟩ : ByteArray)) ++ t103) ++ (⟨#[32]⟩ : ByteArray)) ++ t104) ++ (⟨#[32]⟩ : ByteArray)) ++ t105) ++ (⟨#[32]⟩ : ByteArray)) ++ t106) ++ (⟨#[32]⟩ : ByteArray)).size + t107.size) = False := eq_false (Nat.not_lt.2 c17)
           (try (have c17b29 := c17b2; simp only [ByteArray.size_append, show (⟨#[32]⟩ : ByteArray).size = 1 from rfl, Int.natCast_add] at c17b29))
           obtain rfl := Option.some.inj H
           go_enter Tryd.func29, Tryd.ntmps29
           try go_wp2_with (first | ((with_reducible refine gate_dst (N := 1) rfl ?_); refine box_event ?hg (N := 1) ?hd (cs := #[.int .i64 a0_0, .int .i64 a0_1, .int .i64 a0_2, .int .i64 a0_3, .int .i64 a0_4, .string a0_5, .int .i64 a0_6, .string a0_7, .int .i64 a0_8]) (t := 26) ?hr ?_; (case hd => rfl); (case hg => rfl); (case hr => first | (go_simp; done) | (go_simp; rfl)); intro gb101 hg w18 hbox hb; have n0_ := Aside0.mk (below_step (bl_ HB.out) hb); have n1_ := Aside0.mk (hbox); have n2_ := Aside0.mk ((by rw [hg]; exact (below_size (bl_ HB.out)) : w.heap.size ≤ gb101)); have n3_ := Aside0.mk ((by rw [hg]; exact (below_size (bl_ HB.out)) : w.heap.size ≤ gb101)); clear HB; have HB := n0_; have BK101 := n1_; have GW101 := n2_; have GE101 := n3_; clear n0_ n1_ n2_ n3_; clear hb hbox hg))
           have n0_ := Aside0.mk (blk_drew BK101.out)
           have n1_ := Aside0.mk (below_drew1 HB.out)
           clear BK101 HB
           have BK101 := n0_; have HB := n1_
           clear n0_ n1_
           refine start_ (n := 29) (S := fun w' => w'.cell? ⟨gb101, 0, none⟩ = some (.int .i64 a0_0) ∧ w'.cell? ⟨gb101, 1, none⟩ = some (.int .i64 a0_1) ∧ w'.cell? ⟨gb101, 2, none⟩ = some (.int .i64 a0_2) ∧ w'.cell? ⟨gb101, 3, none⟩ = some (.int .i64 a0_3) ∧ w'.cell? ⟨gb101, 4, none⟩ = some (.int .i64 a0_4) ∧ w'.cell? ⟨gb101, 5, none⟩ = some (.string a0_5) ∧ w'.cell? ⟨gb101, 6, none⟩ = some (.int .i64 a0_6) ∧ w'.cell? ⟨gb101, 7, none⟩ = some (.string a0_7) ∧ w'.cell? ⟨gb101, 8, none⟩ = some (.int .i64 a0_8)) (ds := []) #[false, false, false, false, false, false, false, false, false, false, false, false, false, false, false, false, false, false, false, false, false, false, false, false, false, false, false, false, false] (by kernel_rfl) rfl rfl ⟨(blk_cell BK101.out 0).trans rfl, (blk_cell BK101.out 1).trans rfl, (blk_cell BK101.out 2).trans rfl, (blk_cell BK101.out 3).trans rfl, (blk_cell BK101.out 4).trans rfl, (blk_cell BK101.out 5).trans rfl, (blk_cell BK101.out 6).trans rfl, (blk_cell BK101.out 7).trans rfl, (blk_cell BK101.out 8).trans rfl⟩ (fun hHeld => ?_); refine with_tabW donjonref14_Text.tab1 donjonref14_Text.bits1 (fun HT_ HW_ => ?_)
           generalize w18.drew = w19 at BK101 HB hHeld ⊢
           refine pure_ (i := 0) (N := some 3) (v := ?_) (a' := ?_) #[true, false, false, false, false, false, false, false, false, false, false, false, false, false, false, false, false, false, false, false, false, false, false, false, false, false, false, false, false] rfl rfl (any_of HT_.out (by kernel_rfl)) (fun _ _ _ h => h) (Or.inl ⟨by rfl, ?_⟩) ?_ ?_
           rotate_left
           ·intro w'
            go_simp
            with_reducible rfl
           rotate_left
           ·simp only [Act.put, xset_a, xset_z, xset_s, i64_w, i32_w]
            rfl
           refine pure_ (i := 4) (N := some 7) (v := ?_) (a' := ?_) #[true, false, false, false, true, false, false, false, false, false, false, false, false, false, false, false, false, false, false, false, false, false, false, false, false, false, false, false, false] rfl rfl (any_of HT_.out (by kernel_rfl)) (fun _ _ _ h => h) (Or.inl ⟨by rfl, ?_⟩) ?_ ?_
           rotate_left
           ·intro w'
            go_simp
            with_reducible rfl
           rotate_left
           ·simp only [Act.put, xset_a, xset_z, xset_s, i64_w, i32_w]
            rfl
           refine pure_ (i := 9) (N := some 12) (v := ?_) (a' := ?_) #[true, false, false, false, true, false, false, false, false, true, false, false, false, false, false, false, false, false, false, false, false, false, false, false, false, false, false, false, false] rfl rfl (any_of HT_.out (by kernel_rfl)) (fun _ _ _ h => h) (Or.inl ⟨by rfl, ?_⟩) ?_ ?_
           rotate_left
           ·intro w'
            go_simp
            with_reducible rfl
           rotate_left
           ·simp only [Act.put, xset_a, xset_z, xset_s, i64_w, i32_w]
            rfl
           refine pure_ (i := 14) (N := some 17) (v := ?_) (a' := ?_) #[true, false, false, false, true, false, false, false, false, true, false, false, false, false, true, false, false, false, false, false, false, false, false, false, false, false, false, false, false] rfl rfl (any_of HT_.out (by kernel_rfl)) (fun _ _ _ h => h) (Or.inl ⟨by rfl, ?_⟩) ?_ ?_
           rotate_left
           ·intro w'
            go_simp
            with_reducible rfl
           rotate_left
           ·simp only [Act.put, xset_a, xset_z, xset_s, i64_w, i32_w]
            rfl
           refine pure_ (i := 19) (N := some 22) (v := ?_) (a' := ?_) #[true, false, false, false, true, false, false, false, false, true, false, false, false, false, true, false, false, false, false, true, false, false, false, false, false, false, false, false, false] rfl rfl (any_of HT_.out (by kernel_rfl)) (fun _ _ _ h => h) (Or.inl ⟨by rfl, ?_⟩) ?_ ?_
           rotate_left
           ·intro w'
            go_simp
            with_reducible rfl
           rotate_left
           ·simp only [Act.put, xset_a, xset_z, xset_s, i64_w, i32_w]
            rfl
           refine pure_ (i := 24) (N := some 27) (v := ?_) (a' := ?_) #[true, false, false, false, true, false, false, false, false, true, false, false, false, false, true, false, false, false, false, true, false, false, false, false, true, false, false, false, false] rfl rfl (any_of HT_.out (by kernel_rfl)) (fun _ _ _ h => h) (Or.inl ⟨by rfl, ?_⟩) ?_ ?_
           rotate_left
           ·intro w'
            go_simp
            with_reducible rfl
           rotate_left
           ·simp only [Act.put, xset_a, xset_z, xset_s, i64_w, i32_w]
            rfl
           refine take_ (i := 1) (N := some 4) (v := ?_) (a' := ?_) #[true, true, false, false, true, false, false, false, false, true, false, false, false, false, true, false, false, false, false, true, false, false, false, false, true, false, false, false, false] rfl rfl (take_ofW HT_.out HW_.out (by kernel_rfl)) (fun _ _ _ h => h) (Or.inl ⟨by rfl, ?_⟩) hHeld ?_ ?_
           rotate_left
           ·rintro w' ⟨s0, s1, s2, s3, s4, s5, s6, s7, s8⟩
            go_simp
            with_reducible rfl
           rotate_left
           ·simp only [Act.put, xset_a, xset_z, xset_s, i64_w, i32_w]
            rfl
           refine take_ (i := 5) (N := some 8) (v := ?_) (a' := ?_) #[true, true, false, false, true, true, false, false, false, true, false, false, false, false, true, false, false, false, false, true, false, false, false, false, true, false, false, false, false] rfl rfl (take_ofW HT_.out HW_.out (by kernel_rfl)) (fun _ _ _ h => h) (Or.inl ⟨by rfl, ?_⟩) hHeld ?_ ?_
           rotate_left
           ·rintro w' ⟨s0, s1, s2, s3, s4, s5, s6, s7, s8⟩
            go_simp
            with_reducible rfl
           rotate_left
           ·simp only [Act.put, xset_a, xset_z, xset_s, i64_w, i32_w]
            rfl
           refine take_ (i := 10) (N := some 13) (v := ?_) (a' := ?_) #[true, true, false, false, true, true, false, false, false, true, true, false, false, false, true, false, false, false, false, true, false, false, false, false, true, false, false, false, false] rfl rfl (take_ofW HT_.out HW_.out (by kernel_rfl)) (fun _ _ _ h => h) (Or.inl ⟨by rfl, ?_⟩) hHeld ?_ ?_
           rotate_left
           ·rintro w' ⟨s0, s1, s2, s3, s4, s5, s6, s7, s8⟩
            go_simp
            with_reducible rfl
           rotate_left
           ·simp only [Act.put, xset_a, xset_z, xset_s, i64_w, i32_w]
            rfl
           refine take_ (i := 15) (N := some 18) (v := ?_) (a' := ?_) #[true, true, false, false, true, true, false, false, false, true, true, false, false, false, true, true, false, false, false, true, false, false, false, false, true, false, false, false, false] rfl rfl (take_ofW HT_.out HW_.out (by kernel_rfl)) (fun _ _ _ h => h) (Or.inl ⟨by rfl, ?_⟩) hHeld ?_ ?_
           rotate_left
           ·rintro w' ⟨s0, s1, s2, s3, s4, s5, s6, s7, s8⟩
            go_simp
            with_reducible rfl
           rotate_left
           ·simp only [Act.put, xset_a, xset_z, xset_s, i64_w, i32_w]
            rfl
           refine take_ (i := 20) (N := some 23) (v := ?_) (a' := ?_) #[true, true, false, false, true, true, false, false, false, true, true, false, false, false, true, true, false, false, false, true, true, false, false, false, true, false, false, false, false] rfl rfl (take_ofW HT_.out HW_.out (by kernel_rfl)) (fun _ _ _ h => h) (Or.inl ⟨by rfl, ?_⟩) hHeld ?_ ?_
           rotate_left
           ·rintro w' ⟨s0, s1, s2, s3, s4, s5, s6, s7, s8⟩
            go_simp
            with_reducible rfl
           rotate_left
           ·simp only [Act.put, xset_a, xset_z, xset_s, i64_w, i32_w]
            rfl
           refine take_ (i := 25) (N := some 28) (v := ?_) (a' := ?_) #[true, true, false, false, true, true, false, false, false, true, true, false, false, false, true, true, false, false, false, true, true, false, false, false, true, true, false, false, false] rfl rfl (take_ofW HT_.out HW_.out (by kernel_rfl)) (fun _ _ _ h => h) (Or.inl ⟨by rfl, ?_⟩) hHeld ?_ ?_
           rotate_left
           ·rintro w' ⟨s0, s1, s2, s3, s4, s5, s6, s7, s8⟩
            go_simp
            with_reducible rfl
           rotate_left
           ·simp only [Act.put, xset_a, xset_z, xset_s, i64_w, i32_w]
            rfl
           refine one_ (i := 2) (N := some 5) #[true, true, true, false, true, true, false, false, false, true, true, false, false, false, true, true, false, false, false, true, true, false, false, false, true, true, false, false, false] rfl rfl (one_of HT_.out (by kernel_rfl)) (by decide) (fun K hK => ?_)
           refine goes_ Tryd.func50 (by kernel_rfl) rfl #[.int .i64 a0_0] (by rfl) rfl rfl (by (try simp only [List.map_toArray, List.map_cons, List.map_nil]); first | done | rfl | (simp only [List.length_drop, List.length_take]; rfl)) ?_
           with_reducible refine (donjonref14_Decimal.calls k a0_0 t102 _ A2.out).mono ?_
           rintro e w20 ⟨rfl, hb⟩
           refine ⟨_, rfl, ?_⟩
           have n0_ := bb_ BK101 hb
           have n1_ := Aside0.mk (below_step (bl_ HB.out) hb)
           clear BK101 HB
           have BK101 := n0_; have HB := n1_
           clear n0_ n1_
           (try clear hb)
           (try clear hb2)
           (try clear hk)
           (try clear hi)
           refine hK.out _ _ ⟨(blk_cell BK101.out 0).trans rfl, (blk_cell BK101.out 1).trans rfl, (blk_cell BK101.out 2).trans rfl, (blk_cell BK101.out 3).trans rfl, (blk_cell BK101.out 4).trans rfl, (blk_cell BK101.out 5).trans rfl, (blk_cell BK101.out 6).trans rfl, (blk_cell BK101.out 7).trans rfl, (blk_cell BK101.out 8).trans rfl⟩ (fun hHeld => ?_)
           clear hK K
           refine norm_ (a' := ?_) ?_ ?_
           rotate_left
           ·show Act.put _ (some 5) _ = _
            simp only [Act.put, xset_a, xset_z, xset_s, i64_w, i32_w]
            rfl
           refine pure_ (i := 3) (N := some 6) (v := ?_) (a' := ?_) #[true, true, true, true, true, true, false, false, false, true, true, false, false, false, true, true, false, false, false, true, true, false, false, false, true, true, false, false, false] rfl rfl (any_of HT_.out (by kernel_rfl)) (fun _ _ _ h => h) (Or.inl ⟨by rfl, ?_⟩) ?_ ?_
           rotate_left
           ·intro w'
            go_simp
            with_reducible rfl
           rotate_left
           ·simp only [Act.put, xset_a, xset_z, xset_s, i64_w, i32_w]
            rfl
           refine one_ (i := 6) (N := some 9) #[true, true, true, true, true, true, true, false, false, true, true, false, false, false, true, true, false, false, false, true, true, false, false, false, true, true, false, false, false] rfl rfl (one_of HT_.out (by kernel_rfl)) (by decide) (fun K hK => ?_)
           refine goes_ Tryd.func51 (by kernel_rfl) rfl #[.agg #[.int .i64 a0_1, .int .i64 a0_2, .int .i64 a0_3, .int .i64 a0_4]] (by rfl) rfl rfl (by (try simp only [List.map_toArray, List.map_cons, List.map_nil]); first | done | rfl | (simp only [List.length_drop, List.length_take]; rfl)) ?_
           with_reducible refine (donjonref4_Text.calls k a0_1 a0_2 a0_3 a0_4 t103 _ A4.out).mono ?_
           rintro e w21 ⟨rfl, hb⟩
           refine ⟨_, rfl, ?_⟩
           have n0_ := bb_ BK101 hb
           have n1_ := Aside0.mk (below_step (bl_ HB.out) hb)
           clear BK101 HB
           have BK101 := n0_; have HB := n1_
           clear n0_ n1_
           (try clear hb)
           (try clear hb2)
           (try clear hk)
           (try clear hi)
           refine hK.out _ _ ⟨(blk_cell BK101.out 0).trans rfl, (blk_cell BK101.out 1).trans rfl, (blk_cell BK101.out 2).trans rfl, (blk_cell BK101.out 3).trans rfl, (blk_cell BK101.out 4).trans rfl, (blk_cell BK101.out 5).trans rfl, (blk_cell BK101.out 6).trans rfl, (blk_cell BK101.out 7).trans rfl, (blk_cell BK101.out 8).trans rfl⟩ (fun hHeld => ?_)
           clear hK K
           refine norm_ (a' := ?_) ?_ ?_
           rotate_left
           ·show Act.put _ (some 9) _ = _
            simp only [Act.put, xset_a, xset_z, xset_s, i64_w, i32_w]
            rfl
           refine pure_ (i := 7) (N := some 10) (v := ?_) (a' := ?_) #[true, true, true, true, true, true, true, true, false, true, true, false, false, false, true, true, false, false, false, true, true, false, false, false, true, true, false, false, false] rfl rfl (any_of HT_.out (by kernel_rfl)) (fun _ _ _ h => h) (Or.inl ⟨by rfl, ?_⟩) ?_ ?_
           rotate_left
           ·intro w'
            go_simp
            with_reducible rfl
           rotate_left
           ·simp only [Act.put, xset_a, xset_z, xset_s, i64_w, i32_w]
            rfl
           refine pure_ (i := 8) (N := some 11) (v := ?_) (a' := ?_) #[true, true, true, true, true, true, true, true, true, true, true, false, false, false, true, true, false, false, false, true, true, false, false, false, true, true, false, false, false] rfl rfl (any_of HT_.out (by kernel_rfl)) (fun _ _ _ h => h) (Or.inl ⟨by rfl, ?_⟩) ?_ ?_
           rotate_left
           ·intro w'
            go_simp
            with_reducible rfl
           rotate_left
           ·simp only [Act.put, xset_a, xset_z, xset_s, i64_w, i32_w]
            rfl
           refine one_ (i := 11) (N := some 14) #[true, true, true, true, true, true, true, true, true, true, true, true, false, false, true, true, false, false, false, true, true, false, false, false, true, true, false, false, false] rfl rfl (one_of HT_.out (by kernel_rfl)) (by decide) (fun K hK => ?_)
           refine goes_ Tryd.func52 (by kernel_rfl) rfl #[.string a0_5] (by rfl) rfl rfl (by (try simp only [List.map_toArray, List.map_cons, List.map_nil]); first | done | rfl | (simp only [List.length_drop, List.length_take]; rfl)) ?_
           with_reducible refine (donjonref14_or.calls a0_5 t104 _ A7.out).mono ?_
           rintro e w' ⟨rfl, ⟨nd, rfl⟩⟩
           refine ⟨_, rfl, ?_⟩
           refine hK.out _ _ ⟨(blk_cell BK101.out 0).trans rfl, (blk_cell BK101.out 1).trans rfl, (blk_cell BK101.out 2).trans rfl, (blk_cell BK101.out 3).trans rfl, (blk_cell BK101.out 4).trans rfl, (blk_cell BK101.out 5).trans rfl, (blk_cell BK101.out 6).trans rfl, (blk_cell BK101.out 7).trans rfl, (blk_cell BK101.out 8).trans rfl⟩ (fun hHeld => ?_)
           clear hK K
           refine norm_ (a' := ?_) ?_ ?_
           rotate_left
           ·show Act.put _ (some 14) _ = _
            simp only [Act.put, xset_a, xset_z, xset_s, i64_w, i32_w]
            rfl
           refine pure_ (i := 12) (N := some 15) (v := ?_) (a' := ?_) #[true, true, true, true, true, true, true, true, true, true, true, true, true, false, true, true, false, false, false, true, true, false, false, false, true, true, false, false, false] rfl rfl (any_of HT_.out (by kernel_rfl)) (fun _ _ _ h => h) (Or.inl ⟨by rfl, ?_⟩) ?_ ?_
           rotate_left
           ·intro w'
            go_simp
            with_reducible rfl
           rotate_left
           ·simp only [Act.put, xset_a, xset_z, xset_s, i64_w, i32_w]
            rfl
           refine pure_ (i := 13) (N := some 16) (v := ?_) (a' := ?_) #[true, true, true, true, true, true, true, true, true, true, true, true, true, true, true, true, false, false, false, true, true, false, false, false, true, true, false, false, false] rfl rfl (any_of HT_.out (by kernel_rfl)) (fun _ _ _ h => h) (Or.inl ⟨by rfl, ?_⟩) ?_ ?_
           rotate_left
           ·intro w'
            go_simp
            with_reducible rfl
           rotate_left
           ·simp only [Act.put, xset_a, xset_z, xset_s, i64_w, i32_w]
            rfl
           refine one_ (i := 16) (N := some 19) #[true, true, true, true, true, true, true, true, true, true, true, true, true, true, true, true, true, false, false, true, true, false, false, false, true, true, false, false, false] rfl rfl (one_of HT_.out (by kernel_rfl)) (by decide) (fun K hK => ?_)
           refine goes_ Tryd.func53 (by kernel_rfl) rfl #[.int .i64 a0_6] (by rfl) rfl rfl (by (try simp only [List.map_toArray, List.map_cons, List.map_nil]); first | done | rfl | (simp only [List.length_drop, List.length_take]; rfl)) ?_
           with_reducible refine (donjonref14_verb.calls a0_6 t105 _ A10.out).mono ?_
           rintro e w22 ⟨rfl, hb⟩
           refine ⟨_, rfl, ?_⟩
           have n0_ := bb_ BK101 hb
           have n1_ := Aside0.mk (below_step (bl_ HB.out) hb)
           clear BK101 HB
           have BK101 := n0_; have HB := n1_
           clear n0_ n1_
           (try clear hb)
           (try clear hb2)
           (try clear hk)
           (try clear hi)
           refine hK.out _ _ ⟨(blk_cell BK101.out 0).trans rfl, (blk_cell BK101.out 1).trans rfl, (blk_cell BK101.out 2).trans rfl, (blk_cell BK101.out 3).trans rfl, (blk_cell BK101.out 4).trans rfl, (blk_cell BK101.out 5).trans rfl, (blk_cell BK101.out 6).trans rfl, (blk_cell BK101.out 7).trans rfl, (blk_cell BK101.out 8).trans rfl⟩ (fun hHeld => ?_)
           clear hK K
           refine norm_ (a' := ?_) ?_ ?_
           rotate_left
           ·show Act.put _ (some 19) _ = _
            simp only [Act.put, xset_a, xset_z, xset_s, i64_w, i32_w]
            rfl
           refine pure_ (i := 17) (N := some 20) (v := ?_) (a' := ?_) #[true, true, true, true, true, true, true, true, true, true, true, true, true, true, true, true, true, true, false, true, true, false, false, false, true, true, false, false, false] rfl rfl (any_of HT_.out (by kernel_rfl)) (fun _ _ _ h => h) (Or.inl ⟨by rfl, ?_⟩) ?_ ?_
           rotate_left
           ·intro w'
            go_simp
            with_reducible rfl
           rotate_left
           ·simp only [Act.put, xset_a, xset_z, xset_s, i64_w, i32_w]
            rfl
           refine pure_ (i := 18) (N := some 21) (v := ?_) (a' := ?_) #[true, true, true, true, true, true, true, true, true, true, true, true, true, true, true, true, true, true, true, true, true, false, false, false, true, true, false, false, false] rfl rfl (any_of HT_.out (by kernel_rfl)) (fun _ _ _ h => h) (Or.inl ⟨by rfl, ?_⟩) ?_ ?_
           rotate_left
           ·intro w'
            go_simp
            with_reducible rfl
           rotate_left
           ·simp only [Act.put, xset_a, xset_z, xset_s, i64_w, i32_w]
            rfl
           refine one_ (i := 21) (N := some 24) #[true, true, true, true, true, true, true, true, true, true, true, true, true, true, true, true, true, true, true, true, true, true, false, false, true, true, false, false, false] rfl rfl (one_of HT_.out (by kernel_rfl)) (by decide) (fun K hK => ?_)
           refine goes_ Tryd.func52 (by kernel_rfl) rfl #[.string a0_7] (by rfl) rfl rfl (by (try simp only [List.map_toArray, List.map_cons, List.map_nil]); first | done | rfl | (simp only [List.length_drop, List.length_take]; rfl)) ?_
           with_reducible refine (donjonref14_or.calls a0_7 t106 _ A13.out).mono ?_
           rintro e w' ⟨rfl, ⟨nd, rfl⟩⟩
           refine ⟨_, rfl, ?_⟩
           refine hK.out _ _ ⟨(blk_cell BK101.out 0).trans rfl, (blk_cell BK101.out 1).trans rfl, (blk_cell BK101.out 2).trans rfl, (blk_cell BK101.out 3).trans rfl, (blk_cell BK101.out 4).trans rfl, (blk_cell BK101.out 5).trans rfl, (blk_cell BK101.out 6).trans rfl, (blk_cell BK101.out 7).trans rfl, (blk_cell BK101.out 8).trans rfl⟩ (fun hHeld => ?_)
           clear hK K
           refine norm_ (a' := ?_) ?_ ?_
           rotate_left
           ·show Act.put _ (some 24) _ = _
            simp only [Act.put, xset_a, xset_z, xset_s, i64_w, i32_w]
            rfl
           refine pure_ (i := 22) (N := some 25) (v := ?_) (a' := ?_) #[true, true, true, true, true, true, true, true, true, true, true, true, true, true, true, true, true, true, true, true, true, true, true, false, true, true, false, false, false] rfl rfl (any_of HT_.out (by kernel_rfl)) (fun _ _ _ h => h) (Or.inl ⟨by rfl, ?_⟩) ?_ ?_
           rotate_left
           ·intro w'
            go_simp
            with_reducible rfl
           rotate_left
           ·simp only [Act.put, xset_a, xset_z, xset_s, i64_w, i32_w]
            rfl
           refine pure_ (i := 23) (N := some 26) (v := ?_) (a' := ?_) #[true, true, true, true, true, true, true, true, true, true, true, true, true, true, true, true, true, true, true, true, true, true, true, true, true, true, false, false, false] rfl rfl (any_of HT_.out (by kernel_rfl)) (fun _ _ _ h => h) (Or.inl ⟨by rfl, ?_⟩) ?_ ?_
           rotate_left
           ·intro w'
            go_simp
            with_reducible rfl
           rotate_left
           ·simp only [Act.put, xset_a, xset_z, xset_s, i64_w, i32_w]
            rfl
           refine one_ (i := 26) (N := some 29) #[true, true, true, true, true, true, true, true, true, true, true, true, true, true, true, true, true, true, true, true, true, true, true, true, true, true, true, false, false] rfl rfl (one_of HT_.out (by kernel_rfl)) (by decide) (fun K hK => ?_)
           refine goes_ Tryd.func49 (by kernel_rfl) rfl #[.int .i64 a0_8] (by rfl) rfl rfl (by (try simp only [List.map_toArray, List.map_cons, List.map_nil]); first | done | rfl | (simp only [List.length_drop, List.length_take]; rfl)) ?_
           with_reducible refine (api_Errno_Error.calls a0_8 t107 _ A16.out).mono ?_
           rintro e w' ⟨rfl, ⟨nd, rfl⟩⟩
           refine ⟨_, rfl, ?_⟩
           refine hK.out _ _ ⟨(blk_cell BK101.out 0).trans rfl, (blk_cell BK101.out 1).trans rfl, (blk_cell BK101.out 2).trans rfl, (blk_cell BK101.out 3).trans rfl, (blk_cell BK101.out 4).trans rfl, (blk_cell BK101.out 5).trans rfl, (blk_cell BK101.out 6).trans rfl, (blk_cell BK101.out 7).trans rfl, (blk_cell BK101.out 8).trans rfl⟩ (fun hHeld => ?_)
           clear hK K
           refine norm_ (a' := ?_) ?_ ?_
           rotate_left
           ·show Act.put _ (some 29) _ = _
            simp only [Act.put, xset_a, xset_z, xset_s, i64_w, i32_w]
            rfl
           refine pure_ (i := 27) (N := some 30) (v := ?_) (a' := ?_) #[true, true, true, true, true, true, true, true, true, true, true, true, true, true, true, true, true, true, true, true, true, true, true, true, true, true, true, true, false] rfl rfl (any_of HT_.out (by kernel_rfl)) (fun _ _ _ h => h) (Or.inl ⟨by rfl, ?_⟩) ?_ ?_
           rotate_left
           ·intro w'
            go_simp
            with_reducible rfl
           rotate_left
           ·simp only [Act.put, xset_a, xset_z, xset_s, i64_w, i32_w]
            rfl
           refine pure_ (i := 28) (N := some 2) (v := ?_) (a' := ?_) #[true, true, true, true, true, true, true, true, true, true, true, true, true, true, true, true, true, true, true, true, true, true, true, true, true, true, true, true, true] rfl rfl (any_of HT_.out (by kernel_rfl)) (fun _ _ _ h => h) (Or.inl ⟨by rfl, ?_⟩) ?_ ?_
           rotate_left
           ·intro w'
            go_simp
            with_reducible rfl
           rotate_left
           ·simp only [Act.put, xset_a, xset_z, xset_s, i64_w, i32_w]
            rfl
           refine done_ (done_of HT_.out (by kernel_rfl)) ?_
           try go_wp2
           go_ret
           exact ⟨by first | rfl | (simp [errW_none, errW_some] <;> rfl) | (simp [*, errW_none, errW_some] <;> rfl), by repeat (first | (with_reducible first | exact HB.out | apply below_alloc | apply pw_below_drewN | apply below_drew1 | refine below_set ?_ GE101.out) | exact HB.out)⟩
          ·rw [if_neg c17] at H
           exact absurd H (by simp)
         ·rw [if_neg c15] at H
          exact absurd H (by simp)
        ·rw [if_neg c14] at H
         exact absurd H (by simp)
       ·rw [if_neg c12] at H
        exact absurd H (by simp)
      ·rw [if_neg c11] at H
       exact absurd H (by simp)
     ·rw [if_neg c9] at H
      exact absurd H (by simp)
    ·rw [if_neg c8] at H
     exact absurd H (by simp)
   ·rw [if_neg c6] at H
    exact absurd H (by simp)
  ·rw [if_neg c5] at H
   exact absurd H (by simp)
 ·rw [if_neg c3] at H
  exact absurd H (by simp)

end Go.Proofs.YtihknjmibnonjaaDoor.X
end

section
/- What is seen later holds what was seen, in its order; plain lists of labels and entries. -/
namespace Go.Proofs.YtihknjmibnonjaaDoor.Pure
open Go.RowKit Go.Proofs.YtihknjmibnonjaaDoor.X Go.Proofs.YtihknjmibnonjaaDoorW.PrintWords Go.Proofs.YtihknjmibnonjaaDoorW.PrintLast Go.Proofs.YtihknjmibnonjaaDoor.Lib Go.Proofs.YtihknjmibnonjaaDoorW.PrintMore
set_option linter.unusedVariables false
set_option linter.unusedSimpArgs false
/-- and, or of what is not below 0, in natural numbers. -/
theorem and_i64 {a b : Int} (ha0 : 0 ≤ a) (ha : a < 9223372036854775808) (hb0 : 0 ≤ b) (hb : b < 9223372036854775808) : Go.bits .and .i64 a b = ((a.toNat &&& b.toNat : Nat) : Int) := by
 have hx : a.toNat &&& b.toNat ≤ a.toNat := Nat.and_le_left
 show IntKind.i64.wrap ((BitVec.ofInt 64 a &&& BitVec.ofInt 64 b).toNat : Int) = _
 rw [BitVec.toNat_and, ofInt64_toNat ha0 (by omega), ofInt64_toNat hb0 (by omega), i64_wrap_id (by omega) (by omega)]
theorem or_i64 {a b : Int} (ha0 : 0 ≤ a) (ha : a < 9223372036854775808) (hb0 : 0 ≤ b) (hb : b < 9223372036854775808) : Go.bits .or .i64 a b = ((a.toNat ||| b.toNat : Nat) : Int) := by
 have hx : a.toNat ||| b.toNat < 2 ^ 63 := Nat.or_lt_two_pow (by omega) (by omega)
 show IntKind.i64.wrap ((BitVec.ofInt 64 a ||| BitVec.ofInt 64 b).toNat : Int) = _
 rw [BitVec.toNat_or, ofInt64_toNat ha0 (by omega), ofInt64_toNat hb0 (by omega), i64_wrap_id (by omega) (by omega)]
theorem nat_or_iff (a b : Nat) : a ||| b = a ↔ a &&& b = b := by
 constructor
 ·intro h
  rw [← h]
  apply Nat.eq_of_testBit_eq
  intro i
  simp
  intro hb
  exact .inr hb
 ·intro h
  apply Nat.eq_of_testBit_eq
  intro i
  have hi : (a &&& b).testBit i = b.testBit i := by rw [h]
  simp at hi ⊢
  exact hi
/-- May what is known at the second come to the first? -/
def overV (s c i d s' c' i' d' : Int) : Bool := decide (s' ≤ s) && (decide (c.toNat &&& c'.toNat = c'.toNat) && (decide (i ≤ i') && decide (d.toNat &&& d'.toNat = d.toNat)))
theorem mx_eq (a b : Int) : (mx a b == a) = decide (b ≤ a) := by
 unfold mx
 by_cases h : a < b
 ·rw [if_pos h, decide_eq_false (by omega)]
  simp; omega
 ·rw [if_neg h, decide_eq_true (by omega)]
  simp
theorem mn_eq (a b : Int) : (mn a b == a) = decide (a ≤ b) := by
 unfold mn
 by_cases h : b < a
 ·rw [if_pos h, decide_eq_false (by omega)]
  simp; omega
 ·rw [if_neg h, decide_eq_true (by omega)]
  simp
theorem over_f {s c i d s' c' i' d' : Int} (h : Lab s c i d) (h' : Lab s' c' i' d') : label_Over.f s c i d s' c' i' d' = some (overV s c i d s' c' i' d') := by
 obtain ⟨a1, a2, a3, a4, a5, a6, a7, a8⟩ := h
 obtain ⟨b1, b2, b3, b4, b5, b6, b7, b8⟩ := h'
 unfold label_Over.f label_Join.f overV
 rw [Option.bind_some, mx_eq, mn_eq, or_i64 a3 (by omega) b3 (by omega), and_i64 a7 (by omega) b7 (by omega)]
 congr 3
 ·rw [Bool.eq_iff_iff]
  simp only [beq_iff_eq, decide_eq_true_eq]
  rw [← nat_or_iff]
  omega
 ·congr 1
  rw [Bool.eq_iff_iff]
  simp only [beq_iff_eq, decide_eq_true_eq]
  omega
theorem ref_over_f {s c i d s' c' i' d' : Int} (h : Lab s c i d) (h' : Lab s' c' i' d') : donjonref4_Over.f s c i d s' c' i' d' = some (overV s c i d s' c' i' d') := by
 obtain ⟨a1, a2, a3, a4, a5, a6, a7, a8⟩ := h
 obtain ⟨b1, b2, b3, b4, b5, b6, b7, b8⟩ := h'
 unfold donjonref4_Over.f overV
 rw [and_i64 a3 (by omega) b3 (by omega), and_i64 a7 (by omega) b7 (by omega)]
 by_cases h1 : s' ≤ s
 ·rw [if_pos h1, decide_eq_true h1, Bool.true_and]
  by_cases h2 : c.toNat &&& c'.toNat = c'.toNat
  ·rw [if_pos (by omega), decide_eq_true h2, Bool.true_and]
   by_cases h3 : i ≤ i'
   ·rw [if_pos h3, decide_eq_true h3, Bool.true_and]
    congr 1
    rw [Bool.eq_iff_iff]
    simp only [beq_iff_eq, decide_eq_true_eq]
    omega
   ·rw [if_neg h3, decide_eq_false h3, Bool.false_and]
  ·rw [if_neg (by omega), decide_eq_false h2, Bool.false_and]
 ·rw [if_neg h1, decide_eq_false h1, Bool.false_and]
/-- In order: none is less than one ahead of it. -/
def SortedS (l : List SL) : Prop := l.Pairwise fun x y => lessS y x = false
theorem lessS_asym {x y : SL} (h : lessS x y = true) : lessS y x = false := by
 cases h2 : lessS y x
 ·rfl
 ·have := lessS_trans h h2
  rw [lessS_irrefl] at this
  cases this
theorem eq_of_sorted : ∀ {l l' : List SL}, SortedS l → SortedS l' → l.Perm l' → l = l'
 | [], l', _, _, hp => hp.nil_eq
 | a :: l, [], _, _, hp => absurd hp.length_eq (by simp)
 | a :: l, b :: l', h, h', hp => by
  obtain ⟨h1, h2⟩ := List.pairwise_cons.1 h
  obtain ⟨h1', h2'⟩ := List.pairwise_cons.1 h'
  have hab : a = b := by
   rcases List.mem_cons.1 (hp.mem_iff.1 List.mem_cons_self) with e | ha
   ·exact e
   ·rcases List.mem_cons.1 (hp.mem_iff.2 List.mem_cons_self) with e | hb
    ·exact e.symm
    ·exact lessS_tot (h1' a ha) (h1 b hb)
  subst hab
  rw [eq_of_sorted h2 h2' hp.cons_inv]
theorem sortS_sorted (l : List SL) : SortedS (sortS l) := by
 have h := List.pairwise_mergeSort (le := fun x y : SL => !lessS y x) (fun a b c h1 h2 => by
  simp only [Bool.not_eq_true'] at h1 h2 ⊢
  exact lessS_ntrans h2 h1) (fun a b => by
  cases h2 : lessS b a
  ·simp
  ·rw [lessS_asym h2]; rfl) l
 exact h.imp (fun h => by simpa using h)
theorem labOk.lab {x : SL} (h : labOk x) : Lab x.f0 x.f1 x.f2 x.f3 := by
 obtain ⟨h0, h2, h1, h3⟩ := h
 exact ⟨by omega, by omega, by omega, by omega, by omega, by omega, by omega, by omega⟩
/-- The rows of a log that is made by adding: each label's own, and no more than were added. -/
def RowsOk (rows : SL → List SE) (i : Nat) : Prop := (∀ y, (rows y).length ≤ i) ∧ ∀ y, ∀ e ∈ rows y, e.f1 = y ∧ labOk y
def addR (rows : SL → List SE) (e : SE) : SL → List SE := updR rows e.f1 (rows e.f1 ++ [(⟨((rows e.f1).length : Int) + 1, e.f1, e.f2, e.f3, e.f4, e.f5⟩ : SE)])
theorem RowsOk.add {rows : SL → List SE} {i : Nat} (h : RowsOk rows i) {e : SE} (he : labOk e.f1) : RowsOk (addR rows e) (i + 1) := by
 refine ⟨fun y => ?_, fun y x hx => ?_⟩
 ·unfold addR updR
  split
  ·have := h.1 e.f1
   simp only [List.length_append, List.length_singleton]
   omega
  ·have := h.1 y
   omega
 ·unfold addR updR at hx
  split at hx
  ·rename_i hy
   subst hy
   rcases List.mem_append.1 hx with h1 | h1
   ·exact h.2 _ x h1
   ·obtain rfl := List.mem_singleton.1 h1
    exact ⟨rfl, he⟩
  ·exact h.2 y x hx
theorem addR_sub (rows : SL → List SE) (e : SE) (y : SL) : (rows y) <+: (addR rows e y) := by
 unfold addR updR
 split
 ·rename_i hy
  subst hy
  exact List.prefix_append _ _
 ·exact List.prefix_rfl
theorem same_l0 (l : List SE) (hl : l.length ≤ 1000000) : ∀ (d k : Nat) (i : Int), 0 ≤ i → i + d = (l.length : Int) → d < k → donjonlaw14_same.l0 k l l i = some true
 | 0, k + 1, i, h0, h1, _ => by
  rw [donjonlaw14_same.l0, if_neg (by omega)]
 | d + 1, k + 1, i, h0, h1, hk => by
  rw [donjonlaw14_same.l0, if_pos (by omega), if_pos h0, if_pos (by omega)]
  simp only [beq_self_eq_true, Bool.not_true, Bool.or_self, Bool.false_eq_true, if_false]
  rw [wrap64_id (by omega) (by omega)]
  exact same_l0 l hl d k (i + 1) (by omega) (by omega) (by omega)
theorem same_self (l : List SE) (hl : l.length ≤ 1000000) : donjonlaw14_same.f (l.length + 1) l l = some true := by
 unfold donjonlaw14_same.f
 rw [if_pos rfl]
 exact same_l0 l hl l.length _ 0 (by omega) (by omega) (Nat.lt_succ_self _)
theorem LogIs.mono {w : World} {lb mb n n' base : Nat} {hdr : SL → Value} {rows : SL → List SE} (h : LogIs w lb mb n base hdr rows) (hn : n ≤ n') : LogIs w lb mb n' base hdr rows := ⟨h.1, h.2.1.mono hn, h.2.2⟩
/-- and stay over an Add. -/
theorem row_add {w w' : World} {mb base : Nat} {hdr hdr' : SL → Value} (s : LogStep w w' mb hdr) (hm : ∃ es c, w.heap[mb]? = some (.map es c)) (hok : ∀ k, k < w.heap.size → okA hdr k → okA hdr' k) {v : Value} {xs : List SE} (h : RE w base (okA hdr) v xs) : RE w' base (okA hdr') v xs :=
 Kd.R_mono (s.row hm h) (fun k hk => hok k hk.2 hk.1)
theorem log_Seen_len {w : World} {lb mb n base : Nat} {hdr : SL → Value} {rows : SL → List SE} (h : LogIs w lb mb n base hdr rows) {a : SL} (ha : okL a) (hn : n ≤ 100000) (hrow : ∀ y, okL y → (rows y).length ≤ 1000) :
  Calls Tryd.prog 20 #[.pointer (some ⟨lb, 0, none⟩), lv a] w fun e w' => ∃ (A : Option Addr) (m c : Nat) (ats : List SL) (sl : List SE), e = .returned (.slice A m c) ∧ Seen rows a ats ∧ (sortS ats).flatMap rows = sl ∧ sl.length = m ∧ RE w' w.heap.size (fun _ => True) (.slice A m c) sl ∧ Below w.heap.size w w' := by
 refine (log_Seen.calls h ha hn hrow).mono ?_
 rintro e w' ⟨v, ats, rfl, hS, hR, hb⟩
 obtain ⟨A, c, rfl⟩ := Kd.R_slice hR
 exact ⟨A, _, c, ats, _, rfl, hS, rfl, rfl, hR, hb⟩
theorem add_zero_ (ad : Addr) : ad.add 0 = ad := by cases ad; rfl
theorem drop_rd (l : List SE) (k : Int) (h0 : 0 ≤ k) (h : k < (l.length : Int)) : l.drop k.toNat = rd_T26 l k :: l.drop (k + 1).toNat := by
 rw [show (k + 1).toNat = k.toNat + 1 by omega, List.drop_eq_getElem_cons (by omega)]
 unfold rd_T26
 rw [List.getD_eq_getElem?_getD, List.getElem?_eq_getElem (by omega)]
 rfl
end Go.Proofs.YtihknjmibnonjaaDoor.Pure
end

section
/- The document's log as one row: each label's entries, all that one may see, one more in its place. -/
namespace Go.Proofs.YtihknjmibnonjaaDoor.Pure
open Go.RowKit Go.Proofs.YtihknjmibnonjaaDoor.X Go.Proofs.YtihknjmibnonjaaDoorW.PrintWords Go.Proofs.YtihknjmibnonjaaDoorW.PrintLast Go.Proofs.YtihknjmibnonjaaDoor.Lib Go.Proofs.YtihknjmibnonjaaDoorW.PrintMore
set_option linter.unusedVariables false
set_option linter.unusedSimpArgs false
/-- The entries of a label. -/
def atL (x : SL) (R : List SE) : List SE := R.filter fun e => e.f1.f0 == x.f0 && (e.f1.f1 == x.f1 && (e.f1.f2 == x.f2 && (e.f1.f3 == x.f3)))
theorem rd_mid (pre : List SE) (y : SE) (r : List SE) : rd_T26 (pre ++ y :: r) (pre.length : Int) = y := by
 unfold rd_T26
 simp
theorem all_l0 (x : SL) : ∀ (post pre acc : List SE) (k : Nat), post.length < k → pre.length + post.length ≤ 100000 → acc.length ≤ pre.length → donjonref14_All.l0 k (pre ++ post) acc (pre.length : Int) x.f0 x.f1 x.f2 x.f3 = some (acc ++ atL x post)
 | [], pre, acc, k + 1, _, _, _ => by
  rw [donjonref14_All.l0, if_neg (by simp)]
  simp [atL]
 | y :: r, pre, acc, k + 1, hk, hl, ha => by
  simp only [List.length_cons] at hk hl
  rw [donjonref14_All.l0, if_pos (by simp; omega), if_pos (by omega), rd_mid]
  by_cases h : (y.f1.f0 == x.f0 && (y.f1.f1 == x.f1 && (y.f1.f2 == x.f2 && (y.f1.f3 == x.f3)))) = true
  ·rw [if_pos h, if_pos (by omega), wrap64_id (by omega) (by omega)]
   have e := all_l0 x r (pre ++ [y]) (acc ++ [y]) k (by omega) (by simp; omega) (by simp; omega)
   rw [List.append_assoc, List.length_append] at e
   rw [show atL x (y :: r) = y :: atL x r from List.filter_cons_of_pos h]
   simpa using e
  ·rw [if_neg h, wrap64_id (by omega) (by omega)]
   have e := all_l0 x r (pre ++ [y]) acc k (by omega) (by simp; omega) (by simp; omega)
   rw [List.append_assoc, List.length_append] at e
   rw [show atL x (y :: r) = atL x r from List.filter_cons_of_neg h]
   simpa using e
theorem all_f (x : SL) (R : List SE) (k : Nat) (hk : R.length < k) (hl : R.length ≤ 100000) : donjonref14_All.f k R x.f0 x.f1 x.f2 x.f3 = some (atL x R) := by
 have h := all_l0 x R [] [] k hk (by simpa using hl) (by simp)
 simpa [donjonref14_All.f] using h
theorem full_f (x : SL) (R : List SE) (k : Nat) (hk : R.length < k) (hl : R.length ≤ 100000) : donjonref14_Full.f k R x.f0 x.f1 x.f2 x.f3 = some (decide (((atL x R).length : Int) ≥ 40)) := by
 unfold donjonref14_Full.f
 rw [all_f x R k hk hl, Option.bind_some]
def seenR (a : SL) (R : List SE) : List SE := R.filter fun e => overS a e.f1
theorem ref_over_S {x y : SL} (hx : labOk x) (hy : labOk y) : donjonref4_Over.f x.f0 x.f1 x.f2 x.f3 y.f0 y.f1 y.f2 y.f3 = some (overS x y) := by
 have h1 := over_f (labOk.lab hx) (labOk.lab hy)
 rw [over_S, Option.some.injEq] at h1
 rw [ref_over_f (labOk.lab hx) (labOk.lab hy), ← h1]
theorem seen_l0 (a : SL) (ha : labOk a) : ∀ (post pre acc : List SE) (k : Nat), (∀ e ∈ post, labOk e.f1) → post.length < k → pre.length + post.length ≤ 100000 → acc.length ≤ pre.length → donjonref14_Seen.l0 k (pre ++ post) acc (pre.length : Int) a.f0 a.f1 a.f2 a.f3 = some (acc ++ seenR a post)
 | [], pre, acc, k + 1, _, _, _, _ => by
  rw [donjonref14_Seen.l0, if_neg (by simp)]
  simp [seenR]
 | y :: r, pre, acc, k + 1, ho, hk, hl, hac => by
  simp only [List.length_cons] at hk hl
  rw [donjonref14_Seen.l0, if_pos (by simp; omega), if_pos (by omega), rd_mid, ref_over_S ha (ho y List.mem_cons_self), Option.bind_some]
  have ho2 : ∀ e ∈ r, labOk e.f1 := fun e he => ho e (List.mem_cons_of_mem _ he)
  by_cases h : overS a y.f1 = true
  ·rw [if_pos h, if_pos (by omega), wrap64_id (by omega) (by omega)]
   have e := seen_l0 a ha r (pre ++ [y]) (acc ++ [y]) k ho2 (by omega) (by simp; omega) (by simp; omega)
   rw [List.append_assoc, List.length_append] at e
   rw [show seenR a (y :: r) = y :: seenR a r from List.filter_cons_of_pos h]
   simpa using e
  ·rw [if_neg h, wrap64_id (by omega) (by omega)]
   have e := seen_l0 a ha r (pre ++ [y]) acc k ho2 (by omega) (by simp; omega) (by simp; omega)
   rw [List.append_assoc, List.length_append] at e
   rw [show seenR a (y :: r) = seenR a r from List.filter_cons_of_neg h]
   simpa using e
theorem seen_f (a : SL) (ha : labOk a) (R : List SE) (ho : ∀ e ∈ R, labOk e.f1) (k : Nat) (hk : R.length < k) (hl : R.length ≤ 100000) : donjonref14_Seen.f k R a.f0 a.f1 a.f2 a.f3 = some (seenR a R) := by
 have h := seen_l0 a ha R [] [] k ho hk (by simpa using hl) (by simp)
 simpa [donjonref14_Seen.f] using h
/-- One more, behind whatever's label is not more than its own. -/
def insE (e : SE) : List SE → List SE
 | [] => [e]
 | y :: r => if lessS e.f1 y.f1 = true then e :: y :: r else y :: insE e r
theorem insE_length (e : SE) : ∀ R : List SE, (insE e R).length = R.length + 1
 | [] => rfl
 | y :: r => by
  unfold insE
  split
  ·rfl
  ·simp [insE_length e r]
theorem insE_mem {e y : SE} : ∀ {R : List SE}, y ∈ insE e R → y = e ∨ y ∈ R
 | [], h => .inl (List.mem_singleton.1 h)
 | z :: r, h => by
  unfold insE at h
  split at h
  ·rcases List.mem_cons.1 h with h | h
   ·exact .inl h
   ·exact .inr h
  ·rcases List.mem_cons.1 h with h | h
   ·exact .inr (h ▸ List.mem_cons_self)
   ·rcases insE_mem h with h | h
    ·exact .inl h
    ·exact .inr (List.mem_cons_of_mem _ h)
/-- In order of labels. -/
def SortedE (R : List SE) : Prop := R.Pairwise fun x y => lessS y.f1 x.f1 = false
theorem insE_sorted (e : SE) : ∀ {R : List SE}, SortedE R → SortedE (insE e R)
 | [], _ => by simp [insE, SortedE]
 | y :: r, h => by
  obtain ⟨h1, h2⟩ := List.pairwise_cons.1 h
  unfold insE
  split
  ·rename_i hxy
   refine List.pairwise_cons.2 ⟨fun z hz => ?_, h⟩
   rcases List.mem_cons.1 hz with rfl | hz
   ·exact lessS_asym hxy
   ·exact lessS_ntrans (h1 z hz) (lessS_asym hxy)
  ·rename_i hxy
   refine List.pairwise_cons.2 ⟨fun z hz => ?_, insE_sorted e h2⟩
   rcases insE_mem hz with rfl | hz
   ·simpa using hxy
   ·exact h1 z hz
end Go.Proofs.YtihknjmibnonjaaDoor.Pure
end

section
/- The document's log: Add, Chain; what one sees in it is what the log tells. -/
namespace Go.Proofs.YtihknjmibnonjaaDoor.Pure
open Go.RowKit Go.Proofs.YtihknjmibnonjaaDoor.X Go.Proofs.YtihknjmibnonjaaDoorW.PrintWords Go.Proofs.YtihknjmibnonjaaDoorW.PrintLast Go.Proofs.YtihknjmibnonjaaDoor.Lib Go.Proofs.YtihknjmibnonjaaDoorW.PrintMore
set_option linter.unusedVariables false
set_option linter.unusedSimpArgs false
theorem less_f (x y : SL) : donjonref4_Less.f x.f0 x.f1 x.f2 x.f3 y.f0 y.f1 y.f2 y.f3 = some (lessS x y) := by
 unfold donjonref4_Less.f lessS lessK
 by_cases h0 : x.f0 = y.f0 <;> by_cases h1 : x.f1 = y.f1 <;> by_cases h2 : x.f2 = y.f2 <;> by_cases h3 : x.f3 = y.f3 <;> simp [h0, h1, h2, h3]
theorem check4_f (x : SL) : donjonref4_Check.f x.f0 x.f1 x.f2 x.f3 = some (if labOk x then 0 else 1) := by
 unfold donjonref4_Check.f
 by_cases h : labOk x
 ·obtain ⟨⟨h0, h1⟩, ⟨h2, h3⟩, ⟨h4, h5⟩, h6, h7⟩ := h
  rw [if_neg (by omega), if_neg (by omega), if_neg (by omega), if_neg (by omega), if_neg (by omega), if_neg (by omega), if_neg (by omega), if_neg (by omega), if_pos (show labOk x from ⟨⟨h0, h1⟩, ⟨h2, h3⟩, ⟨h4, h5⟩, h6, h7⟩)]
 ·rw [if_neg h]
  repeat' split
  all_goals first
   | rfl
   | exact absurd (show labOk x from ⟨⟨by omega, by omega⟩, ⟨by omega, by omega⟩, ⟨by omega, by omega⟩, by omega, by omega⟩) h
theorem may14_f (e : SE) : donjonref14_May.f e.f0 e.f1.f0 e.f1.f1 e.f1.f2 e.f1.f3 e.f2 e.f3 e.f4 e.f5 = some (if mayE e then 0 else 1) := by
 unfold donjonref14_May.f
 rw [check4_f, Option.bind_some]
 by_cases h0 : labOk e.f1
 ·rw [if_pos h0, if_pos rfl]
  by_cases h1 : e.f3 < 1
  ·rw [if_pos h1, if_neg (fun h : mayE e => h.2.1 h1)]
  ·rw [if_neg h1]
   by_cases h2 : e.f3 > 14
   ·rw [if_pos h2, if_neg (fun h : mayE e => h.2.2.1 h2)]
   ·rw [if_neg h2]
    by_cases h3 : (e.f2.size : Int) > 78
    ·rw [if_pos h3, if_neg (fun h : mayE e => h.2.2.2.1 h3)]
    ·rw [if_neg h3]
     by_cases h4 : (e.f4.size : Int) > 78
     ·rw [if_pos h4, if_neg (fun h : mayE e => h.2.2.2.2.1 h4)]
     ·rw [if_neg h4]
      by_cases h5 : e.f5 < 0
      ·rw [if_pos h5, if_neg (fun h : mayE e => h.2.2.2.2.2.1 h5)]
      ·rw [if_neg h5]
       by_cases h6 : e.f5 > 255
       ·rw [if_pos h6, if_neg (fun h : mayE e => h.2.2.2.2.2.2 h6)]
       ·rw [if_neg h6, if_pos (show mayE e from ⟨h0, h1, h2, h3, h4, h5, h6⟩)]
 ·rw [if_neg h0, if_neg (by decide), if_neg (fun h : mayE e => h0 h.1)]
theorem atL_le (x : SL) (R : List SE) : (atL x R).length ≤ R.length := List.length_filter_le _ _
theorem enc10k (e : SE) (k : Nat) (h2 : e.f2.size ≤ 255) (h4 : e.f4.size ≤ 255) : donjonref10_EncodeEntry.f (k + 9) e.f0 e.f1.f0 e.f1.f1 e.f1.f2 e.f1.f3 e.f2 e.f3 e.f4 e.f5 = some (encE e) := by
 have l4 := encStr_length e.f2
 have l5 := encStr_length e.f4
 unfold donjonref10_EncodeEntry.f
 rw [ref_num [] e.f0 (by simp) k, Option.bind_some, ref_lab _ _ _ _ _ (by simp [numB]), Option.bind_some, ref_text _ _ (by simp [numB, encLab]) (by omega), Option.bind_some, Option.bind_some, if_pos (by simp [numB, encLab, l4]; omega), ref_text _ _ (by simp [numB, encLab, l4]; omega) (by omega), Option.bind_some, Option.bind_some, if_pos (by simp [numB, encLab, l4, l5]; omega)]
 simp [encB, encE]
theorem chain14_l0 : ∀ (post pre : List SE) (k : Nat), (∀ e ∈ post, e.f2.size ≤ 78 ∧ e.f4.size ≤ 78) → post.length + 200 < k → pre.length + post.length ≤ 100000 → donjonref14_Chain.l0 k (chainE pre) (pre ++ post) (pre.length : Int) = some (chainE (pre ++ post))
 | [], pre, k + 1, _, _, _ => by
  rw [donjonref14_Chain.l0, if_neg (by simp)]
  simp
 | y :: r, pre, k + 1, ho, hk, hl => by
  simp only [List.length_cons] at hk hl
  obtain ⟨h2, h4⟩ := ho y List.mem_cons_self
  have hlen := encE_length y
  obtain ⟨k', hk'⟩ : ∃ k', k = k' + 9 := ⟨k - 9, by omega⟩
  rw [donjonref14_Chain.l0, if_pos (by simp; omega), if_pos (by omega), rd_mid, hk', enc10k y k' (by omega) (by omega), Option.bind_some, ← hk', ref_chain_f (encE y) (by omega) k (by omega), Option.bind_some, wrap64_id (by omega) (by omega), ← chainE_add]
  have e := chain14_l0 r (pre ++ [y]) k (fun z hz => ho z (List.mem_cons_of_mem _ hz)) (by omega) (by simp; omega)
  rw [List.append_assoc, List.length_append] at e
  simpa using e
theorem chain14_f (x : SL) (R : List SE) (ho : ∀ e ∈ R, e.f2.size ≤ 78 ∧ e.f4.size ≤ 78) (k : Nat) (hk : R.length + 300 < k) (hl : R.length ≤ 100000) : donjonref14_Chain.f k R x.f0 x.f1 x.f2 x.f3 = some (chainE (atL x R)) := by
 have hle := atL_le x R
 have h1 := chain14_l0 (atL x R) [] k (fun e he => ho e (List.mem_filter.1 he).1) (by omega) (by simp; omega)
 have hs : (⟨#[]⟩ : ByteArray).size = 0 := rfl
 unfold donjonref14_Chain.f
 rw [ref_of_f 0 (⟨#[]⟩ : ByteArray) (by rw [hs]; omega) k (by rw [hs]; omega), Option.bind_some, all_f x R k (by omega) hl, Option.bind_some]
 rw [chainE_nil] at h1
 simpa using h1
theorem atL_eq (x : SL) (R : List SE) : atL x R = R.filter fun e => decide (e.f1 = x) := by
 unfold atL
 congr 1
 funext e
 exact eq_beq x e.f1
theorem mem_atL {x : SL} {R : List SE} {e : SE} : e ∈ atL x R ↔ e ∈ R ∧ e.f1 = x := by
 rw [atL_eq, List.mem_filter, decide_eq_true_eq]
/-- What a label has comes first where none is less. -/
theorem split_min (x : SL) : ∀ {F : List SE}, SortedE F → (∀ e ∈ F, lessS e.f1 x = false) → atL x F ++ F.filter (fun e => !decide (e.f1 = x)) = F
 | [], _, _ => rfl
 | e :: r, h, hm => by
  obtain ⟨h1, h2⟩ := List.pairwise_cons.1 h
  have ih := split_min x h2 (fun z hz => hm z (List.mem_cons_of_mem _ hz))
  rw [atL_eq] at ih ⊢
  by_cases he : e.f1 = x
  ·rw [List.filter_cons_of_pos (by simpa using he), List.filter_cons_of_neg (by simpa using he), List.cons_append, ih]
  ·have hx : ∀ z ∈ r, z.f1 ≠ x := fun z hz hzx => by
    have h3 := h1 z hz
    rw [hzx] at h3
    exact he (lessS_tot (hm e List.mem_cons_self) h3)
   have h4 : (r.filter fun e => decide (e.f1 = x)) = [] := List.filter_eq_nil_iff.2 (fun z hz => by simpa using hx z hz)
   rw [h4, List.nil_append] at ih
   rw [List.filter_cons_of_neg (by simpa using he), List.filter_cons_of_pos (by simpa using he), h4, ih]
   rfl
theorem congr_flat (f g : SL → List SE) : ∀ L : List SL, (∀ y ∈ L, f y = g y) → L.flatMap f = L.flatMap g
 | [], _ => rfl
 | y :: L, h => by
  rw [List.flatMap_cons, List.flatMap_cons, h y List.mem_cons_self, congr_flat f g L (fun z hz => h z (List.mem_cons_of_mem _ hz))]
/-- What all there is of some labels is, label by label. -/
theorem flat_all : ∀ (L : List SL) (F : List SE), SortedS L → L.Nodup → SortedE F → (∀ e ∈ F, e.f1 ∈ L) → L.flatMap (fun x => atL x F) = F
 | [], F, _, _, _, h => by
  cases F with
  | nil => rfl
  | cons e r => exact absurd (h e List.mem_cons_self) (by simp)
 | x :: L, F, hs, hn, hF, h => by
  obtain ⟨s1, s2⟩ := List.pairwise_cons.1 hs
  obtain ⟨n1, n2⟩ := List.nodup_cons.1 hn
  have hsp := split_min x hF (fun e he => by
   rcases List.mem_cons.1 (h e he) with h1 | h1
   ·rw [h1]; exact lessS_irrefl x
   ·exact s1 _ h1)
  have hr : ∀ e ∈ F.filter (fun e => !decide (e.f1 = x)), e.f1 ∈ L := fun e he => by
   obtain ⟨h1, h2⟩ := List.mem_filter.1 he
   rcases List.mem_cons.1 (h e h1) with h3 | h3
   ·simp [h3] at h2
   ·exact h3
  have ih := flat_all L (F.filter (fun e => !decide (e.f1 = x))) s2 n2 (List.Pairwise.sublist List.filter_sublist hF) hr
  rw [List.flatMap_cons]
  have hc : L.flatMap (fun y => atL y F) = L.flatMap (fun y => atL y (F.filter (fun e => !decide (e.f1 = x)))) := by
   refine congr_flat _ _ L (fun y hy => ?_)
   rw [atL_eq, atL_eq, List.filter_filter]
   refine List.filter_congr (fun e _ => ?_)
   by_cases he : e.f1 = y
   ·have hyx : y ≠ x := fun e2 => n1 (e2 ▸ hy)
    simp [he, hyx]
   ·simp [he]
  rw [hc, ih]
  exact hsp
end Go.Proofs.YtihknjmibnonjaaDoor.Pure
end

section
/- The log and the document's row: what the one tells the other tells. -/
namespace Go.Proofs.YtihknjmibnonjaaDoor.Pure
open Go.RowKit Go.Proofs.YtihknjmibnonjaaDoor.X Go.Proofs.YtihknjmibnonjaaDoorW.PrintWords Go.Proofs.YtihknjmibnonjaaDoorW.PrintLast Go.Proofs.YtihknjmibnonjaaDoor.Lib Go.Proofs.YtihknjmibnonjaaDoorW.PrintMore
set_option linter.unusedVariables false
set_option linter.unusedSimpArgs false
/-- A row in order of labels whose labels' entries are a log's rows. -/
structure Tells (rows : SL → List SE) (R : List SE) (n : Nat) : Prop where
 rows : ∀ x, rows x = atL x R
 sorted : SortedE R
 lab : ∀ e ∈ R, labOk e.f1
 size : ∀ e ∈ R, e.f2.size ≤ 78 ∧ e.f4.size ≤ 78
 len : R.length ≤ n
theorem atL_ins (x : SL) (e : SE) : ∀ {R : List SE}, SortedE R → atL x (insE e R) = if e.f1 = x then atL x R ++ [e] else atL x R
 | [], _ => by
  unfold insE
  rw [atL_eq, atL_eq]
  by_cases h : e.f1 = x <;> simp [h]
 | y :: r, hs => by
  obtain ⟨h1, h2⟩ := List.pairwise_cons.1 hs
  unfold insE
  split
  ·rename_i hl
   have hne : ∀ z ∈ y :: r, lessS e.f1 z.f1 = true := fun z hz => by
    rcases List.mem_cons.1 hz with rfl | hz
    ·exact hl
    ·by_cases h3 : lessS e.f1 z.f1 = true
     ·exact h3
     ·have h4 := lessS_ntrans (by simpa using h3) (h1 z hz)
      rw [hl] at h4
      cases h4
   rw [atL_eq, atL_eq]
   by_cases h : e.f1 = x
   ·have h5 : (y :: r).filter (fun e => decide (e.f1 = x)) = [] := List.filter_eq_nil_iff.2 (fun z hz => by
     have h6 := hne z hz
     simp only [decide_eq_true_eq]
     intro h7
     rw [h, ← h7, lessS_irrefl] at h6
     cases h6)
    rw [if_pos h, List.filter_cons_of_pos (by simpa using h), h5]
    rfl
   ·rw [if_neg h, List.filter_cons_of_neg (by simpa using h)]
  ·rename_i hl
   have ih := atL_ins x e h2
   rw [atL_eq, atL_eq] at ih ⊢
   by_cases hy : y.f1 = x
   ·rw [List.filter_cons_of_pos (by simpa using hy), ih, List.filter_cons_of_pos (by simpa using hy)]
    split <;> rfl
   ·rw [List.filter_cons_of_neg (by simpa using hy), ih, List.filter_cons_of_neg (by simpa using hy)]
theorem Tells.add {rows : SL → List SE} {R : List SE} {n : Nat} (h : Tells rows R n) {e : SE} (hm : mayE e) : Tells (addR rows e) (insE (⟨((atL e.f1 R).length : Int) + 1, e.f1, e.f2, e.f3, e.f4, e.f5⟩ : SE) R) (n + 1) := by
 refine ⟨fun x => ?_, insE_sorted _ h.sorted, fun z hz => ?_, fun z hz => ?_, ?_⟩
 ·rw [atL_ins x _ h.sorted]
  unfold addR updR
  rw [h.rows]
  by_cases hx : x = e.f1
  ·subst hx
   rw [if_pos rfl, if_pos rfl]
  ·rw [if_neg hx, if_neg (fun e2 => hx e2.symm), h.rows]
 ·rcases insE_mem hz with rfl | hz
  ·exact hm.1
  ·exact h.lab z hz
 ·rcases insE_mem hz with rfl | hz
  ·have h1 := hm.2.2.2.1
   have h2 := hm.2.2.2.2.1
   exact ⟨by show e.f2.size ≤ 78; omega, by show e.f4.size ≤ 78; omega⟩
  ·exact h.size z hz
 ·rw [insE_length]
  have := h.len
  omega
theorem Tells.mono {rows : SL → List SE} {R : List SE} {n m : Nat} (h : Tells rows R n) (hn : n ≤ m) : Tells rows R m := ⟨h.rows, h.sorted, h.lab, h.size, Nat.le_trans h.len hn⟩
theorem Tells.none : Tells (fun _ => []) [] 0 := ⟨fun _ => rfl, List.Pairwise.nil, (fun _ h => by cases h), (fun _ h => by cases h), Nat.le_refl _⟩
/-- What one sees in the log is what one sees in the row. -/
theorem Tells.seen {rows : SL → List SE} {R : List SE} {n : Nat} (h : Tells rows R n) {a : SL} {ats : List SL} (hS : Seen rows a ats) : (sortS ats).flatMap rows = seenR a R := by
 have hs : SortedE (seenR a R) := List.Pairwise.sublist List.filter_sublist h.sorted
 have h1 := flat_all (sortS ats) (seenR a R) (sortS_sorted ats) ((sortS_perm2 ats).nodup_iff.2 hS.2.1) hs (fun e he => by
  obtain ⟨h2, h3⟩ := List.mem_filter.1 he
  refine (sortS_perm2 ats).mem_iff.2 (hS.2.2 e.f1 (h.lab e h2).wf h3 (fun h4 => ?_))
  have h5 : e ∈ atL e.f1 R := mem_atL.2 ⟨h2, rfl⟩
  rw [← h.rows, h4] at h5
  cases h5)
 rw [← h1]
 refine congr_flat _ _ _ (fun y hy => ?_)
 have ho := (hS.1 y ((sortS_perm2 ats).mem_iff.1 hy)).2
 rw [h.rows, atL_eq, atL_eq]
 unfold seenR
 rw [List.filter_filter]
 refine List.filter_congr (fun e _ => ?_)
 by_cases he : e.f1 = y
 ·simp [he, ho]
 ·simp [he]
end Go.Proofs.YtihknjmibnonjaaDoor.Pure
end

section
/- The document's text of an entry is the program's. -/
namespace Go.Proofs.YtihknjmibnonjaaDoor.Pure
open Go.RowKit Go.Proofs.YtihknjmibnonjaaDoor.X Go.Proofs.YtihknjmibnonjaaDoorW.PrintWords Go.Proofs.YtihknjmibnonjaaDoorW.PrintLast Go.Proofs.YtihknjmibnonjaaDoor.Lib Go.Proofs.YtihknjmibnonjaaDoorW.PrintMore
set_option linter.unusedVariables false
set_option linter.unusedSimpArgs false
theorem digit_f (m : Nat) (h : m < 10) : strOfNums (([(IntKind.u64.wrap (48 + (m : Int))) % 256] : List Int)) = ⟨#[UInt8.ofNat (48 + m)]⟩ := by
 have e : IntKind.u64.wrap (48 + (m : Int)) % 256 = ((48 + m : Nat) : Int) := by rw [u64_wrap]; omega
 rw [e]
 rfl
theorem bytes_app (a b : List UInt8) : (⟨a.toArray⟩ : ByteArray) ++ ⟨b.toArray⟩ = ⟨(a ++ b).toArray⟩ := by
 apply ByteArray.ext
 simp
theorem digits14 : ∀ (k m : Nat), k ≤ 40 → m < 10 ^ (k + 1) → m < 18446744073709551616 → donjonref14_digits.f (k + 1) (m : Int) = some ⟨(Lib.decDigits m).toArray⟩ ∧ (Lib.decDigits m).length ≤ k + 1
 | 0, m, _, h, _ => by
  have h1 : m < 10 := by simpa using h
  have hd : Lib.decDigits m = [UInt8.ofNat (48 + m)] := by
   rw [Lib.decDigits]
   simp [h1]
  rw [donjonref14_digits.f, if_neg (by omega), digit_f m h1, hd]
  exact ⟨rfl, by simp⟩
 | k + 1, m, hk40, h, hb => by
  by_cases h1 : m < 10
  ·have hd : Lib.decDigits m = [UInt8.ofNat (48 + m)] := by
    rw [Lib.decDigits]
    simp [h1]
   rw [donjonref14_digits.f, if_neg (by omega), digit_f m h1, hd]
   exact ⟨rfl, by simp⟩
  ·have e1 : IntKind.u64.wrap (Int.tdiv (m : Int) 10) = ((m / 10 : Nat) : Int) := by
    rw [Int.tdiv_eq_ediv_of_nonneg (by omega), u64_wrap]
    omega
   have e2 : Int.tmod (m : Int) 10 = ((m % 10 : Nat) : Int) := by
    rw [Int.tmod_eq_emod_of_nonneg (by omega)]
    omega
   have hp : 10 ^ (k + 1 + 1) = 10 ^ (k + 1) * 10 := Nat.pow_succ _ _
   have hp1 : 1 ≤ 10 ^ k := Nat.one_le_pow _ _ (by omega)
   have hp2 : 10 ^ (k + 1) = 10 ^ k * 10 := Nat.pow_succ _ _
   obtain ⟨a1, a2⟩ := digits14 k (m / 10) (by omega) (by omega) (by omega)
   obtain ⟨b1, b2⟩ := digits14 k (m % 10) (by omega) (by omega) (by omega)
   have hd : Lib.decDigits m = Lib.decDigits (m / 10) ++ Lib.decDigits (m % 10) := by
    rw [Lib.decDigits, dif_neg h1, Lib.decDigits_one (i := m % 10) (by omega)]
   have hone : (Lib.decDigits (m % 10)).length = 1 := by rw [Lib.decDigits_one (by omega)]; rfl
   have hsz : ∀ l : List UInt8, (⟨l.toArray⟩ : ByteArray).size = l.length := fun l => by simp [ByteArray.size]
   rw [donjonref14_digits.f, if_pos (by omega), e1, e2, a1, Option.bind_some, b1, Option.bind_some, if_pos (by rw [hsz, hsz]; omega)]
   refine ⟨?_, by rw [hd, List.length_append]; omega⟩
   rw [hd]
   congr 1
theorem decimal14 (n : Int) (h : fits64 n) : donjonref14_Decimal.f 40 n = some (numeralB n) ∧ (numeralB n).size ≤ 31 := by
 have hsz : ∀ l : List UInt8, (⟨l.toArray⟩ : ByteArray).size = l.length := fun l => by simp [ByteArray.size]
 have hlen := Lib.itoa_length_le n h.1 h.2
 refine ⟨?_, by unfold numeralB; rw [hsz]; omega⟩
 obtain ⟨h0, h1⟩ := h
 unfold donjonref14_Decimal.f numeralB Lib.itoa
 by_cases hn : n < 0
 ·have e : IntKind.u64.wrap (-(IntKind.u64.wrap n)) = ((n.natAbs : Nat) : Int) := by rw [u64_wrap, u64_wrap]; omega
  obtain ⟨a1, a2⟩ := digits14 39 n.natAbs (by omega) (Nat.lt_of_lt_of_le (show n.natAbs < 18446744073709551616 by omega) (by decide)) (by omega)
  rw [if_pos hn, if_pos hn, e, a1, Option.bind_some, if_pos (by rw [hsz]; omega)]
  congr 1
 ·have e : IntKind.u64.wrap n = ((n.toNat : Nat) : Int) := by rw [u64_wrap]; omega
  obtain ⟨a1, a2⟩ := digits14 39 n.toNat (by omega) (Nat.lt_of_lt_of_le (show n.toNat < 18446744073709551616 by omega) (by decide)) (by omega)
  rw [if_neg hn, if_neg hn, e, a1, Option.bind_some]
theorem or14 (s : ByteArray) : donjonref14_or.f s = some (wordB s) := by
 unfold donjonref14_or.f wordB
 split <;> rfl
theorem verb14 (v : Int) (h0 : 1 ≤ v) (h1 : v ≤ 14) : donjonref14_verb.f v = some (wordB (verbW v)) := by
 have h : v = 1 ∨ v = 2 ∨ v = 3 ∨ v = 4 ∨ v = 5 ∨ v = 6 ∨ v = 7 ∨ v = 8 ∨ v = 9 ∨ v = 10 ∨ v = 11 ∨ v = 12 ∨ v = 13 ∨ v = 14 := by omega
 rcases h with rfl | rfl | rfl | rfl | rfl | rfl | rfl | rfl | rfl | rfl | rfl | rfl | rfl | rfl <;> decide +kernel
theorem dec_small : ∀ n : Fin 256, donjonref4_decimal.f 40 (n.val : Int) = some (numeralB (n.val : Int)) ∧ (numeralB (n.val : Int)).size ≤ 3 := by decide +kernel
theorem dec_ok {n : Int} (h0 : 0 ≤ n) (h1 : n < 256) : donjonref4_decimal.f 40 n = some (numeralB n) ∧ (numeralB n).size ≤ 3 := by
 have h := dec_small ⟨n.toNat, by omega⟩
 have e : ((n.toNat : Nat) : Int) = n := by omega
 simp only [e] at h
 exact h
theorem textV_list (a b c d : Int) : (textV a b c d).data.toList = (numeralB a).data.toList ++ 46 :: ((numeralB b).data.toList ++ 46 :: ((numeralB c).data.toList ++ 46 :: (numeralB d).data.toList)) := by
 simp [textV, firstT, nth4, numeralB, Lib.join, List.intercalate]
theorem bytes_eq {a b : ByteArray} (h : a.data.toList = b.data.toList) : a = b := by
 obtain ⟨⟨a⟩⟩ := a
 obtain ⟨⟨b⟩⟩ := b
 simpa using h
theorem ref_text4 {a b c d : Int} (h : Lab a b c d) : donjonref4_Text.f 40 a b c d = some (textV a b c d) ∧ (textV a b c d).size ≤ 20 := by
 obtain ⟨a0, a1, b0, b1, c0, c1, d0, d1⟩ := h
 obtain ⟨ea, sa⟩ := dec_ok a0 (by omega)
 obtain ⟨eb, sb⟩ := dec_ok b0 b1
 obtain ⟨ec, sc⟩ := dec_ok c0 (by omega)
 obtain ⟨ed, sd⟩ := dec_ok d0 d1
 have z : (⟨#[46]⟩ : ByteArray).size = 1 := rfl
 have hl := textV_list a b c d
 have hs : (textV a b c d).size = (numeralB a).size + 1 + (numeralB b).size + 1 + (numeralB c).size + 1 + (numeralB d).size := by
  have h1 := congrArg List.length hl
  simp only [List.length_append, List.length_cons, Array.length_toList] at h1
  simp only [ByteArray.size]
  omega
 refine ⟨?_, by omega⟩
 unfold donjonref4_Text.f
 rw [ea, Option.bind_some, if_pos (by omega), eb, Option.bind_some, if_pos (by simp only [ByteArray.size_append, z]; omega), if_pos (by simp only [ByteArray.size_append, z]; omega), ec, Option.bind_some, if_pos (by simp only [ByteArray.size_append, z]; omega), if_pos (by simp only [ByteArray.size_append, z]; omega), ed, Option.bind_some, if_pos (by simp only [ByteArray.size_append, z]; omega)]
 congr 1
 apply bytes_eq
 rw [hl]
 simp only [ByteArray.data_append, Array.toList_append, List.append_assoc]
 rfl
/-- The document's text of an entry that may be. -/
theorem text14_f (e : SE) (hm : mayE e) (h0 : fits64 e.f0) (ew : ByteArray) (hew : api_Errno_Error.f e.f5 = some ew) (hs : ew.size ≤ 1000) : donjonref14_Text.f 40 e.f0 e.f1.f0 e.f1.f1 e.f1.f2 e.f1.f3 e.f2 e.f3 e.f4 e.f5 = some (textE e ew) := by
 obtain ⟨d1, d2⟩ := decimal14 e.f0 h0
 obtain ⟨t1, t2⟩ := ref_text4 (labOk.lab hm.1)
 have hv := verb14 e.f3 (by have := hm.2.1; omega) (by have := hm.2.2.1; omega)
 have z : (⟨#[32]⟩ : ByteArray).size = 1 := rfl
 have w2 : (wordB e.f2).size ≤ 79 := by
  have h1 := word_short e.f2
  have h2 : ¬ (e.f2.size : Int) > 78 := hm.2.2.2.1
  simp only [Array.length_toList] at h1
  have h3 : e.f2.data.size = e.f2.size := rfl
  show (wordB e.f2).data.size ≤ 79
  omega
 have w3 : (wordB (verbW e.f3)).size ≤ 8 := by
  have h1 := word_short (verbW e.f3)
  have h2 := verb_short e.f3
  simp only [Array.length_toList] at h1 h2
  simp only [ByteArray.size]
  omega
 have w4 : (wordB e.f4).size ≤ 79 := by
  have h1 := word_short e.f4
  have h2 : ¬ (e.f4.size : Int) > 78 := hm.2.2.2.2.1
  simp only [Array.length_toList] at h1
  have h3 : e.f4.data.size = e.f4.size := rfl
  show (wordB e.f4).data.size ≤ 79
  omega
 unfold donjonref14_Text.f
 rw [d1, t1, or14, or14, hv, hew]
 simp only [Option.bind_some]
 repeat rw [if_pos (by (try simp only [ByteArray.size_append, z]); omega)]
 congr 1
 apply bytes_eq
 simp only [textE, partsE, ByteArray.data_append, Array.toList_append, List.append_assoc, List.map_cons, List.map_nil, Lib.join, List.intercalate, List.intersperse, List.flatten_cons, List.flatten_nil, List.append_nil]
/-- A verdict's word. -/
def errW (v : Int) : ByteArray := (api_Errno_Error.f v).getD ⟨#[]⟩
theorem err_small : ∀ n : Fin 256, (api_Errno_Error.f (n.val : Int)).isSome = true ∧ (errW (n.val : Int)).size ≤ 1000 := by decide +kernel
theorem err_ok {v : Int} (h0 : 0 ≤ v) (h1 : v ≤ 255) : api_Errno_Error.f v = some (errW v) ∧ (errW v).size ≤ 1000 := by
 have h := err_small ⟨v.toNat, by omega⟩
 have e : ((v.toNat : Nat) : Int) = v := by omega
 simp only [e] at h
 refine ⟨?_, h.2⟩
 unfold errW
 obtain ⟨r, hr⟩ := Option.isSome_iff_exists.1 h.1
 rw [hr]
 rfl
theorem text_run (e : SE) (hm : mayE e) (h0 : fits64 e.f0) (w : World) (hG : Laid w) : Calls Tryd.prog 28 #[ev e] w fun r w' => r = .returned (.string (textE e (errW e.f5))) ∧ Below w.heap.size w w' := by
 obtain ⟨h1, h2⟩ := err_ok (v := e.f5) (by have := hm.2.2.2.2.2.1; omega) (by have := hm.2.2.2.2.2.2; omega)
 exact audit_Text.yes e (errW e.f5) w hG h0 hm.1.wf (by have h3 : ¬ (e.f2.size : Int) > 78 := hm.2.2.2.1; omega) (by have h3 : ¬ (e.f4.size : Int) > 78 := hm.2.2.2.2.1; omega) (by omega) h1 ⟨by have := hm.2.1; omega, by have := hm.2.2.1; omega⟩
theorem text14_run (e : SE) (hm : mayE e) (h0 : fits64 e.f0) (w : World) : Calls Tryd.prog 29 #[ev e] w fun r w' => r = .returned (.string (textE e (errW e.f5))) ∧ Below w.heap.size w w' := by
 obtain ⟨h1, h2⟩ := err_ok (v := e.f5) (by have := hm.2.2.2.2.2.1; omega) (by have := hm.2.2.2.2.2.2; omega)
 exact donjonref14_Text.calls 40 _ _ _ _ _ _ _ _ _ _ w (text14_f e hm h0 _ h1 h2)
/-- What an Add answers, in the log and in the row alike. -/
def addF (R : List SE) (e : SE) : Int := if mayE e then (if 40 ≤ (atL e.f1 R).length then 18 else 0) else 1
def addRow (R : List SE) (e : SE) : List SE := if mayE e then (if 40 ≤ (atL e.f1 R).length then R else insE (⟨((atL e.f1 R).length : Int) + 1, e.f1, e.f2, e.f3, e.f4, e.f5⟩ : SE) R) else R
theorem log_Add_f {w : World} {lb mb n base : Nat} {hdr : SL → Value} {rows : SL → List SE} (h : LogIs w lb mb n base hdr rows) {R : List SE} {m : Nat} (hT : Tells rows R m) (e : SE) (hn : n < maxLen) (hbase : base ≤ w.heap.size) :
  Calls Tryd.prog 13 #[.pointer (some ⟨lb, 0, none⟩), ev e] w fun r w' => ∃ (hdr' : SL → Value) (rows' : SL → List SE), r = .returned (.int .i64 (addF R e)) ∧ LogIs w' lb mb (n + 1) base hdr' rows' ∧ LogStep w w' mb hdr ∧ (∀ k, k < w.heap.size → okA hdr k → okA hdr' k) ∧ Tells rows' (addRow R e) (m + 1) := by
 unfold addF addRow
 by_cases hm : mayE e
 ·rw [if_pos hm, if_pos hm]
  by_cases hf : 40 ≤ (atL e.f1 R).length
  ·rw [if_pos hf, if_pos hf]
   refine (log_Add_full h e hm (by rw [hT.rows]; exact hf)).mono ?_
   rintro r w' ⟨rfl, hb⟩
   exact ⟨hdr, rows, rfl, LogIs.mono (h.below hb) (Nat.le_succ _), LogStep.of_below hb mb hdr, fun _ _ ho => ho, hT.mono (Nat.le_succ _)⟩
  ·rw [if_neg hf, if_neg hf]
   refine (log_Add_ok h e hm (by rw [hT.rows]; omega) hn hbase).mono ?_
   rintro r w' ⟨rfl, hdr', hL, hS, hok⟩
   exact ⟨hdr', addR rows e, rfl, hL, hS, hok, hT.add hm⟩
 ·rw [if_neg hm, if_neg hm]
  refine (log_Add_bad lb w e hm).mono ?_
  rintro r w' ⟨rfl, hb⟩
  exact ⟨hdr, rows, rfl, LogIs.mono (h.below hb) (Nat.le_succ _), LogStep.of_below hb mb hdr, fun _ _ ho => ho, hT.mono (Nat.le_succ _)⟩
end Go.Proofs.YtihknjmibnonjaaDoor.Pure
end
