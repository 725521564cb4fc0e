/- Written by a program of this session over the kit's print: YtinbhijeonghaaaF26. -/
import Derived.Test.YtinbhijeonghaaaH
import Derived.Test.YtinbhijeonghaaaF35
import Derived.WalkLawsBesides
namespace Go.Proofs.Ytinbhijeonghaaa.X
open Go.RowKit Go.Proofs.YtinbhijeonghaaaW.PrintWords Go.Proofs.YtinbhijeonghaaaW.PrintLast Go.Proofs.YtinbhijeonghaaaW.PrintMore Go.Proofs.Ytinbhijeonghaaa.More
attribute [local go_sem] max2_int min2_int max_two min_two max_three min_three max_four min_four binOp_string_leq binOp_string_gtr   -- for this text's walks alone
set_option linter.unusedVariables false
set_option linter.unusedSimpArgs false

/-! ### acl_place: function 26 -/
/-- Is one text ahead of another one? -/
def txtLt (a b : ByteArray) : Bool := Op.bytesLess a.toList b.toList
/-- Do the grants stand by their users? -/
def sortedG (l : List S31) : Bool := decide (∀ a : Nat, a < l.length → ∀ b : Nat, b < l.length → a < b → txtLt (rd_T31 l (b : Int)).f0 (rd_T31 l (a : Int)).f0 = false)
/-- Where a user's grant stands, or would. -/
def placeG (l : List S31) (user : ByteArray) : Nat := (List.range l.length).countP (fun (i : Nat) => txtLt (rd_T31 l (i : Int)).f0 user)
def acl_place.f (l0 : List S31) (a1 : ByteArray) : Option (Int × Bool) :=
  if l0.length ≤ 1000000 then
    if sortedG l0 = true ∧ (∀ i : Nat, i < l0.length → ∀ j : Nat, j < l0.length → i ≤ j → txtLt (rd_T31 l0 (i : Int)).f0 a1 = false → txtLt (rd_T31 l0 (j : Int)).f0 a1 = false)
    then some ((placeG l0 a1 : Int), if placeG l0 a1 < l0.length then ((rd_T31 l0 (placeG l0 a1 : Int)).f0.toList == a1.toList) else false) else none
  else none
set_option maxHeartbeats 4000000 in
set_option maxRecDepth 100000 in
theorem acl_place.inner (b0 b1 : Nat) (A : Option Addr) (c : Nat) (l : List S31) (user : ByteArray) (i : Nat) (W : World) (h0 : W.cell? ⟨b0, 0, none⟩ = some (.slice A l.length c)) (h1 : W.cell? ⟨b1, 0, none⟩ = some (.string user))
    (hC : Kd.C k31 W A l.length l) (hi : i < l.length) :
    Calls Try.prog 36 #[.int .i64 i, .pointer (some ⟨b0, 0, none⟩), .pointer (some ⟨b1, 0, none⟩)] W fun e w' => e = .returned (.bool (!(txtLt (rd_T31 l (i : Int)).f0 user))) ∧ ∃ n, w' = W.drewN n := by
  obtain ⟨ad, rfl, hx0, hx1⟩ := at_T31 hC (i : Int) (by omega) (by omega)
  simp only [Int.toNat_natCast] at hx0 hx1
  have hlt : (i : Int) < (l.length : Int) := by omega
  have h00 : (0 : Int) ≤ (i : Int) := by omega
  unfold txtLt
  go_enter Try.func36, Try.ntmps36
  go_wp2
  go_quiet (fail)
  go_wp2
  go_ret
  exact ⟨rfl, _, rfl⟩
set_option maxHeartbeats 4000000 in
set_option maxRecDepth 100000 in
theorem acl_place.calls (A0 : Option Addr) (c0 : Nat) (l0 : List S31) (a1 : ByteArray) (r1 : Int) (r2 : Bool) (w : World) (hr0 : Kd.C k31 w A0 l0.length l0) (hc0 : l0.length ≤ c0) (h : acl_place.f l0 a1 = some (r1, r2)) :
    Calls Try.prog 26 #[.slice A0 l0.length c0, .string a1] w fun e w' => e = .returned (.tuple #[.int .i64 r1, .bool r2]) ∧ Below w.heap.size w w' := by
  unfold acl_place.f at h
  by_cases hn : l0.length ≤ 1000000
  · rw [if_pos hn] at h
    by_cases hs : sortedG l0 = true ∧ (∀ i : Nat, i < l0.length → ∀ j : Nat, j < l0.length → i ≤ j → txtLt (rd_T31 l0 (i : Int)).f0 a1 = false → txtLt (rd_T31 l0 (j : Int)).f0 a1 = false)
    · rw [if_pos hs] at h
      have hmono := hs.2
      clear hs
      have h' := Option.some.inj h
      clear h
      obtain ⟨hr1, hr2⟩ := Prod.mk.inj h'
      clear h'
      obtain ⟨W0, hW0⟩ : ∃ W0, W0 = (w.alloc (.cells #[.slice A0 l0.length c0] 24)).alloc (.cells #[.string a1] 9) := ⟨_, rfl⟩
      have hsize : W0.heap.size = w.heap.size + 2 := by rw [hW0]; simp
      have hB0 : Below w.heap.size w W0 := by rw [hW0]; exact below_alloc (below_alloc (Below.refl _ w) _) _
      have ca : W0.cell? ⟨w.heap.size, 0, none⟩ = some (.slice A0 l0.length c0) := by rw [hW0]; exact cell_alloc_sl _ (cell_new_sl w _ _)
      have cx : W0.cell? ⟨w.heap.size + 1, 0, none⟩ = some (.string a1) := by
        rw [hW0]
        have h2 := cell_new_sl (w.alloc (.cells #[.slice A0 l0.length c0] 24)) (.string a1) 9
        have h3 : (w.alloc (.cells #[.slice A0 l0.length c0] 24)).heap.size = w.heap.size + 1 := by simp
        rw [h3] at h2
        exact h2
      have hC0 : Kd.C k31 W0 A0 l0.length l0 := Kd.C_below hr0 hB0
      have hS := sort_Search_calls 36 #[.pointer (some ⟨w.heap.size, 0, none⟩), .pointer (some ⟨w.heap.size + 1, 0, none⟩)] l0.length (fun i => !(txtLt (rd_T31 l0 (i : Int)).f0 a1)) W0 (Go.Proofs.enters_of Try.func36 (by kernel_rfl) rfl) (by omega)
        (fun m os i hi => by
          have hg := below_grown_sl W0.heap.size W0 m os (Nat.le_refl _)
          exact (acl_place.inner w.heap.size (w.heap.size + 1) A0 c0 l0 a1 i _ ((hg.cell (p := ⟨w.heap.size, 0, none⟩) (by show w.heap.size < _; omega)).trans ca) ((hg.cell (p := ⟨w.heap.size + 1, 0, none⟩) (by show w.heap.size + 1 < _; omega)).trans cx) (Kd.C_below hC0 hg) hi).mono
            fun _ _ ⟨he, q, hq⟩ => ⟨he, q, #[], by rw [hq, Go.Sort.grow_empty]⟩)
        (fun a b hab hb hp => by
          have := hmono a (by omega) b hb hab
          simp at hp ⊢
          exact this hp)
      have hcnt : (List.range l0.length).countP (fun (i : Nat) => !(!(txtLt (rd_T31 l0 (i : Int)).f0 a1))) = placeG l0 a1 := by
        unfold placeG
        congr 1
        funext i
        simp
      rw [hcnt] at hS
      clear hcnt hmono
      have hle : placeG l0 a1 ≤ l0.length := by
        have := List.countP_le_length (p := fun (i : Nat) => txtLt (rd_T31 l0 (i : Int)).f0 a1) (l := List.range l0.length)
        rw [List.length_range] at this
        exact this
      generalize placeG l0 a1 = cnt at hS hr1 hr2 hle
      have HR1 := Aside0.mk hr1
      have HR2 := Aside0.mk hr2
      have HW := Aside0.mk hW0
      have HCA := Aside0.mk ca
      have HCX := Aside0.mk cx
      have HB0 := Aside0.mk hB0
      have HC0 := Aside0.mk hC0
      have HSZ := Aside0.mk hsize
      have HS := Aside0.mk hS
      clear hr1 hr2 hW0 ca cx hB0 hC0 hsize hS
      go_enter Try.func26, Try.ntmps26
      go_wp2_with (go_at_call 35; rw [← HW.out]; refine HS.out.mono ?_; rintro e w1 ⟨rfl, hB1⟩; have HB1 := Aside0.mk hB1; clear hB1)
      have ca1 : w1.cell? ⟨w.heap.size, 0, none⟩ = some (.slice A0 l0.length c0) := (HB1.out.cell (p := ⟨w.heap.size, 0, none⟩) (by show w.heap.size < _; have := HSZ.out; omega)).trans HCA.out
      have cx1 : w1.cell? ⟨w.heap.size + 1, 0, none⟩ = some (.string a1) := (HB1.out.cell (p := ⟨w.heap.size + 1, 0, none⟩) (by show w.heap.size + 1 < _; have := HSZ.out; omega)).trans HCX.out
      have hC1 : Kd.C k31 w1 A0 l0.length l0 := Kd.C_below HC0.out HB1.out
      have HB2 : Aside0 (Below w.heap.size w w1) := ⟨below_then HB0.out (by have := HSZ.out; omega) HB1.out⟩
      by_cases hlt : cnt < l0.length
      · obtain ⟨ad, rfl, hx0, hx1⟩ := at_T31 hC1 (cnt : Int) (by omega) (by omega)
        simp only [Int.toNat_natCast] at hx0 hx1
        have hlt' : (cnt : Int) < (l0.length : Int) := by omega
        have h00 : (0 : Int) ≤ (cnt : Int) := by omega
        have hd : decide (cnt < l0.length) = true := decide_eq_true hlt
        have hd2 : decide ((cnt : Int) < (l0.length : Int)) = true := decide_eq_true hlt'
        clear hC1
        go_quiet (fail)
        go_wp2
        go_ret2
        have e1 := HR1.out
        have e2 := HR2.out
        rw [if_pos hlt] at e2
        refine ⟨?_, pw_below_drewN HB2.out _⟩
        rw [← e1, ← e2]
        rfl
      · have hd : decide (cnt < l0.length) = false := decide_eq_false hlt
        have hd2 : decide ((cnt : Int) < (l0.length : Int)) = false := decide_eq_false (by omega)
        clear hC1
        go_quiet (fail)
        go_wp2
        go_ret2
        have e1 := HR1.out
        have e2 := HR2.out
        rw [if_neg hlt] at e2
        refine ⟨?_, pw_below_drewN HB2.out _⟩
        rw [← e1, ← e2]
        rfl
    · rw [if_neg hs] at h
      exact absurd h (by simp)
  · rw [if_neg hn] at h
    exact absurd h (by simp)

end Go.Proofs.Ytinbhijeonghaaa.X
