/- Written by a program of this session over the kit's print: YtihknjmibnonjaaDoorF6. -/
import Derived.Test.YtihknjmibnonjaaDoorH
import Derived.Test.YtihknjmibnonjaaDoorE23
import Derived.Test.YtihknjmibnonjaaDoorF10
import Derived.Test.YtihknjmibnonjaaDoorAAl2
import Derived.WalkKit
import Derived.BigCall
import Derived.Test.YtihknjmibnonjaaDoorE23
import Derived.Test.YtihknjmibnonjaaDoorF10
import Derived.Deep.RegionWith
import Derived.BigQuiet
import Derived.Deep.CutBlock
import Derived.Deep.DeepCutAuto
namespace Go.Proofs.YtihknjmibnonjaaDoor.X
open Go.RowKit Go.Proofs.YtihknjmibnonjaaDoorW.PrintWords Go.Proofs.YtihknjmibnonjaaDoorW.PrintLast Go.Proofs.YtihknjmibnonjaaDoorW.PrintMore Go.Proofs.YtihknjmibnonjaaDoor.More
attribute [local go_sem] max2_int min2_int max_two min_two max_three min_three max_four min_four binOp_string_leq binOp_string_gtr   -- for this text's walks alone
set_option linter.unusedVariables false
set_option linter.unusedSimpArgs false

/-! ### donjonlaw14_AuditBounds: function 6 -/
open Go.Proofs.YtihknjmibnonjaaDoor.Pure Go.Proofs.YtihknjmibnonjaaDoor.Lib Go.Proofs.YtihknjmibnonjaaDoor.More
attribute [local go_sem high] eqA23
def donjonlaw14_AuditBounds.f (a0 a1 : Int) : Option Bool := some true
theorem at_new (W : World) (o : Obj) {g : Nat} (hg : W.heap.size = g) : (W.alloc o).heap[g]? = some o := by
  subst hg
  show (W.heap.push o)[W.heap.size]? = some o
  exact Array.getElem?_push_size
theorem at_keep {W : World} {g : Nat} {o : Obj} (h : W.heap[g]? = some o) (o' : Obj) : (W.alloc o').heap[g]? = some o := (Below.heap_alloc W o' g (Array.getElem?_eq_some_iff.1 h).1).trans h
theorem AuditBounds.bad_0 {Zs BS : ByteArray} {b b14 b1 b255 b3 : Int} (h1 : 1 ≤ b ∧ b ≤ 300 ∧ b14 = 14 + b ∧ b1 = 1 - b ∧ b255 = 255 + b ∧ b3 = 3 + b) (hs : Zs.size = 78) (hs2 : (BS.size : Int) = b) : ¬ mayE (⟨0, ⟨3, 255, 0, 0⟩, Zs, b14, Zs, 255⟩ : SE) := by
  intro h
  obtain ⟨⟨⟨h2, h3⟩, _⟩, h4, h5, h6, h7, h8, h9⟩ := h
  dsimp only at h2 h3 h4 h5 h6 h7 h8 h9
  try rw [ByteArray.size_append] at h6
  try rw [ByteArray.size_append] at h7
  omega
theorem AuditBounds.bad_1 {Zs BS : ByteArray} {b b14 b1 b255 b3 : Int} (h1 : 1 ≤ b ∧ b ≤ 300 ∧ b14 = 14 + b ∧ b1 = 1 - b ∧ b255 = 255 + b ∧ b3 = 3 + b) (hs : Zs.size = 78) (hs2 : (BS.size : Int) = b) : ¬ mayE (⟨0, ⟨3, 255, 0, 0⟩, Zs, b1, Zs, 255⟩ : SE) := by
  intro h
  obtain ⟨⟨⟨h2, h3⟩, _⟩, h4, h5, h6, h7, h8, h9⟩ := h
  dsimp only at h2 h3 h4 h5 h6 h7 h8 h9
  try rw [ByteArray.size_append] at h6
  try rw [ByteArray.size_append] at h7
  omega
theorem AuditBounds.bad_2 {Zs BS : ByteArray} {b b14 b1 b255 b3 : Int} (h1 : 1 ≤ b ∧ b ≤ 300 ∧ b14 = 14 + b ∧ b1 = 1 - b ∧ b255 = 255 + b ∧ b3 = 3 + b) (hs : Zs.size = 78) (hs2 : (BS.size : Int) = b) : ¬ mayE (⟨0, ⟨3, 255, 0, 0⟩, (Zs ++ BS), 14, Zs, 255⟩ : SE) := by
  intro h
  obtain ⟨⟨⟨h2, h3⟩, _⟩, h4, h5, h6, h7, h8, h9⟩ := h
  dsimp only at h2 h3 h4 h5 h6 h7 h8 h9
  try rw [ByteArray.size_append] at h6
  try rw [ByteArray.size_append] at h7
  omega
theorem AuditBounds.bad_3 {Zs BS : ByteArray} {b b14 b1 b255 b3 : Int} (h1 : 1 ≤ b ∧ b ≤ 300 ∧ b14 = 14 + b ∧ b1 = 1 - b ∧ b255 = 255 + b ∧ b3 = 3 + b) (hs : Zs.size = 78) (hs2 : (BS.size : Int) = b) : ¬ mayE (⟨0, ⟨3, 255, 0, 0⟩, Zs, 14, (Zs ++ BS), 255⟩ : SE) := by
  intro h
  obtain ⟨⟨⟨h2, h3⟩, _⟩, h4, h5, h6, h7, h8, h9⟩ := h
  dsimp only at h2 h3 h4 h5 h6 h7 h8 h9
  try rw [ByteArray.size_append] at h6
  try rw [ByteArray.size_append] at h7
  omega
theorem AuditBounds.bad_4 {Zs BS : ByteArray} {b b14 b1 b255 b3 : Int} (h1 : 1 ≤ b ∧ b ≤ 300 ∧ b14 = 14 + b ∧ b1 = 1 - b ∧ b255 = 255 + b ∧ b3 = 3 + b) (hs : Zs.size = 78) (hs2 : (BS.size : Int) = b) : ¬ mayE (⟨0, ⟨3, 255, 0, 0⟩, Zs, 14, Zs, b255⟩ : SE) := by
  intro h
  obtain ⟨⟨⟨h2, h3⟩, _⟩, h4, h5, h6, h7, h8, h9⟩ := h
  dsimp only at h2 h3 h4 h5 h6 h7 h8 h9
  try rw [ByteArray.size_append] at h6
  try rw [ByteArray.size_append] at h7
  omega
theorem AuditBounds.bad_5 {Zs BS : ByteArray} {b b14 b1 b255 b3 : Int} (h1 : 1 ≤ b ∧ b ≤ 300 ∧ b14 = 14 + b ∧ b1 = 1 - b ∧ b255 = 255 + b ∧ b3 = 3 + b) (hs : Zs.size = 78) (hs2 : (BS.size : Int) = b) : ¬ mayE (⟨0, ⟨b3, 255, 0, 0⟩, Zs, 14, Zs, 255⟩ : SE) := by
  intro h
  obtain ⟨⟨⟨h2, h3⟩, _⟩, h4, h5, h6, h7, h8, h9⟩ := h
  dsimp only at h2 h3 h4 h5 h6 h7 h8 h9
  try rw [ByteArray.size_append] at h6
  try rw [ByteArray.size_append] at h7
  omega
def AuditBounds.e0 (Zs : ByteArray) : SE := ⟨0, ⟨3, 255, 0, 0⟩, Zs, 14, Zs, 255⟩
theorem AuditBounds.over : overS (⟨3, 255, 0, 0⟩ : SL) (⟨3, 255, 0, 0⟩ : SL) = true := by decide +kernel
theorem AuditBounds.ok : okL (⟨3, 255, 0, 0⟩ : SL) := ⟨rfl, rfl, rfl, rfl⟩
set_option maxHeartbeats 16000000 in
set_option maxRecDepth 100000 in
theorem donjonlaw14_AuditBounds.calls (a0 a1 : Int) (r : Bool) (w : World) (hG : Laid w) (h : donjonlaw14_AuditBounds.f a0 a1 = some r) :
    Calls Tryd.prog 6 #[.int .i64 a0, .int .i64 a1] w fun e w' => e = .returned (.bool r) ∧ Below w.heap.size w w' := by
  obtain rfl : true = r := Option.some.inj h
  clear h
  have HG := Aside0.mk hG
  obtain ⟨b0, hb0⟩ : ∃ b0, a1 % 300 = b0 := ⟨_, rfl⟩
  obtain ⟨b, hb⟩ : ∃ b, 1 + b0 = b := ⟨_, rfl⟩
  have HWB : Aside0 (donjonlaw14_within.f a1 300 = some b0) := ⟨by rw [within14_f a1 300 (by omega) (by omega), hb0]⟩
  have hB : 1 ≤ b ∧ b ≤ 300 := by omega
  obtain ⟨m, hm⟩ : ∃ m : Nat, b = (m : Int) := ⟨b.toNat, by omega⟩
  obtain ⟨b14, hb14⟩ : ∃ x, 14 + b = x := ⟨_, rfl⟩
  obtain ⟨b1, hb1⟩ : ∃ x, 1 - b = x := ⟨_, rfl⟩
  obtain ⟨b255, hb255⟩ : ∃ x, 255 + b = x := ⟨_, rfl⟩
  obtain ⟨b3, hb3⟩ : ∃ x, 3 + b = x := ⟨_, rfl⟩
  have HB1 : Aside0 (1 ≤ b ∧ b ≤ 300 ∧ b14 = 14 + b ∧ b1 = 1 - b ∧ b255 = 255 + b ∧ b3 = 3 + b) := ⟨by omega⟩
  have ew0 : wrap64 (1 + b0) = b := by rw [← hb]; exact wrap64_id (by omega) (by omega)
  have ew14 : wrap64 (14 + b) = b14 := by rw [← hb14]; exact wrap64_id (by omega) (by omega)
  have ew1 : wrap64 (1 - b) = b1 := by rw [← hb1]; exact wrap64_id (by omega) (by omega)
  have ew255 : wrap64 (255 + b) = b255 := by rw [← hb255]; exact wrap64_id (by omega) (by omega)
  have ew3 : wrap64 (3 + b) = b3 := by rw [← hb3]; exact wrap64_id (by omega) (by omega)
  obtain ⟨Zs, hZs⟩ : ∃ Zs, zeroB 78 = Zs := ⟨_, rfl⟩
  obtain ⟨BS, hBS⟩ : ∃ BS, zeroB m = BS := ⟨_, rfl⟩
  obtain ⟨Z78, hZ78⟩ : ∃ Z, noughts 78 = Z := ⟨_, rfl⟩
  obtain ⟨ZB, hZB⟩ : ∃ Z, noughts m = Z := ⟨_, rfl⟩
  have HS : Aside0 (Zs.size = 78) := ⟨by rw [← hZs]; exact zeroB_size 78⟩
  have HS2 : Aside0 ((BS.size : Int) = b) := ⟨by rw [← hBS, zeroB_size, hm]⟩
  have hmk78 : ∀ W : World, (Instr.makeSlice 41 (.int .i64 78) (.int .i64 78)).run Tryd.prog W = .ok (.slice (some ⟨W.heap.size, 0, none⟩) 78 78) (W.alloc Z78) := fun W => by rw [← hZ78]; exact make8 78 78 rfl (by decide) W
  have HMB : Aside0 (∀ W : World, (Instr.makeSlice 41 (.int .i64 b) (.int .i64 b)).run Tryd.prog W = .ok (.slice (some ⟨W.heap.size, 0, none⟩) m m) (W.alloc ZB)) := ⟨fun W => by rw [← hZB]; exact make8 b m hm (by omega) W⟩
  have HCV : Aside0 (∀ W : World, (convert 41 9 (.slice (some ⟨W.heap.size, 0, none⟩) m m)).run Tryd.prog (W.alloc ZB).drew = .ok (.string BS) (W.alloc ZB).drew) := ⟨fun W => by rw [← hZB, ← hBS]; exact conv8 (blk_drew (noughts_new W m))⟩
  have HCX : Aside0 (∀ (W : World) (g : Nat), W.heap[g]? = some Z78 → (convert 41 9 (.slice (some ⟨g, 0, none⟩) 78 78)).run Tryd.prog W.drew = .ok (.string Zs) W.drew) := ⟨fun W g h => by rw [← hZ78] at h; rw [← hZs]; exact conv8 (blk_drew h)⟩
  obtain ⟨k, hk⟩ : ∃ k, a0 % 6 = k := ⟨_, rfl⟩
  have HWK : Aside0 (donjonlaw14_within.f a0 6 = some k) := ⟨by rw [within14_f a0 6 (by omega) (by omega), hk]⟩
  have HK : Aside0 (k = 0 ∨ k = 1 ∨ k = 2 ∨ k = 3 ∨ k = 4 ∨ k = 5) := ⟨by omega⟩
  have HM0 : Aside0 (mayE (AuditBounds.e0 Zs)) := ⟨⟨(by decide : labOk (⟨3, 255, 0, 0⟩ : SL)), (by decide : ¬ (14 : Int) < 1), (by decide : ¬ (14 : Int) > 14), (by show ¬ (Zs.size : Int) > 78; have := HS.out; omega), (by show ¬ (Zs.size : Int) > 78; have := HS.out; omega), (by decide : ¬ (255 : Int) < 0), (by decide : ¬ (255 : Int) > 255)⟩⟩
  clear hG hb0 hb hB hm hb14 hb1 hb255 hb3 hZs hBS hZ78 hZB hk
  go_enter Tryd.func6, Tryd.ntmps6
  go_wp2_with fail
  refine (known14 _ HG.out).mono ?_
  rintro e w1 ⟨rfl, hb⟩
  have HB1w := Aside0.mk hb
  clear hb
  go_wp2_with fail
  refine (donjonlaw14_within.calls a1 300 b0 _ HWB.out).mono ?_
  rintro e w2 ⟨rfl, hd⟩
  have HB2 := Aside0.mk (below_step HB1w.out hd.below)
  clear hd HB1w
  go_wp2
  rw [ew0]
  go_cut [5] (fun v5 wc => ∃ gE : Nat, v5 = .pointer (some ⟨gE, 0, none⟩) ∧ Aside0 (BoxE wc gE (AuditBounds.e0 Zs)) ∧ Aside0 (w.heap.size ≤ gE) ∧ Aside0 (Below w.heap.size w wc))
  case first =>
    have hc0 : (convert 41 9 (.slice (some ⟨w2.heap.size, 0, none⟩) 78 78)).run Tryd.prog ((w2.alloc Z78)).drew = .ok (.string Zs) ((w2.alloc Z78)).drew := HCX.out (w2.alloc Z78) (w2.heap.size) (at_new w2 Z78 (by simp))
    have hc1 : (convert 41 9 (.slice (some ⟨w2.heap.size, 0, none⟩) 78 78)).run Tryd.prog (((w2.alloc Z78).alloc Z78)).drew = .ok (.string Zs) (((w2.alloc Z78).alloc Z78)).drew := HCX.out ((w2.alloc Z78).alloc Z78) (w2.heap.size) (at_keep (at_new w2 Z78 (by simp)) _)
    have hc2 : (convert 41 9 (.slice (some ⟨w2.heap.size + 1, 0, none⟩) 78 78)).run Tryd.prog (((w2.alloc Z78).alloc Z78)).drew = .ok (.string Zs) (((w2.alloc Z78).alloc Z78)).drew := HCX.out ((w2.alloc Z78).alloc Z78) (w2.heap.size + 1) (at_new (w2.alloc Z78) Z78 (by simp))
    have hc3 : (convert 41 9 (.slice (some ⟨w2.heap.size, 0, none⟩) 78 78)).run Tryd.prog (((w2.alloc Z78).alloc (.cells #[.int .i64 0, .int .i64 0, .int .i64 0, .int .i64 0, .int .i64 0, .string ⟨#[]⟩, .int .i64 0, .string ⟨#[]⟩, .int .i64 0] 26))).drew = .ok (.string Zs) (((w2.alloc Z78).alloc (.cells #[.int .i64 0, .int .i64 0, .int .i64 0, .int .i64 0, .int .i64 0, .string ⟨#[]⟩, .int .i64 0, .string ⟨#[]⟩, .int .i64 0] 26))).drew := HCX.out ((w2.alloc Z78).alloc (.cells #[.int .i64 0, .int .i64 0, .int .i64 0, .int .i64 0, .int .i64 0, .string ⟨#[]⟩, .int .i64 0, .string ⟨#[]⟩, .int .i64 0] 26)) (w2.heap.size) (at_keep (at_new w2 Z78 (by simp)) _)
    have hc4 : (convert 41 9 (.slice (some ⟨w2.heap.size + 1, 0, none⟩) 78 78)).run Tryd.prog (((w2.alloc (.cells #[.int .i64 0, .int .i64 0, .int .i64 0, .int .i64 0, .int .i64 0, .string ⟨#[]⟩, .int .i64 0, .string ⟨#[]⟩, .int .i64 0] 26)).alloc Z78)).drew = .ok (.string Zs) (((w2.alloc (.cells #[.int .i64 0, .int .i64 0, .int .i64 0, .int .i64 0, .int .i64 0, .string ⟨#[]⟩, .int .i64 0, .string ⟨#[]⟩, .int .i64 0] 26)).alloc Z78)).drew := HCX.out ((w2.alloc (.cells #[.int .i64 0, .int .i64 0, .int .i64 0, .int .i64 0, .int .i64 0, .string ⟨#[]⟩, .int .i64 0, .string ⟨#[]⟩, .int .i64 0] 26)).alloc Z78) (w2.heap.size + 1) (at_new (w2.alloc (.cells #[.int .i64 0, .int .i64 0, .int .i64 0, .int .i64 0, .int .i64 0, .string ⟨#[]⟩, .int .i64 0, .string ⟨#[]⟩, .int .i64 0] 26)) Z78 (by simp))
    have hc5 : (convert 41 9 (.slice (some ⟨w2.heap.size, 0, none⟩) 78 78)).run Tryd.prog ((((w2.alloc Z78).alloc Z78).alloc (.cells #[.int .i64 0, .int .i64 0, .int .i64 0, .int .i64 0, .int .i64 0, .string ⟨#[]⟩, .int .i64 0, .string ⟨#[]⟩, .int .i64 0] 26))).drew = .ok (.string Zs) ((((w2.alloc Z78).alloc Z78).alloc (.cells #[.int .i64 0, .int .i64 0, .int .i64 0, .int .i64 0, .int .i64 0, .string ⟨#[]⟩, .int .i64 0, .string ⟨#[]⟩, .int .i64 0] 26))).drew := HCX.out (((w2.alloc Z78).alloc Z78).alloc (.cells #[.int .i64 0, .int .i64 0, .int .i64 0, .int .i64 0, .int .i64 0, .string ⟨#[]⟩, .int .i64 0, .string ⟨#[]⟩, .int .i64 0] 26)) (w2.heap.size) (at_keep (at_keep (at_new w2 Z78 (by simp)) _) _)
    have hc6 : (convert 41 9 (.slice (some ⟨w2.heap.size + 1, 0, none⟩) 78 78)).run Tryd.prog ((((w2.alloc Z78).alloc Z78).alloc (.cells #[.int .i64 0, .int .i64 0, .int .i64 0, .int .i64 0, .int .i64 0, .string ⟨#[]⟩, .int .i64 0, .string ⟨#[]⟩, .int .i64 0] 26))).drew = .ok (.string Zs) ((((w2.alloc Z78).alloc Z78).alloc (.cells #[.int .i64 0, .int .i64 0, .int .i64 0, .int .i64 0, .int .i64 0, .string ⟨#[]⟩, .int .i64 0, .string ⟨#[]⟩, .int .i64 0] 26))).drew := HCX.out (((w2.alloc Z78).alloc Z78).alloc (.cells #[.int .i64 0, .int .i64 0, .int .i64 0, .int .i64 0, .int .i64 0, .string ⟨#[]⟩, .int .i64 0, .string ⟨#[]⟩, .int .i64 0] 26)) (w2.heap.size + 1) (at_keep (at_new (w2.alloc Z78) Z78 (by simp)) _)
    have hc7 : (convert 41 9 (.slice (some ⟨w2.heap.size, 0, none⟩) 78 78)).run Tryd.prog ((((w2.alloc Z78).alloc (.cells #[.int .i64 0, .int .i64 0, .int .i64 0, .int .i64 0, .int .i64 0, .string ⟨#[]⟩, .int .i64 0, .string ⟨#[]⟩, .int .i64 0] 26)).alloc Z78)).drew = .ok (.string Zs) ((((w2.alloc Z78).alloc (.cells #[.int .i64 0, .int .i64 0, .int .i64 0, .int .i64 0, .int .i64 0, .string ⟨#[]⟩, .int .i64 0, .string ⟨#[]⟩, .int .i64 0] 26)).alloc Z78)).drew := HCX.out (((w2.alloc Z78).alloc (.cells #[.int .i64 0, .int .i64 0, .int .i64 0, .int .i64 0, .int .i64 0, .string ⟨#[]⟩, .int .i64 0, .string ⟨#[]⟩, .int .i64 0] 26)).alloc Z78) (w2.heap.size) (at_keep (at_keep (at_new w2 Z78 (by simp)) _) _)
    have hc8 : (convert 41 9 (.slice (some ⟨w2.heap.size + 1 + 1, 0, none⟩) 78 78)).run Tryd.prog ((((w2.alloc Z78).alloc (.cells #[.int .i64 0, .int .i64 0, .int .i64 0, .int .i64 0, .int .i64 0, .string ⟨#[]⟩, .int .i64 0, .string ⟨#[]⟩, .int .i64 0] 26)).alloc Z78)).drew = .ok (.string Zs) ((((w2.alloc Z78).alloc (.cells #[.int .i64 0, .int .i64 0, .int .i64 0, .int .i64 0, .int .i64 0, .string ⟨#[]⟩, .int .i64 0, .string ⟨#[]⟩, .int .i64 0] 26)).alloc Z78)).drew := HCX.out (((w2.alloc Z78).alloc (.cells #[.int .i64 0, .int .i64 0, .int .i64 0, .int .i64 0, .int .i64 0, .string ⟨#[]⟩, .int .i64 0, .string ⟨#[]⟩, .int .i64 0] 26)).alloc Z78) (w2.heap.size + 1 + 1) (at_new ((w2.alloc Z78).alloc (.cells #[.int .i64 0, .int .i64 0, .int .i64 0, .int .i64 0, .int .i64 0, .string ⟨#[]⟩, .int .i64 0, .string ⟨#[]⟩, .int .i64 0] 26)) Z78 (by simp))
    have hc9 : (convert 41 9 (.slice (some ⟨w2.heap.size + 1, 0, none⟩) 78 78)).run Tryd.prog ((((w2.alloc (.cells #[.int .i64 0, .int .i64 0, .int .i64 0, .int .i64 0, .int .i64 0, .string ⟨#[]⟩, .int .i64 0, .string ⟨#[]⟩, .int .i64 0] 26)).alloc Z78).alloc Z78)).drew = .ok (.string Zs) ((((w2.alloc (.cells #[.int .i64 0, .int .i64 0, .int .i64 0, .int .i64 0, .int .i64 0, .string ⟨#[]⟩, .int .i64 0, .string ⟨#[]⟩, .int .i64 0] 26)).alloc Z78).alloc Z78)).drew := HCX.out (((w2.alloc (.cells #[.int .i64 0, .int .i64 0, .int .i64 0, .int .i64 0, .int .i64 0, .string ⟨#[]⟩, .int .i64 0, .string ⟨#[]⟩, .int .i64 0] 26)).alloc Z78).alloc Z78) (w2.heap.size + 1) (at_keep (at_new (w2.alloc (.cells #[.int .i64 0, .int .i64 0, .int .i64 0, .int .i64 0, .int .i64 0, .string ⟨#[]⟩, .int .i64 0, .string ⟨#[]⟩, .int .i64 0] 26)) Z78 (by simp)) _)
    have hc10 : (convert 41 9 (.slice (some ⟨w2.heap.size + 1 + 1, 0, none⟩) 78 78)).run Tryd.prog ((((w2.alloc (.cells #[.int .i64 0, .int .i64 0, .int .i64 0, .int .i64 0, .int .i64 0, .string ⟨#[]⟩, .int .i64 0, .string ⟨#[]⟩, .int .i64 0] 26)).alloc Z78).alloc Z78)).drew = .ok (.string Zs) ((((w2.alloc (.cells #[.int .i64 0, .int .i64 0, .int .i64 0, .int .i64 0, .int .i64 0, .string ⟨#[]⟩, .int .i64 0, .string ⟨#[]⟩, .int .i64 0] 26)).alloc Z78).alloc Z78)).drew := HCX.out (((w2.alloc (.cells #[.int .i64 0, .int .i64 0, .int .i64 0, .int .i64 0, .int .i64 0, .string ⟨#[]⟩, .int .i64 0, .string ⟨#[]⟩, .int .i64 0] 26)).alloc Z78).alloc Z78) (w2.heap.size + 1 + 1) (at_new ((w2.alloc (.cells #[.int .i64 0, .int .i64 0, .int .i64 0, .int .i64 0, .int .i64 0, .string ⟨#[]⟩, .int .i64 0, .string ⟨#[]⟩, .int .i64 0] 26)).alloc Z78) Z78 (by simp))
    go_region
    all_goals
      go_wp2_with fail
      go_meet
      case rel =>
        refine ⟨_, rfl, ⟨?_⟩, ⟨?_⟩, ⟨below_drew1 (below_alloc (below_alloc (below_alloc HB2.out _) _) _)⟩⟩
        · first
          | exact blk_drew (at_new _ _ (by simp))
          | exact blk_drew (at_keep (at_new _ _ (by simp)) _)
          | exact blk_drew (at_keep (at_keep (at_new _ _ rfl) _) _)
        · have := below_size HB2.out
          omega
  case rest =>
    obtain ⟨gE, rfl, BE3, HGE, HB3⟩ := hcut
    clear HB2 hmk78
    go_wp2_with fail
    refine (log_New.calls _).mono ?_
    rintro e_ w4 ⟨lb, mb, rfl, glb, gmb, hL, hb⟩
    have HGB : Aside0 (gE < wc.heap.size) := ⟨blk_lt BE3.out⟩
    have HB4 := Aside0.mk (below_step HB3.out hb)
    have BE4 := Aside0.mk (BoxE.below BE3.out hb)
    have HL4 := Aside0.mk hL
    have GM := Aside0.mk gmb
    have GLB := Aside0.mk glb
    have HSZ4 := Aside0.mk (below_size hb)
    clear hb hL glb gmb HB3 BE3
    generalize wc.heap.size = base at HGB HL4 GM GLB HSZ4
    generalize (fun _ => Value.slice none 0 0 : SL → Value) = hdr0 at HL4
    have z0 : w4.cell? ⟨gE, 0, none⟩ = some (.int .i64 (AuditBounds.e0 Zs).f0) := (blk_cell BE4.out 0).trans rfl
    have z1 : w4.cell? ⟨gE, 1, none⟩ = some (.int .i64 (AuditBounds.e0 Zs).f1.f0) := (blk_cell BE4.out 1).trans rfl
    have z2 : w4.cell? ⟨gE, 2, none⟩ = some (.int .i64 (AuditBounds.e0 Zs).f1.f1) := (blk_cell BE4.out 2).trans rfl
    have z3 : w4.cell? ⟨gE, 3, none⟩ = some (.int .i64 (AuditBounds.e0 Zs).f1.f2) := (blk_cell BE4.out 3).trans rfl
    have z4 : w4.cell? ⟨gE, 4, none⟩ = some (.int .i64 (AuditBounds.e0 Zs).f1.f3) := (blk_cell BE4.out 4).trans rfl
    have z5 : w4.cell? ⟨gE, 5, none⟩ = some (.string (AuditBounds.e0 Zs).f2) := (blk_cell BE4.out 5).trans rfl
    have z6 : w4.cell? ⟨gE, 6, none⟩ = some (.int .i64 (AuditBounds.e0 Zs).f3) := (blk_cell BE4.out 6).trans rfl
    have z7 : w4.cell? ⟨gE, 7, none⟩ = some (.string (AuditBounds.e0 Zs).f4) := (blk_cell BE4.out 7).trans rfl
    have z8 : w4.cell? ⟨gE, 8, none⟩ = some (.int .i64 (AuditBounds.e0 Zs).f5) := (blk_cell BE4.out 8).trans rfl
    dsimp only [AuditBounds.e0] at z0 z1 z2 z3 z4 z5 z6 z7 z8
    go_wp2_with fail
    refine (log_Add_ok HL4.out (AuditBounds.e0 Zs) HM0.out (by decide) (by decide) HSZ4.out).mono ?_
    rintro e_ w5 ⟨rfl, hdr, hL, hS, hok⟩
    have HL5 : Aside0 (LogIs w5 lb mb 1 base hdr (oneRow (⟨3, 255, 0, 0⟩ : SL) [reE (AuditBounds.e0 Zs) 1 (⟨3, 255, 0, 0⟩ : SL)])) := ⟨hL.congr rfl⟩
    have BE5 : Aside0 (BoxE w5 gE (AuditBounds.e0 Zs)) := ⟨hS.low HL4.out GM.out HGB.out BE4.out⟩
    have HB5 := Aside0.mk (hS.below HB4.out (below_size HB4.out) HL4.out (by have := GM.out; have := HGB.out; have := HGE.out; omega) (by have := HGB.out; have := HGE.out; omega))
    clear hL hS hok HL4 BE4 HB4 z0 z1 z2 z3 z4 z5 z6 z7 z8
    go_wp2_with fail
    refine (donjonlaw14_within.calls a0 6 k _ HWK.out).mono ?_
    rintro e_ wr ⟨rfl, hd⟩
    have HL := Aside0.mk (HL5.out.below hd.below)
    have BE := Aside0.mk (BoxE.below BE5.out hd.below)
    have HB := Aside0.mk (below_step HB5.out hd.below)
    clear hd HL5 BE5 HB5
    go_upto_block 0 with fail
    go_cut [25] (fun _ wx => ∃ e2 : SE, Aside0 (BoxE wx gE e2) ∧ Aside0 (¬ mayE e2) ∧ Aside0 (LogIs wx lb mb 1 base hdr (oneRow (⟨3, 255, 0, 0⟩ : SL) [reE (AuditBounds.e0 Zs) 1 (⟨3, 255, 0, 0⟩ : SL)])) ∧ Aside0 (Below w.heap.size w wx))
    case first =>
      have hmkB := HMB.out
      have hk := HK.out
      clear HK HWK
      rcases hk with rfl | rfl | rfl | rfl | rfl | rfl
      · -- 0
        have z0 : wr.cell? ⟨gE, 0, none⟩ = some (.int .i64 (AuditBounds.e0 Zs).f0) := (blk_cell BE.out 0).trans rfl
        have z1 : wr.cell? ⟨gE, 1, none⟩ = some (.int .i64 (AuditBounds.e0 Zs).f1.f0) := (blk_cell BE.out 1).trans rfl
        have z2 : wr.cell? ⟨gE, 2, none⟩ = some (.int .i64 (AuditBounds.e0 Zs).f1.f1) := (blk_cell BE.out 2).trans rfl
        have z3 : wr.cell? ⟨gE, 3, none⟩ = some (.int .i64 (AuditBounds.e0 Zs).f1.f2) := (blk_cell BE.out 3).trans rfl
        have z4 : wr.cell? ⟨gE, 4, none⟩ = some (.int .i64 (AuditBounds.e0 Zs).f1.f3) := (blk_cell BE.out 4).trans rfl
        have z5 : wr.cell? ⟨gE, 5, none⟩ = some (.string (AuditBounds.e0 Zs).f2) := (blk_cell BE.out 5).trans rfl
        have z6 : wr.cell? ⟨gE, 6, none⟩ = some (.int .i64 (AuditBounds.e0 Zs).f3) := (blk_cell BE.out 6).trans rfl
        have z7 : wr.cell? ⟨gE, 7, none⟩ = some (.string (AuditBounds.e0 Zs).f4) := (blk_cell BE.out 7).trans rfl
        have z8 : wr.cell? ⟨gE, 8, none⟩ = some (.int .i64 (AuditBounds.e0 Zs).f5) := (blk_cell BE.out 8).trans rfl
        dsimp only [AuditBounds.e0] at z0 z1 z2 z3 z4 z5 z6 z7 z8
        have fz := blk_frozen BE.out 6
        go_wp2_with fail
        go_meet
        case rel => exact ⟨(⟨0, ⟨3, 255, 0, 0⟩, Zs, b14, Zs, 255⟩ : SE), ⟨blk_put BE.out 6 _ rfl⟩, ⟨AuditBounds.bad_0 HB1.out HS.out HS2.out⟩, ⟨(HL.out.set GLB.out GM.out HGB.out)⟩, ⟨below_set HB.out HGE.out⟩⟩
      · -- 1
        have z0 : wr.cell? ⟨gE, 0, none⟩ = some (.int .i64 (AuditBounds.e0 Zs).f0) := (blk_cell BE.out 0).trans rfl
        have z1 : wr.cell? ⟨gE, 1, none⟩ = some (.int .i64 (AuditBounds.e0 Zs).f1.f0) := (blk_cell BE.out 1).trans rfl
        have z2 : wr.cell? ⟨gE, 2, none⟩ = some (.int .i64 (AuditBounds.e0 Zs).f1.f1) := (blk_cell BE.out 2).trans rfl
        have z3 : wr.cell? ⟨gE, 3, none⟩ = some (.int .i64 (AuditBounds.e0 Zs).f1.f2) := (blk_cell BE.out 3).trans rfl
        have z4 : wr.cell? ⟨gE, 4, none⟩ = some (.int .i64 (AuditBounds.e0 Zs).f1.f3) := (blk_cell BE.out 4).trans rfl
        have z5 : wr.cell? ⟨gE, 5, none⟩ = some (.string (AuditBounds.e0 Zs).f2) := (blk_cell BE.out 5).trans rfl
        have z6 : wr.cell? ⟨gE, 6, none⟩ = some (.int .i64 (AuditBounds.e0 Zs).f3) := (blk_cell BE.out 6).trans rfl
        have z7 : wr.cell? ⟨gE, 7, none⟩ = some (.string (AuditBounds.e0 Zs).f4) := (blk_cell BE.out 7).trans rfl
        have z8 : wr.cell? ⟨gE, 8, none⟩ = some (.int .i64 (AuditBounds.e0 Zs).f5) := (blk_cell BE.out 8).trans rfl
        dsimp only [AuditBounds.e0] at z0 z1 z2 z3 z4 z5 z6 z7 z8
        have fz := blk_frozen BE.out 6
        go_wp2_with fail
        go_meet
        case rel => exact ⟨(⟨0, ⟨3, 255, 0, 0⟩, Zs, b1, Zs, 255⟩ : SE), ⟨blk_put BE.out 6 _ rfl⟩, ⟨AuditBounds.bad_1 HB1.out HS.out HS2.out⟩, ⟨(HL.out.set GLB.out GM.out HGB.out)⟩, ⟨below_set HB.out HGE.out⟩⟩
      · -- 2
        have z0 : wr.cell? ⟨gE, 0, none⟩ = some (.int .i64 (AuditBounds.e0 Zs).f0) := (blk_cell BE.out 0).trans rfl
        have z1 : wr.cell? ⟨gE, 1, none⟩ = some (.int .i64 (AuditBounds.e0 Zs).f1.f0) := (blk_cell BE.out 1).trans rfl
        have z2 : wr.cell? ⟨gE, 2, none⟩ = some (.int .i64 (AuditBounds.e0 Zs).f1.f1) := (blk_cell BE.out 2).trans rfl
        have z3 : wr.cell? ⟨gE, 3, none⟩ = some (.int .i64 (AuditBounds.e0 Zs).f1.f2) := (blk_cell BE.out 3).trans rfl
        have z4 : wr.cell? ⟨gE, 4, none⟩ = some (.int .i64 (AuditBounds.e0 Zs).f1.f3) := (blk_cell BE.out 4).trans rfl
        have z5 : wr.cell? ⟨gE, 5, none⟩ = some (.string (AuditBounds.e0 Zs).f2) := (blk_cell BE.out 5).trans rfl
        have z6 : wr.cell? ⟨gE, 6, none⟩ = some (.int .i64 (AuditBounds.e0 Zs).f3) := (blk_cell BE.out 6).trans rfl
        have z7 : wr.cell? ⟨gE, 7, none⟩ = some (.string (AuditBounds.e0 Zs).f4) := (blk_cell BE.out 7).trans rfl
        have z8 : wr.cell? ⟨gE, 8, none⟩ = some (.int .i64 (AuditBounds.e0 Zs).f5) := (blk_cell BE.out 8).trans rfl
        dsimp only [AuditBounds.e0] at z0 z1 z2 z3 z4 z5 z6 z7 z8
        have fz := blk_frozen BE.out 5
        have hcv : (convert 41 9 (.slice (some ⟨wr.heap.size, 0, none⟩) m m)).run Tryd.prog (wr.alloc ZB).drew = .ok (.string BS) (wr.alloc ZB).drew := HCV.out wr
        have hcat : (9223372036854775807 < Zs.size + BS.size) = False := eq_false (by have := HS.out; have := HS2.out; have := HB1.out; omega)
        have zb : (wr.alloc ZB).drew.cell? ⟨gE, 5, none⟩ = some (.string Zs) := (blk_cell (blk_drew (at_keep BE.out ZB)) 5).trans rfl
        have fzb := blk_frozen (blk_drew (at_keep BE.out ZB)) 5
        go_wp2
        go_region
        all_goals
          go_wp2_with fail
          go_meet
          case rel => exact ⟨(⟨0, ⟨3, 255, 0, 0⟩, (Zs ++ BS), 14, Zs, 255⟩ : SE), ⟨blk_put (blk_alloc (blk_drew BE.out) ZB) 5 _ rfl⟩, ⟨AuditBounds.bad_2 HB1.out HS.out HS2.out⟩, ⟨((HL.out.below (below_alloc (below_drew1 (Below.refl _ _)) ZB)).set GLB.out GM.out HGB.out)⟩, ⟨below_set (below_alloc (below_drew1 HB.out) ZB) HGE.out⟩⟩
      · -- 3
        have z0 : wr.cell? ⟨gE, 0, none⟩ = some (.int .i64 (AuditBounds.e0 Zs).f0) := (blk_cell BE.out 0).trans rfl
        have z1 : wr.cell? ⟨gE, 1, none⟩ = some (.int .i64 (AuditBounds.e0 Zs).f1.f0) := (blk_cell BE.out 1).trans rfl
        have z2 : wr.cell? ⟨gE, 2, none⟩ = some (.int .i64 (AuditBounds.e0 Zs).f1.f1) := (blk_cell BE.out 2).trans rfl
        have z3 : wr.cell? ⟨gE, 3, none⟩ = some (.int .i64 (AuditBounds.e0 Zs).f1.f2) := (blk_cell BE.out 3).trans rfl
        have z4 : wr.cell? ⟨gE, 4, none⟩ = some (.int .i64 (AuditBounds.e0 Zs).f1.f3) := (blk_cell BE.out 4).trans rfl
        have z5 : wr.cell? ⟨gE, 5, none⟩ = some (.string (AuditBounds.e0 Zs).f2) := (blk_cell BE.out 5).trans rfl
        have z6 : wr.cell? ⟨gE, 6, none⟩ = some (.int .i64 (AuditBounds.e0 Zs).f3) := (blk_cell BE.out 6).trans rfl
        have z7 : wr.cell? ⟨gE, 7, none⟩ = some (.string (AuditBounds.e0 Zs).f4) := (blk_cell BE.out 7).trans rfl
        have z8 : wr.cell? ⟨gE, 8, none⟩ = some (.int .i64 (AuditBounds.e0 Zs).f5) := (blk_cell BE.out 8).trans rfl
        dsimp only [AuditBounds.e0] at z0 z1 z2 z3 z4 z5 z6 z7 z8
        have fz := blk_frozen BE.out 7
        have hcv : (convert 41 9 (.slice (some ⟨wr.heap.size, 0, none⟩) m m)).run Tryd.prog (wr.alloc ZB).drew = .ok (.string BS) (wr.alloc ZB).drew := HCV.out wr
        have hcat : (9223372036854775807 < Zs.size + BS.size) = False := eq_false (by have := HS.out; have := HS2.out; have := HB1.out; omega)
        have zb : (wr.alloc ZB).drew.cell? ⟨gE, 7, none⟩ = some (.string Zs) := (blk_cell (blk_drew (at_keep BE.out ZB)) 7).trans rfl
        have fzb := blk_frozen (blk_drew (at_keep BE.out ZB)) 7
        go_wp2
        go_region
        all_goals
          go_wp2_with fail
          go_meet
          case rel => exact ⟨(⟨0, ⟨3, 255, 0, 0⟩, Zs, 14, (Zs ++ BS), 255⟩ : SE), ⟨blk_put (blk_alloc (blk_drew BE.out) ZB) 7 _ rfl⟩, ⟨AuditBounds.bad_3 HB1.out HS.out HS2.out⟩, ⟨((HL.out.below (below_alloc (below_drew1 (Below.refl _ _)) ZB)).set GLB.out GM.out HGB.out)⟩, ⟨below_set (below_alloc (below_drew1 HB.out) ZB) HGE.out⟩⟩
      · -- 4
        have z0 : wr.cell? ⟨gE, 0, none⟩ = some (.int .i64 (AuditBounds.e0 Zs).f0) := (blk_cell BE.out 0).trans rfl
        have z1 : wr.cell? ⟨gE, 1, none⟩ = some (.int .i64 (AuditBounds.e0 Zs).f1.f0) := (blk_cell BE.out 1).trans rfl
        have z2 : wr.cell? ⟨gE, 2, none⟩ = some (.int .i64 (AuditBounds.e0 Zs).f1.f1) := (blk_cell BE.out 2).trans rfl
        have z3 : wr.cell? ⟨gE, 3, none⟩ = some (.int .i64 (AuditBounds.e0 Zs).f1.f2) := (blk_cell BE.out 3).trans rfl
        have z4 : wr.cell? ⟨gE, 4, none⟩ = some (.int .i64 (AuditBounds.e0 Zs).f1.f3) := (blk_cell BE.out 4).trans rfl
        have z5 : wr.cell? ⟨gE, 5, none⟩ = some (.string (AuditBounds.e0 Zs).f2) := (blk_cell BE.out 5).trans rfl
        have z6 : wr.cell? ⟨gE, 6, none⟩ = some (.int .i64 (AuditBounds.e0 Zs).f3) := (blk_cell BE.out 6).trans rfl
        have z7 : wr.cell? ⟨gE, 7, none⟩ = some (.string (AuditBounds.e0 Zs).f4) := (blk_cell BE.out 7).trans rfl
        have z8 : wr.cell? ⟨gE, 8, none⟩ = some (.int .i64 (AuditBounds.e0 Zs).f5) := (blk_cell BE.out 8).trans rfl
        dsimp only [AuditBounds.e0] at z0 z1 z2 z3 z4 z5 z6 z7 z8
        have fz := blk_frozen BE.out 8
        go_wp2_with fail
        go_meet
        case rel => exact ⟨(⟨0, ⟨3, 255, 0, 0⟩, Zs, 14, Zs, b255⟩ : SE), ⟨blk_put BE.out 8 _ rfl⟩, ⟨AuditBounds.bad_4 HB1.out HS.out HS2.out⟩, ⟨(HL.out.set GLB.out GM.out HGB.out)⟩, ⟨below_set HB.out HGE.out⟩⟩
      · -- 5
        have z0 : wr.cell? ⟨gE, 0, none⟩ = some (.int .i64 (AuditBounds.e0 Zs).f0) := (blk_cell BE.out 0).trans rfl
        have z1 : wr.cell? ⟨gE, 1, none⟩ = some (.int .i64 (AuditBounds.e0 Zs).f1.f0) := (blk_cell BE.out 1).trans rfl
        have z2 : wr.cell? ⟨gE, 2, none⟩ = some (.int .i64 (AuditBounds.e0 Zs).f1.f1) := (blk_cell BE.out 2).trans rfl
        have z3 : wr.cell? ⟨gE, 3, none⟩ = some (.int .i64 (AuditBounds.e0 Zs).f1.f2) := (blk_cell BE.out 3).trans rfl
        have z4 : wr.cell? ⟨gE, 4, none⟩ = some (.int .i64 (AuditBounds.e0 Zs).f1.f3) := (blk_cell BE.out 4).trans rfl
        have z5 : wr.cell? ⟨gE, 5, none⟩ = some (.string (AuditBounds.e0 Zs).f2) := (blk_cell BE.out 5).trans rfl
        have z6 : wr.cell? ⟨gE, 6, none⟩ = some (.int .i64 (AuditBounds.e0 Zs).f3) := (blk_cell BE.out 6).trans rfl
        have z7 : wr.cell? ⟨gE, 7, none⟩ = some (.string (AuditBounds.e0 Zs).f4) := (blk_cell BE.out 7).trans rfl
        have z8 : wr.cell? ⟨gE, 8, none⟩ = some (.int .i64 (AuditBounds.e0 Zs).f5) := (blk_cell BE.out 8).trans rfl
        dsimp only [AuditBounds.e0] at z0 z1 z2 z3 z4 z5 z6 z7 z8
        have fz := blk_frozen BE.out 1
        go_wp2_with fail
        go_meet
        case rel => exact ⟨(⟨0, ⟨b3, 255, 0, 0⟩, Zs, 14, Zs, 255⟩ : SE), ⟨blk_put BE.out 1 _ rfl⟩, ⟨AuditBounds.bad_5 HB1.out HS.out HS2.out⟩, ⟨(HL.out.set GLB.out GM.out HGB.out)⟩, ⟨below_set HB.out HGE.out⟩⟩
    case rest =>
      obtain ⟨e2, BE6, HBAD, HL6, HB6⟩ := hcut
      clear BE HL HB
      have z0 : wc.cell? ⟨gE, 0, none⟩ = some (.int .i64 e2.f0) := (blk_cell BE6.out 0).trans rfl
      have z1 : wc.cell? ⟨gE, 1, none⟩ = some (.int .i64 e2.f1.f0) := (blk_cell BE6.out 1).trans rfl
      have z2 : wc.cell? ⟨gE, 2, none⟩ = some (.int .i64 e2.f1.f1) := (blk_cell BE6.out 2).trans rfl
      have z3 : wc.cell? ⟨gE, 3, none⟩ = some (.int .i64 e2.f1.f2) := (blk_cell BE6.out 3).trans rfl
      have z4 : wc.cell? ⟨gE, 4, none⟩ = some (.int .i64 e2.f1.f3) := (blk_cell BE6.out 4).trans rfl
      have z5 : wc.cell? ⟨gE, 5, none⟩ = some (.string e2.f2) := (blk_cell BE6.out 5).trans rfl
      have z6 : wc.cell? ⟨gE, 6, none⟩ = some (.int .i64 e2.f3) := (blk_cell BE6.out 6).trans rfl
      have z7 : wc.cell? ⟨gE, 7, none⟩ = some (.string e2.f4) := (blk_cell BE6.out 7).trans rfl
      have z8 : wc.cell? ⟨gE, 8, none⟩ = some (.int .i64 e2.f5) := (blk_cell BE6.out 8).trans rfl
      go_wp2_with fail
      refine (log_Add_bad lb _ e2 HBAD.out).mono ?_
      rintro e_ w7 ⟨rfl, hb⟩
      have HL7 := Aside0.mk (HL6.out.below hb)
      have HB7 := Aside0.mk (below_step HB6.out hb)
      clear hb HL6 HB6 BE6 z0 z1 z2 z3 z4 z5 z6 z7 z8
      go_wp2_with fail
      refine (log_All_len HL7.out (x := (⟨3, 255, 0, 0⟩ : SL)) AuditBounds.ok (oneRow_at _ _) (m := 1) rfl (by decide)).mono ?_
      rintro e_ w8 ⟨A8, c8, rfl, hR, hb⟩
      have HL8 := Aside0.mk (HL7.out.below hb)
      have HB8 := Aside0.mk (below_step HB7.out hb)
      clear hb hR HL7 HB7
      go_wp2_with fail
      refine (log_Seen_one HL8.out (a := (⟨3, 255, 0, 0⟩ : SL)) AuditBounds.ok AuditBounds.over (by decide)).mono ?_
      rintro e_ w9 ⟨A9, c9, rfl, hb⟩
      have HB9 := Aside0.mk (below_step HB8.out hb)
      clear hb HL8 HB8
      go_wp2
      go_ret
      exact ⟨rfl, HB9.out⟩

end Go.Proofs.YtihknjmibnonjaaDoor.X
