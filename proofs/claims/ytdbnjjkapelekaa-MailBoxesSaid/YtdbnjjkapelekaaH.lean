/- Written by a program of this session over the kit's print: YtdbnjjkapelekaaH. -/
import Derived.Test.YtdbnjjkapelekaaProg
import Derived.Below
import Derived.Deep.Draws
import Derived.Deep.AppendLies
import Derived.Maps.AppendAt
import Derived.OwnWalk
import Derived.Laws.BytesArg
import Derived.Laws.MakeOwn
import Derived.Laws.OwnMore
import Derived.Deep.OwnRows
import Derived.Tactics
import Derived.Lib.ConvBytes
import Derived.Laws.Slices
import Derived.WalkKit
import Derived.KernelRfl
import Derived.RowKit3
import Derived.Deep.LoopGhost
import Derived.Deep.QuietTactic
import Derived.BigQuiet
import Derived.WideLaws
import Derived.Deep.DeepCutAuto
import Derived.Deep.CutBlock
import Derived.Deep.RegionHeld3
import Derived.Laws.Rows
import Derived.Lib.AppendStr
import Derived.ArgAppend
import Derived.Laws.IdiomCopy
import Derived.OrdersHeld
import Derived.Laws.BitsLemmas
import Derived.RowKit
import Derived.Test.YtdbnjjkapelekaaWWords
import Derived.Test.YtdbnjjkapelekaaWLast
import Derived.Test.YtdbnjjkapelekaaWTab
import Derived.Test.YtdbnjjkapelekaaWQPut
import Derived.Test.YtdbnjjkapelekaaWApart
import Derived.Test.YtdbnjjkapelekaaWArr
import Derived.Test.YtdbnjjkapelekaaWZeros
import Derived.Test.YtdbnjjkapelekaaWFoot
import Derived.Test.YtdbnjjkapelekaaWKept
import Derived.Test.YtdbnjjkapelekaaWShare
import Derived.Test.YtdbnjjkapelekaaWN
import Derived.Test.YtdbnjjkapelekaaWEqStruct
import Derived.Test.YtdbnjjkapelekaaWRepsOne
import Derived.Test.YtdbnjjkapelekaaWNEv
import Derived.Test.YtdbnjjkapelekaaWMore
import Derived.Test.YtdbnjjkapelekaaXw
namespace Go.Proofs.Ytdbnjjkapelekaa.X
open Go.RowKit Go.Proofs.YtdbnjjkapelekaaW.PrintWords Go.Proofs.YtdbnjjkapelekaaW.PrintLast Go.Proofs.YtdbnjjkapelekaaW.PrintMore Go.Proofs.Ytdbnjjkapelekaa.More
attribute [local go_sem] max2_int min2_int max_two min_two max_three min_three max_four min_four binOp_string_leq binOp_string_gtr   -- for this text's walks alone
set_option linter.unusedVariables false
set_option linter.unusedSimpArgs false

def errW : Option Int → Value
 | none => .nilIface
 | some c => .iface 0 (.int .i64 c)
theorem errW_none : errW none = .nilIface := rfl
theorem errW_some (c : Int) : errW (some c) = .iface 0 (.int .i64 c) := rfl

theorem info5 : (Try.prog.info? 5).map (fun i => (i.zero, i.size, i.bytes)) = some (some (.int .u8 0), 1, 1) := by kernel_rfl
theorem info9 : (Try.prog.info? 9).map (fun i => (i.zero, i.size, i.bytes)) = some (some (.string ⟨#[]⟩), 1, 16) := by kernel_rfl
theorem info26 : (Try.prog.info? 26).map (fun i => (i.zero, i.size, i.bytes)) = some (some (.agg #[(.int .i64 0), (.int .i64 0), (.int .i64 0), (.int .i64 0)]), 4, 32) := by kernel_rfl
theorem info28 : (Try.prog.info? 28).map (fun i => (i.zero, i.size, i.bytes)) = some (some (.agg #[(.string ⟨#[]⟩), (.int .i64 0), (.int .i64 0), (.int .i64 0), (.int .i64 0), (.string ⟨#[]⟩), (.int .i64 0), (.int .i64 0), (.int .i64 0), (.int .i64 0), (.string ⟨#[]⟩)]), 11, 112) := by kernel_rfl
theorem info44 : (Try.prog.info? 44).map (fun i => (i.zero, i.size, i.bytes)) = some (some (.agg #[(.int .i64 0), (.int .i64 0), (.int .i64 0), (.int .i64 0), (.int .i64 0), (.int .i64 0), (.int .i64 0), (.int .i64 0), (.string ⟨#[]⟩)]), 9, 80) := by kernel_rfl
/-! #### struct type 26 -/
structure S26 where
 f0 : Int
 f1 : Int
 f2 : Int
 f3 : Int
def z26 : S26 := ⟨(0 : Int), (0 : Int), (0 : Int), (0 : Int)⟩
def k26 : Kd S26 := Kd.iso (Kd.pair (Kd.int .i64) (Kd.pair (Kd.int .i64) (Kd.pair (Kd.int .i64) (Kd.int .i64)))) (fun x : S26 => (x.f0, x.f1, x.f2, x.f3))
theorem k26_open {w : World} {x : S26} {cs : List Value} (h : k26.K w x cs) : cs = [.int .i64 x.f0, .int .i64 x.f1, .int .i64 x.f2, .int .i64 x.f3] := by
 obtain ⟨_, _, rfl, rfl, ⟨_, _, rfl, rfl, ⟨_, _, rfl, rfl, rfl⟩⟩⟩ := h
 exact rfl
theorem k26_openM {w : World} {base : Nat} {ok : Nat → Prop} {x : S26} {cs : List Value} (h : k26.M w base ok x cs) : cs = [.int .i64 x.f0, .int .i64 x.f1, .int .i64 x.f2, .int .i64 x.f3] := by
 obtain ⟨_, _, rfl, rfl, ⟨_, _, rfl, rfl, ⟨_, _, rfl, rfl, rfl⟩⟩⟩ := h
 exact rfl
theorem k26_mk (w : World) (x : S26)  : k26.K w x [.int .i64 x.f0, .int .i64 x.f1, .int .i64 x.f2, .int .i64 x.f3] := ⟨[.int .i64 x.f0], [.int .i64 x.f1, .int .i64 x.f2, .int .i64 x.f3], rfl, rfl, ⟨[.int .i64 x.f1], [.int .i64 x.f2, .int .i64 x.f3], rfl, rfl, ⟨[.int .i64 x.f2], [.int .i64 x.f3], rfl, rfl, rfl⟩⟩⟩
theorem k26_mkM (w : World) (base : Nat) (ok : Nat → Prop) (x : S26)  : k26.M w base ok x [.int .i64 x.f0, .int .i64 x.f1, .int .i64 x.f2, .int .i64 x.f3] := ⟨[.int .i64 x.f0], [.int .i64 x.f1, .int .i64 x.f2, .int .i64 x.f3], rfl, rfl, ⟨[.int .i64 x.f1], [.int .i64 x.f2, .int .i64 x.f3], rfl, rfl, ⟨[.int .i64 x.f2], [.int .i64 x.f3], rfl, rfl, rfl⟩⟩⟩
def rd_T26 (xs : List S26) (i : Int) : S26 := xs.getD i.toNat z26
theorem at_T26 {w : World} {A : Option Addr} {n : Nat} {xs : List S26} (h : Kd.C k26 w A n xs) (i : Int) (h0 : 0 ≤ i) (h1 : i < n) : ∃ ad , A = some ad ∧ w.cell? (ad.add (i.toNat * 4)) = some (.int .i64 (rd_T26 xs i).f0) ∧ w.cell? ⟨(ad.add (i.toNat * 4)).block, (ad.add (i.toNat * 4)).off + 1, none⟩ = some (.int .i64 (rd_T26 xs i).f1) ∧ w.cell? ⟨(ad.add (i.toNat * 4)).block, (ad.add (i.toNat * 4)).off + 2, none⟩ = some (.int .i64 (rd_T26 xs i).f2) ∧ w.cell? ⟨(ad.add (i.toNat * 4)).block, (ad.add (i.toNat * 4)).off + 3, none⟩ = some (.int .i64 (rd_T26 xs i).f3) := by
 obtain ⟨ad, c, e, _, hK, hc0⟩ := Kd.C_get h z26 i h0 h1; have hc : ∀ j u, c[j]? = some u → w.cell? (ad.add (i.toNat * 4 + j)) = some u := hc0; obtain rfl := k26_open hK
 exact ⟨ad, e, hc 0 _ rfl, by rw [← add_field _ _ 1 (by omega)]; exact hc 1 _ rfl, by rw [← add_field _ _ 2 (by omega)]; exact hc 2 _ rfl, by rw [← add_field _ _ 3 (by omega)]; exact hc 3 _ rfl⟩

/-! #### struct type 44 -/
structure S44 where
 f0 : S26
 f1 : S26
 f2 : ByteArray
def z44 : S44 := ⟨z26, z26, (⟨#[]⟩ : ByteArray)⟩
def k44 : Kd S44 := Kd.iso (Kd.pair k26 (Kd.pair k26 Kd.string)) (fun x : S44 => (x.f0, x.f1, x.f2))
theorem k44_open {w : World} {x : S44} {cs : List Value} (h : k44.K w x cs) : cs = [.int .i64 x.f0.f0, .int .i64 x.f0.f1, .int .i64 x.f0.f2, .int .i64 x.f0.f3, .int .i64 x.f1.f0, .int .i64 x.f1.f1, .int .i64 x.f1.f2, .int .i64 x.f1.f3, .string x.f2] := by
 obtain ⟨_, _, rfl, s0, ⟨_, _, rfl, s4, rfl⟩⟩ := h; obtain rfl := k26_open s0; obtain rfl := k26_open s4
 exact rfl
theorem k44_openM {w : World} {base : Nat} {ok : Nat → Prop} {x : S44} {cs : List Value} (h : k44.M w base ok x cs) : cs = [.int .i64 x.f0.f0, .int .i64 x.f0.f1, .int .i64 x.f0.f2, .int .i64 x.f0.f3, .int .i64 x.f1.f0, .int .i64 x.f1.f1, .int .i64 x.f1.f2, .int .i64 x.f1.f3, .string x.f2] := by
 obtain ⟨_, _, rfl, s0, ⟨_, _, rfl, s4, rfl⟩⟩ := h; obtain rfl := k26_openM s0; obtain rfl := k26_openM s4
 exact rfl
theorem k44_mk (w : World) (x : S44)  : k44.K w x [.int .i64 x.f0.f0, .int .i64 x.f0.f1, .int .i64 x.f0.f2, .int .i64 x.f0.f3, .int .i64 x.f1.f0, .int .i64 x.f1.f1, .int .i64 x.f1.f2, .int .i64 x.f1.f3, .string x.f2] := ⟨[.int .i64 x.f0.f0, .int .i64 x.f0.f1, .int .i64 x.f0.f2, .int .i64 x.f0.f3], [.int .i64 x.f1.f0, .int .i64 x.f1.f1, .int .i64 x.f1.f2, .int .i64 x.f1.f3, .string x.f2], rfl, (k26_mk w x.f0 ), ⟨[.int .i64 x.f1.f0, .int .i64 x.f1.f1, .int .i64 x.f1.f2, .int .i64 x.f1.f3], [.string x.f2], rfl, (k26_mk w x.f1 ), rfl⟩⟩
theorem k44_mkM (w : World) (base : Nat) (ok : Nat → Prop) (x : S44)  : k44.M w base ok x [.int .i64 x.f0.f0, .int .i64 x.f0.f1, .int .i64 x.f0.f2, .int .i64 x.f0.f3, .int .i64 x.f1.f0, .int .i64 x.f1.f1, .int .i64 x.f1.f2, .int .i64 x.f1.f3, .string x.f2] := ⟨[.int .i64 x.f0.f0, .int .i64 x.f0.f1, .int .i64 x.f0.f2, .int .i64 x.f0.f3], [.int .i64 x.f1.f0, .int .i64 x.f1.f1, .int .i64 x.f1.f2, .int .i64 x.f1.f3, .string x.f2], rfl, (k26_mkM w base ok x.f0 ), ⟨[.int .i64 x.f1.f0, .int .i64 x.f1.f1, .int .i64 x.f1.f2, .int .i64 x.f1.f3], [.string x.f2], rfl, (k26_mkM w base ok x.f1 ), rfl⟩⟩
def rd_T44 (xs : List S44) (i : Int) : S44 := xs.getD i.toNat z44
theorem at_T44 {w : World} {A : Option Addr} {n : Nat} {xs : List S44} (h : Kd.C k44 w A n xs) (i : Int) (h0 : 0 ≤ i) (h1 : i < n) : ∃ ad , A = some ad ∧ w.cell? (ad.add (i.toNat * 9)) = some (.int .i64 (rd_T44 xs i).f0.f0) ∧ w.cell? ⟨(ad.add (i.toNat * 9)).block, (ad.add (i.toNat * 9)).off + 1, none⟩ = some (.int .i64 (rd_T44 xs i).f0.f1) ∧ w.cell? ⟨(ad.add (i.toNat * 9)).block, (ad.add (i.toNat * 9)).off + 2, none⟩ = some (.int .i64 (rd_T44 xs i).f0.f2) ∧ w.cell? ⟨(ad.add (i.toNat * 9)).block, (ad.add (i.toNat * 9)).off + 3, none⟩ = some (.int .i64 (rd_T44 xs i).f0.f3) ∧ w.cell? ⟨(ad.add (i.toNat * 9)).block, (ad.add (i.toNat * 9)).off + 4, none⟩ = some (.int .i64 (rd_T44 xs i).f1.f0) ∧ w.cell? ⟨(ad.add (i.toNat * 9)).block, (ad.add (i.toNat * 9)).off + 5, none⟩ = some (.int .i64 (rd_T44 xs i).f1.f1) ∧ w.cell? ⟨(ad.add (i.toNat * 9)).block, (ad.add (i.toNat * 9)).off + 6, none⟩ = some (.int .i64 (rd_T44 xs i).f1.f2) ∧ w.cell? ⟨(ad.add (i.toNat * 9)).block, (ad.add (i.toNat * 9)).off + 7, none⟩ = some (.int .i64 (rd_T44 xs i).f1.f3) ∧ w.cell? ⟨(ad.add (i.toNat * 9)).block, (ad.add (i.toNat * 9)).off + 8, none⟩ = some (.string (rd_T44 xs i).f2) := by
 obtain ⟨ad, c, e, _, hK, hc0⟩ := Kd.C_get h z44 i h0 h1; have hc : ∀ j u, c[j]? = some u → w.cell? (ad.add (i.toNat * 9 + j)) = some u := hc0; obtain rfl := k44_open hK
 exact ⟨ad, e, hc 0 _ rfl, by rw [← add_field _ _ 1 (by omega)]; exact hc 1 _ rfl, by rw [← add_field _ _ 2 (by omega)]; exact hc 2 _ rfl, by rw [← add_field _ _ 3 (by omega)]; exact hc 3 _ rfl, by rw [← add_field _ _ 4 (by omega)]; exact hc 4 _ rfl, by rw [← add_field _ _ 5 (by omega)]; exact hc 5 _ rfl, by rw [← add_field _ _ 6 (by omega)]; exact hc 6 _ rfl, by rw [← add_field _ _ 7 (by omega)]; exact hc 7 _ rfl, by rw [← add_field _ _ 8 (by omega)]; exact hc 8 _ rfl⟩

/-! #### struct type 28 -/
structure S28 where
 f0 : ByteArray
 f1 : S26
 f2 : ByteArray
 f3 : S26
 f4 : ByteArray
def z28 : S28 := ⟨(⟨#[]⟩ : ByteArray), z26, (⟨#[]⟩ : ByteArray), z26, (⟨#[]⟩ : ByteArray)⟩
def k28 : Kd S28 := Kd.iso (Kd.pair Kd.string (Kd.pair k26 (Kd.pair Kd.string (Kd.pair k26 Kd.string)))) (fun x : S28 => (x.f0, x.f1, x.f2, x.f3, x.f4))
theorem k28_open {w : World} {x : S28} {cs : List Value} (h : k28.K w x cs) : cs = [.string x.f0, .int .i64 x.f1.f0, .int .i64 x.f1.f1, .int .i64 x.f1.f2, .int .i64 x.f1.f3, .string x.f2, .int .i64 x.f3.f0, .int .i64 x.f3.f1, .int .i64 x.f3.f2, .int .i64 x.f3.f3, .string x.f4] := by
 obtain ⟨_, _, rfl, rfl, ⟨_, _, rfl, s1, ⟨_, _, rfl, rfl, ⟨_, _, rfl, s6, rfl⟩⟩⟩⟩ := h; obtain rfl := k26_open s1; obtain rfl := k26_open s6
 exact rfl
theorem k28_openM {w : World} {base : Nat} {ok : Nat → Prop} {x : S28} {cs : List Value} (h : k28.M w base ok x cs) : cs = [.string x.f0, .int .i64 x.f1.f0, .int .i64 x.f1.f1, .int .i64 x.f1.f2, .int .i64 x.f1.f3, .string x.f2, .int .i64 x.f3.f0, .int .i64 x.f3.f1, .int .i64 x.f3.f2, .int .i64 x.f3.f3, .string x.f4] := by
 obtain ⟨_, _, rfl, rfl, ⟨_, _, rfl, s1, ⟨_, _, rfl, rfl, ⟨_, _, rfl, s6, rfl⟩⟩⟩⟩ := h; obtain rfl := k26_openM s1; obtain rfl := k26_openM s6
 exact rfl
theorem k28_mk (w : World) (x : S28)  : k28.K w x [.string x.f0, .int .i64 x.f1.f0, .int .i64 x.f1.f1, .int .i64 x.f1.f2, .int .i64 x.f1.f3, .string x.f2, .int .i64 x.f3.f0, .int .i64 x.f3.f1, .int .i64 x.f3.f2, .int .i64 x.f3.f3, .string x.f4] := ⟨[.string x.f0], [.int .i64 x.f1.f0, .int .i64 x.f1.f1, .int .i64 x.f1.f2, .int .i64 x.f1.f3, .string x.f2, .int .i64 x.f3.f0, .int .i64 x.f3.f1, .int .i64 x.f3.f2, .int .i64 x.f3.f3, .string x.f4], rfl, rfl, ⟨[.int .i64 x.f1.f0, .int .i64 x.f1.f1, .int .i64 x.f1.f2, .int .i64 x.f1.f3], [.string x.f2, .int .i64 x.f3.f0, .int .i64 x.f3.f1, .int .i64 x.f3.f2, .int .i64 x.f3.f3, .string x.f4], rfl, (k26_mk w x.f1 ), ⟨[.string x.f2], [.int .i64 x.f3.f0, .int .i64 x.f3.f1, .int .i64 x.f3.f2, .int .i64 x.f3.f3, .string x.f4], rfl, rfl, ⟨[.int .i64 x.f3.f0, .int .i64 x.f3.f1, .int .i64 x.f3.f2, .int .i64 x.f3.f3], [.string x.f4], rfl, (k26_mk w x.f3 ), rfl⟩⟩⟩⟩
theorem k28_mkM (w : World) (base : Nat) (ok : Nat → Prop) (x : S28)  : k28.M w base ok x [.string x.f0, .int .i64 x.f1.f0, .int .i64 x.f1.f1, .int .i64 x.f1.f2, .int .i64 x.f1.f3, .string x.f2, .int .i64 x.f3.f0, .int .i64 x.f3.f1, .int .i64 x.f3.f2, .int .i64 x.f3.f3, .string x.f4] := ⟨[.string x.f0], [.int .i64 x.f1.f0, .int .i64 x.f1.f1, .int .i64 x.f1.f2, .int .i64 x.f1.f3, .string x.f2, .int .i64 x.f3.f0, .int .i64 x.f3.f1, .int .i64 x.f3.f2, .int .i64 x.f3.f3, .string x.f4], rfl, rfl, ⟨[.int .i64 x.f1.f0, .int .i64 x.f1.f1, .int .i64 x.f1.f2, .int .i64 x.f1.f3], [.string x.f2, .int .i64 x.f3.f0, .int .i64 x.f3.f1, .int .i64 x.f3.f2, .int .i64 x.f3.f3, .string x.f4], rfl, (k26_mkM w base ok x.f1 ), ⟨[.string x.f2], [.int .i64 x.f3.f0, .int .i64 x.f3.f1, .int .i64 x.f3.f2, .int .i64 x.f3.f3, .string x.f4], rfl, rfl, ⟨[.int .i64 x.f3.f0, .int .i64 x.f3.f1, .int .i64 x.f3.f2, .int .i64 x.f3.f3], [.string x.f4], rfl, (k26_mkM w base ok x.f3 ), rfl⟩⟩⟩⟩
def rd_T28 (xs : List S28) (i : Int) : S28 := xs.getD i.toNat z28
theorem at_T28 {w : World} {A : Option Addr} {n : Nat} {xs : List S28} (h : Kd.C k28 w A n xs) (i : Int) (h0 : 0 ≤ i) (h1 : i < n) : ∃ ad , A = some ad ∧ w.cell? (ad.add (i.toNat * 11)) = some (.string (rd_T28 xs i).f0) ∧ w.cell? ⟨(ad.add (i.toNat * 11)).block, (ad.add (i.toNat * 11)).off + 1, none⟩ = some (.int .i64 (rd_T28 xs i).f1.f0) ∧ w.cell? ⟨(ad.add (i.toNat * 11)).block, (ad.add (i.toNat * 11)).off + 2, none⟩ = some (.int .i64 (rd_T28 xs i).f1.f1) ∧ w.cell? ⟨(ad.add (i.toNat * 11)).block, (ad.add (i.toNat * 11)).off + 3, none⟩ = some (.int .i64 (rd_T28 xs i).f1.f2) ∧ w.cell? ⟨(ad.add (i.toNat * 11)).block, (ad.add (i.toNat * 11)).off + 4, none⟩ = some (.int .i64 (rd_T28 xs i).f1.f3) ∧ w.cell? ⟨(ad.add (i.toNat * 11)).block, (ad.add (i.toNat * 11)).off + 5, none⟩ = some (.string (rd_T28 xs i).f2) ∧ w.cell? ⟨(ad.add (i.toNat * 11)).block, (ad.add (i.toNat * 11)).off + 6, none⟩ = some (.int .i64 (rd_T28 xs i).f3.f0) ∧ w.cell? ⟨(ad.add (i.toNat * 11)).block, (ad.add (i.toNat * 11)).off + 7, none⟩ = some (.int .i64 (rd_T28 xs i).f3.f1) ∧ w.cell? ⟨(ad.add (i.toNat * 11)).block, (ad.add (i.toNat * 11)).off + 8, none⟩ = some (.int .i64 (rd_T28 xs i).f3.f2) ∧ w.cell? ⟨(ad.add (i.toNat * 11)).block, (ad.add (i.toNat * 11)).off + 9, none⟩ = some (.int .i64 (rd_T28 xs i).f3.f3) ∧ w.cell? ⟨(ad.add (i.toNat * 11)).block, (ad.add (i.toNat * 11)).off + 10, none⟩ = some (.string (rd_T28 xs i).f4) := by
 obtain ⟨ad, c, e, _, hK, hc0⟩ := Kd.C_get h z28 i h0 h1; have hc : ∀ j u, c[j]? = some u → w.cell? (ad.add (i.toNat * 11 + j)) = some u := hc0; obtain rfl := k28_open hK
 exact ⟨ad, e, hc 0 _ rfl, by rw [← add_field _ _ 1 (by omega)]; exact hc 1 _ rfl, by rw [← add_field _ _ 2 (by omega)]; exact hc 2 _ rfl, by rw [← add_field _ _ 3 (by omega)]; exact hc 3 _ rfl, by rw [← add_field _ _ 4 (by omega)]; exact hc 4 _ rfl, by rw [← add_field _ _ 5 (by omega)]; exact hc 5 _ rfl, by rw [← add_field _ _ 6 (by omega)]; exact hc 6 _ rfl, by rw [← add_field _ _ 7 (by omega)]; exact hc 7 _ rfl, by rw [← add_field _ _ 8 (by omega)]; exact hc 8 _ rfl, by rw [← add_field _ _ 9 (by omega)]; exact hc 9 _ rfl, by rw [← add_field _ _ 10 (by omega)]; exact hc 10 _ rfl⟩

def rd_L6 (xs : List (List S28)) (i : Int) : (List S28) := xs.getD i.toNat ([] : List S28)
theorem at_L6 {w : World} {A : Option Addr} {n : Nat} {xs : List (List S28)} (h : Kd.C (Kd.slice 28 k28) w A n xs) (i : Int) (h0 : 0 ≤ i) (h1 : i < n) : ∃ ad A0 c0, A = some ad ∧ w.cell? (ad.add i.toNat) = some (.slice A0 (rd_L6 xs i).length c0) ∧ (rd_L6 xs i).length ≤ c0 ∧ k28.C w A0 (rd_L6 xs i).length (rd_L6 xs i) := by
 obtain ⟨ad, c, e, _, hK, hc0⟩ := Kd.C_get h ([] : List S28) i h0 h1; have hc : ∀ j u, c[j]? = some u → w.cell? (ad.add (i.toNat * 1 + j)) = some u := hc0; obtain ⟨A0, c0, rfl, l0, g0⟩ := hK
 exact ⟨ad, A0, c0, e, by have hq := hc 0 _ rfl; rwa [Nat.mul_one, Nat.add_zero] at hq, l0, g0⟩

def rd_L7 (xs : List (List Int)) (i : Int) : (List Int) := xs.getD i.toNat ([] : List Int)
theorem at_L7 {w : World} {A : Option Addr} {n : Nat} {xs : List (List Int)} (h : Kd.C (Kd.slice 3 (Kd.int .i64)) w A n xs) (i : Int) (h0 : 0 ≤ i) (h1 : i < n) : ∃ ad A0 c0, A = some ad ∧ w.cell? (ad.add i.toNat) = some (.slice A0 (rd_L7 xs i).length c0) ∧ (rd_L7 xs i).length ≤ c0 ∧ (Kd.int .i64).C w A0 (rd_L7 xs i).length (rd_L7 xs i) := by
 obtain ⟨ad, c, e, _, hK, hc0⟩ := Kd.C_get h ([] : List Int) i h0 h1; have hc : ∀ j u, c[j]? = some u → w.cell? (ad.add (i.toNat * 1 + j)) = some u := hc0; obtain ⟨A0, c0, rfl, l0, g0⟩ := hK
 exact ⟨ad, A0, c0, e, by have hq := hc 0 _ rfl; rwa [Nat.mul_one, Nat.add_zero] at hq, l0, g0⟩

def rd_L8 (xs : List (List S44)) (i : Int) : (List S44) := xs.getD i.toNat ([] : List S44)
theorem at_L8 {w : World} {A : Option Addr} {n : Nat} {xs : List (List S44)} (h : Kd.C (Kd.slice 44 k44) w A n xs) (i : Int) (h0 : 0 ≤ i) (h1 : i < n) : ∃ ad A0 c0, A = some ad ∧ w.cell? (ad.add i.toNat) = some (.slice A0 (rd_L8 xs i).length c0) ∧ (rd_L8 xs i).length ≤ c0 ∧ k44.C w A0 (rd_L8 xs i).length (rd_L8 xs i) := by
 obtain ⟨ad, c, e, _, hK, hc0⟩ := Kd.C_get h ([] : List S44) i h0 h1; have hc : ∀ j u, c[j]? = some u → w.cell? (ad.add (i.toNat * 1 + j)) = some u := hc0; obtain ⟨A0, c0, rfl, l0, g0⟩ := hK
 exact ⟨ad, A0, c0, e, by have hq := hc 0 _ rfl; rwa [Nat.mul_one, Nat.add_zero] at hq, l0, g0⟩

def bA (n m : Nat) : Array Bool := ((List.range n).map (fun i => m.testBit i)).toArray
@[reducible] def ca4 (w : World) (a : Addr) (v0 v1 v2 v3 : Value) (R : Prop) : Prop := w.cell? a = some v0 ∧ w.cell? ⟨a.block, a.off + 1, none⟩ = some v1 ∧ w.cell? ⟨a.block, a.off + 2, none⟩ = some v2 ∧ w.cell? ⟨a.block, a.off + 3, none⟩ = some v3 ∧ R
@[reducible] def ca4e (w : World) (a : Addr) (v0 v1 v2 v3 : Value) : Prop := w.cell? a = some v0 ∧ w.cell? ⟨a.block, a.off + 1, none⟩ = some v1 ∧ w.cell? ⟨a.block, a.off + 2, none⟩ = some v2 ∧ w.cell? ⟨a.block, a.off + 3, none⟩ = some v3
@[reducible] def cb4 (w : World) (g : Nat) (v0 v1 v2 v3 : Value) (R : Prop) : Prop := w.cell? ⟨g, 0, none⟩ = some v0 ∧ w.cell? ⟨g, 1, none⟩ = some v1 ∧ w.cell? ⟨g, 2, none⟩ = some v2 ∧ w.cell? ⟨g, 3, none⟩ = some v3 ∧ R
@[reducible] def cb4e (w : World) (g : Nat) (v0 v1 v2 v3 : Value) : Prop := w.cell? ⟨g, 0, none⟩ = some v0 ∧ w.cell? ⟨g, 1, none⟩ = some v1 ∧ w.cell? ⟨g, 2, none⟩ = some v2 ∧ w.cell? ⟨g, 3, none⟩ = some v3
theorem rfar4 {α : Type} {d : Kd α} {e : Nat} {W : World} {base : Nat} {ok : Nat → Prop} {v : Value} {xs : List α} {g : Nat} {v0 v1 v2 v3 : Value} (h : d.R e W base ok v xs) (hok : ∀ k, ok k → k ≠ g) : d.R e ((((W.setCell ⟨g, 0, none⟩ v0).setCell ⟨g, 1, none⟩ v1).setCell ⟨g, 2, none⟩ v2).setCell ⟨g, 3, none⟩ v3) base ok v xs := (Kd.R_far (p := ⟨g, 3, none⟩) (Kd.R_far (p := ⟨g, 2, none⟩) (Kd.R_far (p := ⟨g, 1, none⟩) (Kd.R_far (p := ⟨g, 0, none⟩) h (fun k hk => hok k hk) v0) (fun k hk => hok k hk) v1) (fun k hk => hok k hk) v2) (fun k hk => hok k hk) v3)
@[reducible] def ca9 (w : World) (a : Addr) (v0 v1 v2 v3 v4 v5 v6 v7 v8 : Value) (R : Prop) : Prop := w.cell? a = some v0 ∧ w.cell? ⟨a.block, a.off + 1, none⟩ = some v1 ∧ w.cell? ⟨a.block, a.off + 2, none⟩ = some v2 ∧ w.cell? ⟨a.block, a.off + 3, none⟩ = some v3 ∧ w.cell? ⟨a.block, a.off + 4, none⟩ = some v4 ∧ w.cell? ⟨a.block, a.off + 5, none⟩ = some v5 ∧ w.cell? ⟨a.block, a.off + 6, none⟩ = some v6 ∧ w.cell? ⟨a.block, a.off + 7, none⟩ = some v7 ∧ w.cell? ⟨a.block, a.off + 8, none⟩ = some v8 ∧ R
@[reducible] def ca9e (w : World) (a : Addr) (v0 v1 v2 v3 v4 v5 v6 v7 v8 : Value) : Prop := w.cell? a = some v0 ∧ w.cell? ⟨a.block, a.off + 1, none⟩ = some v1 ∧ w.cell? ⟨a.block, a.off + 2, none⟩ = some v2 ∧ w.cell? ⟨a.block, a.off + 3, none⟩ = some v3 ∧ w.cell? ⟨a.block, a.off + 4, none⟩ = some v4 ∧ w.cell? ⟨a.block, a.off + 5, none⟩ = some v5 ∧ w.cell? ⟨a.block, a.off + 6, none⟩ = some v6 ∧ w.cell? ⟨a.block, a.off + 7, none⟩ = some v7 ∧ w.cell? ⟨a.block, a.off + 8, none⟩ = some v8
@[reducible] def cb9 (w : World) (g : Nat) (v0 v1 v2 v3 v4 v5 v6 v7 v8 : Value) (R : Prop) : Prop := w.cell? ⟨g, 0, none⟩ = some v0 ∧ w.cell? ⟨g, 1, none⟩ = some v1 ∧ w.cell? ⟨g, 2, none⟩ = some v2 ∧ w.cell? ⟨g, 3, none⟩ = some v3 ∧ w.cell? ⟨g, 4, none⟩ = some v4 ∧ w.cell? ⟨g, 5, none⟩ = some v5 ∧ w.cell? ⟨g, 6, none⟩ = some v6 ∧ w.cell? ⟨g, 7, none⟩ = some v7 ∧ w.cell? ⟨g, 8, none⟩ = some v8 ∧ R
@[reducible] def cb9e (w : World) (g : Nat) (v0 v1 v2 v3 v4 v5 v6 v7 v8 : Value) : Prop := w.cell? ⟨g, 0, none⟩ = some v0 ∧ w.cell? ⟨g, 1, none⟩ = some v1 ∧ w.cell? ⟨g, 2, none⟩ = some v2 ∧ w.cell? ⟨g, 3, none⟩ = some v3 ∧ w.cell? ⟨g, 4, none⟩ = some v4 ∧ w.cell? ⟨g, 5, none⟩ = some v5 ∧ w.cell? ⟨g, 6, none⟩ = some v6 ∧ w.cell? ⟨g, 7, none⟩ = some v7 ∧ w.cell? ⟨g, 8, none⟩ = some v8
theorem rfar9 {α : Type} {d : Kd α} {e : Nat} {W : World} {base : Nat} {ok : Nat → Prop} {v : Value} {xs : List α} {g : Nat} {v0 v1 v2 v3 v4 v5 v6 v7 v8 : Value} (h : d.R e W base ok v xs) (hok : ∀ k, ok k → k ≠ g) : d.R e (((((((((W.setCell ⟨g, 0, none⟩ v0).setCell ⟨g, 1, none⟩ v1).setCell ⟨g, 2, none⟩ v2).setCell ⟨g, 3, none⟩ v3).setCell ⟨g, 4, none⟩ v4).setCell ⟨g, 5, none⟩ v5).setCell ⟨g, 6, none⟩ v6).setCell ⟨g, 7, none⟩ v7).setCell ⟨g, 8, none⟩ v8) base ok v xs := (Kd.R_far (p := ⟨g, 8, none⟩) (Kd.R_far (p := ⟨g, 7, none⟩) (Kd.R_far (p := ⟨g, 6, none⟩) (Kd.R_far (p := ⟨g, 5, none⟩) (Kd.R_far (p := ⟨g, 4, none⟩) (Kd.R_far (p := ⟨g, 3, none⟩) (Kd.R_far (p := ⟨g, 2, none⟩) (Kd.R_far (p := ⟨g, 1, none⟩) (Kd.R_far (p := ⟨g, 0, none⟩) h (fun k hk => hok k hk) v0) (fun k hk => hok k hk) v1) (fun k hk => hok k hk) v2) (fun k hk => hok k hk) v3) (fun k hk => hok k hk) v4) (fun k hk => hok k hk) v5) (fun k hk => hok k hk) v6) (fun k hk => hok k hk) v7) (fun k hk => hok k hk) v8)
@[reducible] def ca11 (w : World) (a : Addr) (v0 v1 v2 v3 v4 v5 v6 v7 v8 v9 v10 : Value) (R : Prop) : Prop := w.cell? a = some v0 ∧ w.cell? ⟨a.block, a.off + 1, none⟩ = some v1 ∧ w.cell? ⟨a.block, a.off + 2, none⟩ = some v2 ∧ w.cell? ⟨a.block, a.off + 3, none⟩ = some v3 ∧ w.cell? ⟨a.block, a.off + 4, none⟩ = some v4 ∧ w.cell? ⟨a.block, a.off + 5, none⟩ = some v5 ∧ w.cell? ⟨a.block, a.off + 6, none⟩ = some v6 ∧ w.cell? ⟨a.block, a.off + 7, none⟩ = some v7 ∧ w.cell? ⟨a.block, a.off + 8, none⟩ = some v8 ∧ w.cell? ⟨a.block, a.off + 9, none⟩ = some v9 ∧ w.cell? ⟨a.block, a.off + 10, none⟩ = some v10 ∧ R
@[reducible] def ca11e (w : World) (a : Addr) (v0 v1 v2 v3 v4 v5 v6 v7 v8 v9 v10 : Value) : Prop := w.cell? a = some v0 ∧ w.cell? ⟨a.block, a.off + 1, none⟩ = some v1 ∧ w.cell? ⟨a.block, a.off + 2, none⟩ = some v2 ∧ w.cell? ⟨a.block, a.off + 3, none⟩ = some v3 ∧ w.cell? ⟨a.block, a.off + 4, none⟩ = some v4 ∧ w.cell? ⟨a.block, a.off + 5, none⟩ = some v5 ∧ w.cell? ⟨a.block, a.off + 6, none⟩ = some v6 ∧ w.cell? ⟨a.block, a.off + 7, none⟩ = some v7 ∧ w.cell? ⟨a.block, a.off + 8, none⟩ = some v8 ∧ w.cell? ⟨a.block, a.off + 9, none⟩ = some v9 ∧ w.cell? ⟨a.block, a.off + 10, none⟩ = some v10
@[reducible] def cb11 (w : World) (g : Nat) (v0 v1 v2 v3 v4 v5 v6 v7 v8 v9 v10 : Value) (R : Prop) : Prop := w.cell? ⟨g, 0, none⟩ = some v0 ∧ w.cell? ⟨g, 1, none⟩ = some v1 ∧ w.cell? ⟨g, 2, none⟩ = some v2 ∧ w.cell? ⟨g, 3, none⟩ = some v3 ∧ w.cell? ⟨g, 4, none⟩ = some v4 ∧ w.cell? ⟨g, 5, none⟩ = some v5 ∧ w.cell? ⟨g, 6, none⟩ = some v6 ∧ w.cell? ⟨g, 7, none⟩ = some v7 ∧ w.cell? ⟨g, 8, none⟩ = some v8 ∧ w.cell? ⟨g, 9, none⟩ = some v9 ∧ w.cell? ⟨g, 10, none⟩ = some v10 ∧ R
@[reducible] def cb11e (w : World) (g : Nat) (v0 v1 v2 v3 v4 v5 v6 v7 v8 v9 v10 : Value) : Prop := w.cell? ⟨g, 0, none⟩ = some v0 ∧ w.cell? ⟨g, 1, none⟩ = some v1 ∧ w.cell? ⟨g, 2, none⟩ = some v2 ∧ w.cell? ⟨g, 3, none⟩ = some v3 ∧ w.cell? ⟨g, 4, none⟩ = some v4 ∧ w.cell? ⟨g, 5, none⟩ = some v5 ∧ w.cell? ⟨g, 6, none⟩ = some v6 ∧ w.cell? ⟨g, 7, none⟩ = some v7 ∧ w.cell? ⟨g, 8, none⟩ = some v8 ∧ w.cell? ⟨g, 9, none⟩ = some v9 ∧ w.cell? ⟨g, 10, none⟩ = some v10
theorem rfar11 {α : Type} {d : Kd α} {e : Nat} {W : World} {base : Nat} {ok : Nat → Prop} {v : Value} {xs : List α} {g : Nat} {v0 v1 v2 v3 v4 v5 v6 v7 v8 v9 v10 : Value} (h : d.R e W base ok v xs) (hok : ∀ k, ok k → k ≠ g) : d.R e (((((((((((W.setCell ⟨g, 0, none⟩ v0).setCell ⟨g, 1, none⟩ v1).setCell ⟨g, 2, none⟩ v2).setCell ⟨g, 3, none⟩ v3).setCell ⟨g, 4, none⟩ v4).setCell ⟨g, 5, none⟩ v5).setCell ⟨g, 6, none⟩ v6).setCell ⟨g, 7, none⟩ v7).setCell ⟨g, 8, none⟩ v8).setCell ⟨g, 9, none⟩ v9).setCell ⟨g, 10, none⟩ v10) base ok v xs := (Kd.R_far (p := ⟨g, 10, none⟩) (Kd.R_far (p := ⟨g, 9, none⟩) (Kd.R_far (p := ⟨g, 8, none⟩) (Kd.R_far (p := ⟨g, 7, none⟩) (Kd.R_far (p := ⟨g, 6, none⟩) (Kd.R_far (p := ⟨g, 5, none⟩) (Kd.R_far (p := ⟨g, 4, none⟩) (Kd.R_far (p := ⟨g, 3, none⟩) (Kd.R_far (p := ⟨g, 2, none⟩) (Kd.R_far (p := ⟨g, 1, none⟩) (Kd.R_far (p := ⟨g, 0, none⟩) h (fun k hk => hok k hk) v0) (fun k hk => hok k hk) v1) (fun k hk => hok k hk) v2) (fun k hk => hok k hk) v3) (fun k hk => hok k hk) v4) (fun k hk => hok k hk) v5) (fun k hk => hok k hk) v6) (fun k hk => hok k hk) v7) (fun k hk => hok k hk) v8) (fun k hk => hok k hk) v9) (fun k hk => hok k hk) v10)
@[reducible] def cc26 (w : World) (a : Addr) (x : S26) (R : Prop) : Prop := w.cell? a = some (.int .i64 x.f0) ∧ w.cell? ⟨a.block, a.off + 1, none⟩ = some (.int .i64 x.f1) ∧ w.cell? ⟨a.block, a.off + 2, none⟩ = some (.int .i64 x.f2) ∧ w.cell? ⟨a.block, a.off + 3, none⟩ = some (.int .i64 x.f3) ∧ R
@[reducible] def cc26e (w : World) (a : Addr) (x : S26) : Prop := w.cell? a = some (.int .i64 x.f0) ∧ w.cell? ⟨a.block, a.off + 1, none⟩ = some (.int .i64 x.f1) ∧ w.cell? ⟨a.block, a.off + 2, none⟩ = some (.int .i64 x.f2) ∧ w.cell? ⟨a.block, a.off + 3, none⟩ = some (.int .i64 x.f3)
@[reducible] def cc28 (w : World) (a : Addr) (x : S28) (R : Prop) : Prop := w.cell? a = some (.string x.f0) ∧ w.cell? ⟨a.block, a.off + 1, none⟩ = some (.int .i64 x.f1.f0) ∧ w.cell? ⟨a.block, a.off + 2, none⟩ = some (.int .i64 x.f1.f1) ∧ w.cell? ⟨a.block, a.off + 3, none⟩ = some (.int .i64 x.f1.f2) ∧ w.cell? ⟨a.block, a.off + 4, none⟩ = some (.int .i64 x.f1.f3) ∧ w.cell? ⟨a.block, a.off + 5, none⟩ = some (.string x.f2) ∧ w.cell? ⟨a.block, a.off + 6, none⟩ = some (.int .i64 x.f3.f0) ∧ w.cell? ⟨a.block, a.off + 7, none⟩ = some (.int .i64 x.f3.f1) ∧ w.cell? ⟨a.block, a.off + 8, none⟩ = some (.int .i64 x.f3.f2) ∧ w.cell? ⟨a.block, a.off + 9, none⟩ = some (.int .i64 x.f3.f3) ∧ w.cell? ⟨a.block, a.off + 10, none⟩ = some (.string x.f4) ∧ R
@[reducible] def cc28e (w : World) (a : Addr) (x : S28) : Prop := w.cell? a = some (.string x.f0) ∧ w.cell? ⟨a.block, a.off + 1, none⟩ = some (.int .i64 x.f1.f0) ∧ w.cell? ⟨a.block, a.off + 2, none⟩ = some (.int .i64 x.f1.f1) ∧ w.cell? ⟨a.block, a.off + 3, none⟩ = some (.int .i64 x.f1.f2) ∧ w.cell? ⟨a.block, a.off + 4, none⟩ = some (.int .i64 x.f1.f3) ∧ w.cell? ⟨a.block, a.off + 5, none⟩ = some (.string x.f2) ∧ w.cell? ⟨a.block, a.off + 6, none⟩ = some (.int .i64 x.f3.f0) ∧ w.cell? ⟨a.block, a.off + 7, none⟩ = some (.int .i64 x.f3.f1) ∧ w.cell? ⟨a.block, a.off + 8, none⟩ = some (.int .i64 x.f3.f2) ∧ w.cell? ⟨a.block, a.off + 9, none⟩ = some (.int .i64 x.f3.f3) ∧ w.cell? ⟨a.block, a.off + 10, none⟩ = some (.string x.f4)
@[reducible] def cc44 (w : World) (a : Addr) (x : S44) (R : Prop) : Prop := w.cell? a = some (.int .i64 x.f0.f0) ∧ w.cell? ⟨a.block, a.off + 1, none⟩ = some (.int .i64 x.f0.f1) ∧ w.cell? ⟨a.block, a.off + 2, none⟩ = some (.int .i64 x.f0.f2) ∧ w.cell? ⟨a.block, a.off + 3, none⟩ = some (.int .i64 x.f0.f3) ∧ w.cell? ⟨a.block, a.off + 4, none⟩ = some (.int .i64 x.f1.f0) ∧ w.cell? ⟨a.block, a.off + 5, none⟩ = some (.int .i64 x.f1.f1) ∧ w.cell? ⟨a.block, a.off + 6, none⟩ = some (.int .i64 x.f1.f2) ∧ w.cell? ⟨a.block, a.off + 7, none⟩ = some (.int .i64 x.f1.f3) ∧ w.cell? ⟨a.block, a.off + 8, none⟩ = some (.string x.f2) ∧ R
@[reducible] def cc44e (w : World) (a : Addr) (x : S44) : Prop := w.cell? a = some (.int .i64 x.f0.f0) ∧ w.cell? ⟨a.block, a.off + 1, none⟩ = some (.int .i64 x.f0.f1) ∧ w.cell? ⟨a.block, a.off + 2, none⟩ = some (.int .i64 x.f0.f2) ∧ w.cell? ⟨a.block, a.off + 3, none⟩ = some (.int .i64 x.f0.f3) ∧ w.cell? ⟨a.block, a.off + 4, none⟩ = some (.int .i64 x.f1.f0) ∧ w.cell? ⟨a.block, a.off + 5, none⟩ = some (.int .i64 x.f1.f1) ∧ w.cell? ⟨a.block, a.off + 6, none⟩ = some (.int .i64 x.f1.f2) ∧ w.cell? ⟨a.block, a.off + 7, none⟩ = some (.int .i64 x.f1.f3) ∧ w.cell? ⟨a.block, a.off + 8, none⟩ = some (.string x.f2)
end Go.Proofs.Ytdbnjjkapelekaa.X
