/- The row of bytes that nodes, messages and entries are written into: its block, its bytes, and what its methods leave. -/
import Derived.Test.YtihknjmibnonjaaDoorH
import Derived.WalkKit
import Derived.Deep.LoopGhost
import Derived.Deep.RegionLaw
import Derived.Deep.QuietTactic
import Derived.BigQuiet
namespace Go.Proofs.YtihknjmibnonjaaDoor.X
open Go.RowKit Go.Proofs.YtihknjmibnonjaaDoorW.PrintWords Go.Proofs.YtihknjmibnonjaaDoorW.PrintLast Go.Proofs.YtihknjmibnonjaaDoorW.PrintMore Go.Proofs.YtihknjmibnonjaaDoor.More
set_option linter.unusedVariables false
set_option linter.unusedSimpArgs false

theorem infoB : (Tryd.prog.info? 5).map (fun i => (i.zero, i.size, i.bytes)) = some (some (.int .u8 0), 1, 1) := by kernel_rfl
/-- Block rb is a row that holds l; its bytes are the call's own. -/
def RowB (W : World) (base rb : Nat) (l : List Int) : Prop := base ≤ rb ∧ ∃ v, W.heap[rb]? = some (.cells #[v] 77 (0, 0)) ∧ W.ownsRow base 5 1 v l.length (nums .u8 l)
/-- Every block that is neither a row nor bytes stays. -/
def TKeep (W W' : World) : Prop := W.heap.size ≤ W'.heap.size ∧ ∀ (k : Nat) (cells : Array Value) (t : Nat), W.heap[k]? = some (.cells cells t (0, 0)) → t ≠ 77 → t ≠ 5 → W'.heap[k]? = some (.cells cells t (0, 0))
theorem TKeep.refl (W : World) : TKeep W W := ⟨Nat.le_refl _, fun _ _ _ h _ _ => h⟩
theorem TKeep.trans {a b c : World} (h : TKeep a b) (k : TKeep b c) : TKeep a c := ⟨Nat.le_trans h.1 k.1, fun _ _ _ q h1 h2 => k.2 _ _ _ (h.2 _ _ _ q h1 h2) h1 h2⟩
theorem TKeep.of_below {a b : World} (h : Below a.heap.size a b) : TKeep a b := ⟨h.size, fun _ _ _ q _ _ => blk_below q h⟩
theorem TKeep.alloc {a b : World} (h : TKeep a b) (o : Obj) : TKeep a (b.alloc o) := h.trans (.of_below (below_alloc (Below.refl _ _) o))
theorem TKeep.drew {a b : World} (h : TKeep a b) : TKeep a b.drew := h
theorem RowB.below {W W' : World} {base rb : Nat} {l : List Int} (h : RowB W base rb l) (hb : Below W.heap.size W W') : RowB W' base rb l := by
  obtain ⟨h1, v, h2, h3⟩ := h
  exact ⟨h1, v, blk_below h2 hb, pw_own_below h3 hb⟩
theorem RowB.alloc {W : World} {base rb : Nat} {l : List Int} (h : RowB W base rb l) (o : Obj) : RowB (W.alloc o) base rb l := h.below (below_alloc (Below.refl _ _) o)
theorem RowB.drew {W : World} {base rb : Nat} {l : List Int} (h : RowB W base rb l) : RowB W.drew base rb l := h
theorem RowB.lt {W : World} {base rb : Nat} {l : List Int} (h : RowB W base rb l) : rb < W.heap.size := by
  obtain ⟨_, v, h2, _⟩ := h
  exact blk_lt h2
theorem rowB_step {w0 W w1 : World} {rb : Nat} {v v1 : Value} {l l1 : List Int} (hbr : w0.heap.size ≤ rb) (hrb : W.heap[rb]? = some (.cells #[v] 77 (0, 0))) (HO : W.ownsRow w0.heap.size 5 1 v l.length (nums .u8 l))
    (hown : w1.ownsRow w0.heap.size 5 1 v1 l1.length (nums .u8 l1)) (hb : Below w0.heap.size w0 w1) (hg : W.grownBy w1 v.ownBlock) :
    w1.heap[rb]? = some (.cells #[v] 77 (0, 0)) ∧ RowB (w1.setCell ⟨rb, 0, none⟩ v1) w0.heap.size rb l1 ∧ Below w0.heap.size w0 (w1.setCell ⟨rb, 0, none⟩ v1) ∧ TKeep W (w1.setCell ⟨rb, 0, none⟩ v1) := by
  have h1 : w1.heap[rb]? = some (.cells #[v] 77 (0, 0)) := (hg.block rb (blk_lt hrb) (own_ne HO hrb (by decide))).trans hrb
  have h2 := blk_set h1 0 v1
  refine ⟨h1, ⟨hbr, v1, h2, own_setCell hown (own_ne hown h1 (by decide)) _⟩, below_set hb hbr, ?_, fun k cells t hk ht1 ht2 => ?_⟩
  · have := hg.size
    simpa using this
  · have hne : k ≠ rb := by
      rintro rfl
      rw [hrb] at hk
      injection hk with hk
      injection hk with _ hk
      exact ht1 hk.symm
    rw [Below.heap_setCell w1 ⟨rb, 0, none⟩ v1 k hne]
    exact (hg.block k (blk_lt hk) (own_ne HO hk (fun e => ht2 e.symm))).trans hk
set_option maxHeartbeats 4000000 in
set_option maxRecDepth 100000 in
/-- (*row).byte -/
theorem row_byte (rb g : Nat) (l xs : List Int) (w0 w : World) (hB : Below w0.heap.size w0 w) (hR : RowB w w0.heap.size rb l) (hx : w.heap[g]? = some (.cells (xs.map (Value.int .i64)).toArray 3 (0, 0))) (hl : l.length + xs.length ≤ 100000000) :
    Calls Tryd.prog 59 #[.pointer (some ⟨rb, 0, none⟩), .slice (some ⟨g, 0, none⟩) xs.length xs.length] w fun e w' => e = .returned (.tuple #[]) ∧ RowB w' w0.heap.size rb (l ++ xs.map (· % 256)) ∧ Below w0.heap.size w0 w' ∧ TKeep w w' := by
  have hu1 := Tryd.underlying41
  have hu2 := Tryd.underlying5
  have hu3 := Tryd.underlying99
  have hu4 := Tryd.underlying77
  have HX := Aside0.mk hx
  have HR := Aside0.mk hR
  have HB := Aside0.mk hB
  have HL := Aside0.mk hl
  clear hx hR hB hl
  go_enter Tryd.func59, Tryd.ntmps59
  go_wp2
  go_loopg [8] xs.length (fun kq v8 W => ∃ i : Nat, v8 = .int .i64 (i : Int) ∧ Aside0 (i + kq = xs.length) ∧ Aside0 (RowB W w0.heap.size rb (l ++ (xs.take i).map (· % 256))) ∧ Aside0 (Below w0.heap.size w0 W) ∧ Aside0 (TKeep w W))
  case atStart => exact ⟨0, rfl, ⟨by omega⟩, ⟨by simpa using HR.out⟩, HB, ⟨TKeep.refl _⟩⟩
  case round =>
    obtain ⟨i, rfl, HI, HR1, HB1, HK1⟩ := hrel
    clear HR HB
    by_cases hlt : i < xs.length
    · obtain ⟨L, hL⟩ : ∃ L, L = l ++ (xs.take i).map (· % 256) := ⟨_, rfl⟩
      have hR1 := HR1.out
      rw [← hL] at hR1
      obtain ⟨hbr, v, hrb, HO⟩ := hR1
      have hxg := HK1.out.2 _ _ _ HX.out (by decide) (by decide)
      have hc0 := blk_cell hxg i
      rw [show (xs.map (Value.int .i64)).toArray[i]? = some (.int .i64 xs[i]) by simp [hlt]] at hc0
      have hc1 : wr.cell? ⟨rb, 0, none⟩ = some v := (blk_cell hrb 0).trans rfl
      have hln := HL.out
      have hlt' : (i : Int) < (xs.length : Int) := by omega
      have h00 : (0 : Int) ≤ (i : Int) := by omega
      have HRB := Aside0.mk hrb
      have HOO := Aside0.mk HO
      have HBR := Aside0.mk hbr
      have hll : L.length = l.length + i := by rw [hL, List.length_append, List.length_map, List.length_take]; omega
      have HLL := Aside0.mk hll
      have HLL2 := Aside0.mk hL
      clear hxg hrb HO hbr hll hL
      go_wp2_with (at_builtin; refine print_append_cells (w0 := w0) w0.heap.size rfl _ _ 41 5 (.int .u8 0) 1 1 rfl hu1 infoB rfl (by decide) (by decide) v L.length (nums .u8 L) [.int .u8 (xs[i] % 256)] rfl rfl rfl (by simp [Value.oneCell']) HOO.out HB1.out HB1.out.size (by have := HLL.out; omega) ?_; intro v1 w1 hown1 hb1 hg1 hat1; obtain ⟨A1, c1, eA1⟩ := own_slice hown1; subst eA1; obtain ⟨hq1, hq2, hq3, hq4⟩ := rowB_step (l1 := L ++ [xs[i] % 256]) HBR.out HRB.out HOO.out (by rw [nums_append, List.length_append]; exact hown1) hb1 hg1; have hc2 : w1.cell? ⟨rb, 0, none⟩ = some v := (blk_cell hq1 0).trans rfl; have hf2 := blk_frozen hq1 0; have HQ2 := Aside0.mk hq2; have HQ3 := Aside0.mk hq3; have HQ4 := Aside0.mk hq4; clear hown1 hb1 hg1 hat1 hq1 hq2 hq3 hq4 hc1)
      go_roundg (gk - 1)
      case measure => have := HI.out; omega
      case rel =>
        exact ⟨i + 1, by go_num, ⟨by have := HI.out; omega⟩, ⟨by
          have e : (xs.take (i + 1)).map (· % 256) = (xs.take i).map (· % 256) ++ [xs[i] % 256] := by
            rw [show xs.take (i + 1) = xs.take i ++ [xs[i]] by rw [List.take_add_one, List.getElem?_eq_getElem hlt]; rfl, List.map_append]
            rfl
          rw [e, ← List.append_assoc, ← HLL2.out]
          exact HQ2.out⟩, HQ3, ⟨HK1.out.trans HQ4.out⟩⟩
    · have hge : ¬ (i : Int) < (xs.length : Int) := by omega
      have hle : (xs.length : Int) ≤ (i : Int) := by omega
      have hI := HI.out
      obtain rfl : i = xs.length := by omega
      go_wp2
      go_end0
      exact ⟨rfl, by have := HR1.out; rwa [List.take_of_length_le (Nat.le_refl _)] at this, HB1.out, HK1.out⟩
set_option maxHeartbeats 4000000 in
set_option maxRecDepth 100000 in
/-- (*row).text -/
theorem row_text (rb : Nat) (l : List Int) (s : ByteArray) (w0 w : World) (hB : Below w0.heap.size w0 w) (hR : RowB w w0.heap.size rb l) (hl : l.length + s.size ≤ 90000000) :
    Calls Tryd.prog 58 #[.pointer (some ⟨rb, 0, none⟩), .string s] w fun e w' => e = .returned (.tuple #[]) ∧ RowB w' w0.heap.size rb (l ++ (((s.size : Int) % 256) :: bytesOf s)) ∧ Below w0.heap.size w0 w' ∧ TKeep w w' := by
  have hu1 := Tryd.underlying41
  have hu2 := Tryd.underlying5
  have hu3 := Tryd.underlying99
  have hu4 := Tryd.underlying77
  have hu5 := Tryd.underlying9
  have HL := Aside0.mk hl
  have HC : ∀ o : Obj, o = .cells #[.int .i64 (s.size : Int)] 3 → Calls Tryd.prog 59 #[.pointer (some ⟨rb, 0, none⟩), .slice (some ⟨w.heap.size, 0, none⟩) 1 1] (w.alloc o) fun e w' => e = .returned (.tuple #[]) ∧ RowB w' w0.heap.size rb (l ++ [(s.size : Int) % 256]) ∧ Below w0.heap.size w0 w' ∧ TKeep (w.alloc o) w' := by
    rintro o rfl
    exact row_byte rb w.heap.size l [(s.size : Int)] w0 (w.alloc _) (below_alloc hB _) (hR.alloc _) (blk_new w _) (by simp; omega)
  have HCC := Aside0.mk HC
  clear HC hB hR hl
  go_enter Tryd.func58, Tryd.ntmps58
  obtain ⟨L, hL⟩ : ∃ L, L = l ++ [(s.size : Int) % 256] := ⟨_, rfl⟩
  have HLL2 := Aside0.mk hL
  have HLL : Aside0 (L.length = l.length + 1) := ⟨by rw [hL]; simp⟩
  obtain ⟨L2, hL2⟩ : ∃ L2, L2 = L ++ bytesOf s := ⟨_, rfl⟩
  have HL2 := Aside0.mk hL2
  clear hL hL2
  go_wp2_with (first
    | (go_at_call 59; refine (HCC.out _ rfl).mono ?_; rintro e w1 ⟨rfl, hR1, hB1, hK1⟩; have HB1 := Aside0.mk hB1; have HK1 := Aside0.mk hK1; rw [← HLL2.out] at hR1; obtain ⟨hbr, v, hrb, HO⟩ := hR1; have hc1 : w1.cell? ⟨rb, 0, none⟩ = some v := (blk_cell hrb 0).trans rfl; have HRB := Aside0.mk hrb; have HOO := Aside0.mk HO; have HBR := Aside0.mk hbr; clear hrb HO hbr hB1 hK1)
    | (at_builtin; refine print_append_str (w0 := w0) w0.heap.size rfl _ _ 41 9 5 rfl hu1 hu5 infoB v L s rfl rfl HOO.out HB1.out HB1.out.size (by have := HLL.out; have := HL.out; omega) ?_; intro v1 w2 hown1 hb1 hg1; rw [← HL2.out] at hown1; obtain ⟨A1, c1, eA1⟩ := own_slice hown1; subst eA1; obtain ⟨hq1, hq2, hq3, hq4⟩ := rowB_step (l1 := L2) HBR.out HRB.out HOO.out hown1 hb1 hg1; have hc2 : w2.cell? ⟨rb, 0, none⟩ = some v := (blk_cell hq1 0).trans rfl; have hf2 := blk_frozen hq1 0; have HQ2 := Aside0.mk hq2; have HQ3 := Aside0.mk hq3; have HQ4 := Aside0.mk hq4; clear hown1 hb1 hg1 hq1 hq2 hq3 hq4 hc1))
  go_end0
  refine ⟨rfl, ?_, HQ3.out, ((TKeep.refl w).alloc _).trans (HK1.out.trans HQ4.out)⟩
  have h := HQ2.out
  have e : L2 = l ++ (((s.size : Int) % 256) :: bytesOf s) := by rw [HL2.out, HLL2.out, List.append_assoc, List.singleton_append]
  rw [← e]
  exact h
set_option maxHeartbeats 4000000 in
set_option maxRecDepth 100000 in
/-- (*row).label -/
theorem row_label (rb : Nat) (l : List Int) (a b c d : Int) (w0 w : World) (hB : Below w0.heap.size w0 w) (hR : RowB w w0.heap.size rb l) (hl : l.length ≤ 90000000) :
    Calls Tryd.prog 57 #[.pointer (some ⟨rb, 0, none⟩), .agg #[.int .i64 a, .int .i64 b, .int .i64 c, .int .i64 d]] w fun e w' => e = .returned (.tuple #[]) ∧ RowB w' w0.heap.size rb (l ++ [a % 256, b % 256, c % 256, d % 256]) ∧ Below w0.heap.size w0 w' ∧ TKeep w w' := by
  have hu4 := Tryd.underlying23
  have HC : ∀ W : World, W = (w.alloc (.cells #[.int .i64 a, .int .i64 b, .int .i64 c, .int .i64 d] 23)).alloc (.cells #[.int .i64 a, .int .i64 b, .int .i64 c, .int .i64 d] 3) → Calls Tryd.prog 59 #[.pointer (some ⟨rb, 0, none⟩), .slice (some ⟨w.heap.size + 1, 0, none⟩) 4 4] W fun e w' => e = .returned (.tuple #[]) ∧ RowB w' w0.heap.size rb (l ++ [a % 256, b % 256, c % 256, d % 256]) ∧ Below w0.heap.size w0 w' ∧ TKeep W w' := by
    rintro W rfl
    have h := row_byte rb (w.heap.size + 1) l [a, b, c, d] w0 ((w.alloc (.cells #[.int .i64 a, .int .i64 b, .int .i64 c, .int .i64 d] 23)).alloc (.cells #[.int .i64 a, .int .i64 b, .int .i64 c, .int .i64 d] 3)) (below_alloc (below_alloc hB _) _) ((hR.alloc _).alloc _) (by
      have h5 := blk_new (w.alloc (.cells #[.int .i64 a, .int .i64 b, .int .i64 c, .int .i64 d] 23)) (.cells #[.int .i64 a, .int .i64 b, .int .i64 c, .int .i64 d] 3)
      rw [show (w.alloc (.cells #[.int .i64 a, .int .i64 b, .int .i64 c, .int .i64 d] 23)).heap.size = w.heap.size + 1 by simp] at h5
      exact h5) (by simp; omega)
    exact h
  have HCC := Aside0.mk HC
  clear HC hB hR hl
  go_enter Tryd.func57, Tryd.ntmps57
  go_wp2_with (go_at_call 59; refine (HCC.out _ rfl).mono ?_; rintro e w1 ⟨rfl, hR1, hB1, hK1⟩; have HR1 := Aside0.mk hR1; have HB1 := Aside0.mk hB1; have HK1 := Aside0.mk hK1; clear hR1 hB1 hK1)
  go_end0
  exact ⟨rfl, HR1.out, HB1.out, (((TKeep.refl w).alloc _).alloc _).trans HK1.out⟩
/-- A whole number's bytes. -/
def numB (n : Int) : List Int := [n / 72057594037927936 % 256, n / 281474976710656 % 256, n / 1099511627776 % 256, n / 4294967296 % 256, n / 16777216 % 256, n / 65536 % 256, n / 256 % 256, n % 256]
set_option maxHeartbeats 8000000 in
set_option maxRecDepth 100000 in
/-- (*row).number -/
theorem row_number (rb : Nat) (l : List Int) (n : Int) (w0 w : World) (hB : Below w0.heap.size w0 w) (hR : RowB w w0.heap.size rb l) (hl : l.length ≤ 90000000) :
    Calls Tryd.prog 56 #[.pointer (some ⟨rb, 0, none⟩), .int .i64 n] w fun e w' => e = .returned (.tuple #[]) ∧ RowB w' w0.heap.size rb (l ++ numB n) ∧ Below w0.heap.size w0 w' ∧ TKeep w w' := by
  have hu1 := Tryd.underlying41
  have hu2 := Tryd.underlying5
  have hu4 := Tryd.underlying77
  have hu5 := Tryd.underlying2
  have HR := Aside0.mk hR
  have HB := Aside0.mk hB
  have HL := Aside0.mk hl
  clear hR hB hl
  go_enter Tryd.func56, Tryd.ntmps56
  go_wp2
  go_loopg [4] 8 (fun kq v4 W => v4 = .int .i64 ((kq : Int) - 1) ∧ Aside0 (kq ≤ 8) ∧ Aside0 (RowB W w0.heap.size rb (l ++ (numB n).take (8 - kq))) ∧ Aside0 (Below w0.heap.size w0 W) ∧ Aside0 (TKeep w W))
  case atStart => exact ⟨rfl, ⟨by omega⟩, ⟨by simpa using HR.out⟩, HB, ⟨TKeep.refl _⟩⟩
  case round =>
    obtain ⟨rfl, HI, HR1, HB1, HK1⟩ := hrel
    clear HR HB
    have hI := HI.out
    have hcase : gk = 0 ∨ gk = 1 ∨ gk = 2 ∨ gk = 3 ∨ gk = 4 ∨ gk = 5 ∨ gk = 6 ∨ gk = 7 ∨ gk = 8 := by omega
    have hu8 : Aside0 (∀ m : Int, IntKind.u8.wrap m = m % 256) := ⟨fun m => by simp [IntKind.wrap, IntKind.bits, IntKind.signed]⟩
    rcases hcase with rfl | rfl | rfl | rfl | rfl | rfl | rfl | rfl | rfl
    · have e0 : (((0 : Nat) : Int) - 1) = -1 := rfl
      rw [e0]
      go_wp2
      go_end0
      exact ⟨rfl, by have := HR1.out; rwa [show (numB n).take (8 - 0) = numB n from rfl] at this, HB1.out, HK1.out⟩
    · have e0 : (((1 : Nat) : Int) - 1) = 0 := rfl
      rw [e0]
      have hsh : ∀ W : World, (Op.shift .shr .i64 n .i64 (IntKind.i64.wrap 0)).run Tryd.prog W = .ok (.int .i64 (n)) W := fun W => by
        rw [shift_shr_any _ _ _ _ (by decide)]
        have e1 : (2 : Int) ^ min (IntKind.i64.wrap 0).toNat IntKind.i64.bits = 1 := by decide +kernel
        rw [e1]
        rw [Int.ediv_one]
        rfl
      obtain ⟨L, hL⟩ : ∃ L, L = l ++ (numB n).take (8 - 1) := ⟨_, rfl⟩
      have hR1 := HR1.out
      rw [← hL] at hR1
      obtain ⟨hbr, v, hrb, HO⟩ := hR1
      obtain ⟨A0, c0, eA0⟩ := own_slice HO
      subst eA0
      have hll : L.length ≤ l.length + 8 := by rw [hL]; simp [numB]
      have hc1 : wr.cell? ⟨rb, 0, none⟩ = some (.slice A0 L.length c0) := (blk_cell hrb 0).trans rfl
      have hc1a : ∀ o : Obj, (wr.alloc o).cell? ⟨rb, 0, none⟩ = some (.slice A0 L.length c0) := fun o => (blk_cell (blk_alloc hrb o) 0).trans rfl
      have HRB := Aside0.mk hrb
      have HOO := Aside0.mk HO
      have HBR := Aside0.mk hbr
      have HLL := Aside0.mk hll
      have HLL2 := Aside0.mk hL
      clear hrb HO hbr hll hL
      go_wp2
      go_region_law (refine step_append_cells (w0 := w0) (W := wr.drew) w0.heap.size (by rfl) (.tmp 13) (.tmp 19) 41 5 (.int .u8 0) 1 1 rfl hu1 infoB rfl (by decide) (by decide) (.slice A0 L.length c0) L.length (nums .u8 L) [.int .u8 (IntKind.u8.wrap n)] (by simp [Act.eval, Act.put]) (by first | (simp [Act.eval, Act.put]; done) | (simp [Act.eval, Act.put]; rfl)) rfl (by simp [Value.oneCell']) HOO.out (below_drew1 HB1.out) (below_drew1 HB1.out).size (by have := HLL.out; have := HL.out; omega) ?_; intro v1 w1 hown1 hb1 hg1 hat1; obtain ⟨A1, c1, eA1⟩ := own_slice hown1; subst eA1; obtain ⟨hq1, hq2, hq3, hq4⟩ := rowB_step (W := wr.drew) (l1 := L ++ [IntKind.u8.wrap n]) HBR.out HRB.out HOO.out (by rw [nums_append, List.length_append]; exact hown1) hb1 hg1; have hc2 : w1.cell? ⟨rb, 0, none⟩ = some (.slice A0 L.length c0) := (blk_cell hq1 0).trans rfl; have hf2 := blk_frozen hq1 0; have HQ2 := Aside0.mk hq2; have HQ3 := Aside0.mk hq3; have HQ4 := Aside0.mk hq4; clear hown1 hb1 hg1 hat1 hq1 hq2 hq3 hq4)
      all_goals
       go_wp2
       go_roundg 0
       case measure => omega
       case rel => exact ⟨rfl, ⟨by omega⟩, ⟨by
        have e9 : L ++ [IntKind.u8.wrap n] = l ++ (numB n).take (8 - 0) := by
          rw [HLL2.out, List.append_assoc, hu8.out]
          rfl
        rw [← e9]
        exact HQ2.out⟩, HQ3, ⟨HK1.out.trans HQ4.out⟩⟩
    · have e0 : (((2 : Nat) : Int) - 1) = 1 := rfl
      rw [e0]
      have hsh : ∀ W : World, (Op.shift .shr .i64 n .i64 (IntKind.i64.wrap 8)).run Tryd.prog W = .ok (.int .i64 (n / 256)) W := fun W => by
        rw [shift_shr_any _ _ _ _ (by decide)]
        have e1 : (2 : Int) ^ min (IntKind.i64.wrap 8).toNat IntKind.i64.bits = 256 := by decide +kernel
        rw [e1]
        rfl
      obtain ⟨L, hL⟩ : ∃ L, L = l ++ (numB n).take (8 - 2) := ⟨_, rfl⟩
      have hR1 := HR1.out
      rw [← hL] at hR1
      obtain ⟨hbr, v, hrb, HO⟩ := hR1
      obtain ⟨A0, c0, eA0⟩ := own_slice HO
      subst eA0
      have hll : L.length ≤ l.length + 8 := by rw [hL]; simp [numB]
      have hc1 : wr.cell? ⟨rb, 0, none⟩ = some (.slice A0 L.length c0) := (blk_cell hrb 0).trans rfl
      have hc1a : ∀ o : Obj, (wr.alloc o).cell? ⟨rb, 0, none⟩ = some (.slice A0 L.length c0) := fun o => (blk_cell (blk_alloc hrb o) 0).trans rfl
      have HRB := Aside0.mk hrb
      have HOO := Aside0.mk HO
      have HBR := Aside0.mk hbr
      have HLL := Aside0.mk hll
      have HLL2 := Aside0.mk hL
      clear hrb HO hbr hll hL
      go_wp2
      go_region_law (refine step_append_cells (w0 := w0) (W := wr.drew) w0.heap.size (by rfl) (.tmp 13) (.tmp 19) 41 5 (.int .u8 0) 1 1 rfl hu1 infoB rfl (by decide) (by decide) (.slice A0 L.length c0) L.length (nums .u8 L) [.int .u8 (IntKind.u8.wrap (n / 256))] (by simp [Act.eval, Act.put]) (by first | (simp [Act.eval, Act.put]; done) | (simp [Act.eval, Act.put]; rfl)) rfl (by simp [Value.oneCell']) HOO.out (below_drew1 HB1.out) (below_drew1 HB1.out).size (by have := HLL.out; have := HL.out; omega) ?_; intro v1 w1 hown1 hb1 hg1 hat1; obtain ⟨A1, c1, eA1⟩ := own_slice hown1; subst eA1; obtain ⟨hq1, hq2, hq3, hq4⟩ := rowB_step (W := wr.drew) (l1 := L ++ [IntKind.u8.wrap (n / 256)]) HBR.out HRB.out HOO.out (by rw [nums_append, List.length_append]; exact hown1) hb1 hg1; have hc2 : w1.cell? ⟨rb, 0, none⟩ = some (.slice A0 L.length c0) := (blk_cell hq1 0).trans rfl; have hf2 := blk_frozen hq1 0; have HQ2 := Aside0.mk hq2; have HQ3 := Aside0.mk hq3; have HQ4 := Aside0.mk hq4; clear hown1 hb1 hg1 hat1 hq1 hq2 hq3 hq4)
      all_goals
       go_wp2
       go_roundg 1
       case measure => omega
       case rel => exact ⟨rfl, ⟨by omega⟩, ⟨by
        have e9 : L ++ [IntKind.u8.wrap (n / 256)] = l ++ (numB n).take (8 - 1) := by
          rw [HLL2.out, List.append_assoc, hu8.out]
          rfl
        rw [← e9]
        exact HQ2.out⟩, HQ3, ⟨HK1.out.trans HQ4.out⟩⟩
    · have e0 : (((3 : Nat) : Int) - 1) = 2 := rfl
      rw [e0]
      have hsh : ∀ W : World, (Op.shift .shr .i64 n .i64 (IntKind.i64.wrap 16)).run Tryd.prog W = .ok (.int .i64 (n / 65536)) W := fun W => by
        rw [shift_shr_any _ _ _ _ (by decide)]
        have e1 : (2 : Int) ^ min (IntKind.i64.wrap 16).toNat IntKind.i64.bits = 65536 := by decide +kernel
        rw [e1]
        rfl
      obtain ⟨L, hL⟩ : ∃ L, L = l ++ (numB n).take (8 - 3) := ⟨_, rfl⟩
      have hR1 := HR1.out
      rw [← hL] at hR1
      obtain ⟨hbr, v, hrb, HO⟩ := hR1
      obtain ⟨A0, c0, eA0⟩ := own_slice HO
      subst eA0
      have hll : L.length ≤ l.length + 8 := by rw [hL]; simp [numB]
      have hc1 : wr.cell? ⟨rb, 0, none⟩ = some (.slice A0 L.length c0) := (blk_cell hrb 0).trans rfl
      have hc1a : ∀ o : Obj, (wr.alloc o).cell? ⟨rb, 0, none⟩ = some (.slice A0 L.length c0) := fun o => (blk_cell (blk_alloc hrb o) 0).trans rfl
      have HRB := Aside0.mk hrb
      have HOO := Aside0.mk HO
      have HBR := Aside0.mk hbr
      have HLL := Aside0.mk hll
      have HLL2 := Aside0.mk hL
      clear hrb HO hbr hll hL
      go_wp2
      go_region_law (refine step_append_cells (w0 := w0) (W := wr.drew) w0.heap.size (by rfl) (.tmp 13) (.tmp 19) 41 5 (.int .u8 0) 1 1 rfl hu1 infoB rfl (by decide) (by decide) (.slice A0 L.length c0) L.length (nums .u8 L) [.int .u8 (IntKind.u8.wrap (n / 65536))] (by simp [Act.eval, Act.put]) (by first | (simp [Act.eval, Act.put]; done) | (simp [Act.eval, Act.put]; rfl)) rfl (by simp [Value.oneCell']) HOO.out (below_drew1 HB1.out) (below_drew1 HB1.out).size (by have := HLL.out; have := HL.out; omega) ?_; intro v1 w1 hown1 hb1 hg1 hat1; obtain ⟨A1, c1, eA1⟩ := own_slice hown1; subst eA1; obtain ⟨hq1, hq2, hq3, hq4⟩ := rowB_step (W := wr.drew) (l1 := L ++ [IntKind.u8.wrap (n / 65536)]) HBR.out HRB.out HOO.out (by rw [nums_append, List.length_append]; exact hown1) hb1 hg1; have hc2 : w1.cell? ⟨rb, 0, none⟩ = some (.slice A0 L.length c0) := (blk_cell hq1 0).trans rfl; have hf2 := blk_frozen hq1 0; have HQ2 := Aside0.mk hq2; have HQ3 := Aside0.mk hq3; have HQ4 := Aside0.mk hq4; clear hown1 hb1 hg1 hat1 hq1 hq2 hq3 hq4)
      all_goals
       go_wp2
       go_roundg 2
       case measure => omega
       case rel => exact ⟨rfl, ⟨by omega⟩, ⟨by
        have e9 : L ++ [IntKind.u8.wrap (n / 65536)] = l ++ (numB n).take (8 - 2) := by
          rw [HLL2.out, List.append_assoc, hu8.out]
          rfl
        rw [← e9]
        exact HQ2.out⟩, HQ3, ⟨HK1.out.trans HQ4.out⟩⟩
    · have e0 : (((4 : Nat) : Int) - 1) = 3 := rfl
      rw [e0]
      have hsh : ∀ W : World, (Op.shift .shr .i64 n .i64 (IntKind.i64.wrap 24)).run Tryd.prog W = .ok (.int .i64 (n / 16777216)) W := fun W => by
        rw [shift_shr_any _ _ _ _ (by decide)]
        have e1 : (2 : Int) ^ min (IntKind.i64.wrap 24).toNat IntKind.i64.bits = 16777216 := by decide +kernel
        rw [e1]
        rfl
      obtain ⟨L, hL⟩ : ∃ L, L = l ++ (numB n).take (8 - 4) := ⟨_, rfl⟩
      have hR1 := HR1.out
      rw [← hL] at hR1
      obtain ⟨hbr, v, hrb, HO⟩ := hR1
      obtain ⟨A0, c0, eA0⟩ := own_slice HO
      subst eA0
      have hll : L.length ≤ l.length + 8 := by rw [hL]; simp [numB]
      have hc1 : wr.cell? ⟨rb, 0, none⟩ = some (.slice A0 L.length c0) := (blk_cell hrb 0).trans rfl
      have hc1a : ∀ o : Obj, (wr.alloc o).cell? ⟨rb, 0, none⟩ = some (.slice A0 L.length c0) := fun o => (blk_cell (blk_alloc hrb o) 0).trans rfl
      have HRB := Aside0.mk hrb
      have HOO := Aside0.mk HO
      have HBR := Aside0.mk hbr
      have HLL := Aside0.mk hll
      have HLL2 := Aside0.mk hL
      clear hrb HO hbr hll hL
      go_wp2
      go_region_law (refine step_append_cells (w0 := w0) (W := wr.drew) w0.heap.size (by rfl) (.tmp 13) (.tmp 19) 41 5 (.int .u8 0) 1 1 rfl hu1 infoB rfl (by decide) (by decide) (.slice A0 L.length c0) L.length (nums .u8 L) [.int .u8 (IntKind.u8.wrap (n / 16777216))] (by simp [Act.eval, Act.put]) (by first | (simp [Act.eval, Act.put]; done) | (simp [Act.eval, Act.put]; rfl)) rfl (by simp [Value.oneCell']) HOO.out (below_drew1 HB1.out) (below_drew1 HB1.out).size (by have := HLL.out; have := HL.out; omega) ?_; intro v1 w1 hown1 hb1 hg1 hat1; obtain ⟨A1, c1, eA1⟩ := own_slice hown1; subst eA1; obtain ⟨hq1, hq2, hq3, hq4⟩ := rowB_step (W := wr.drew) (l1 := L ++ [IntKind.u8.wrap (n / 16777216)]) HBR.out HRB.out HOO.out (by rw [nums_append, List.length_append]; exact hown1) hb1 hg1; have hc2 : w1.cell? ⟨rb, 0, none⟩ = some (.slice A0 L.length c0) := (blk_cell hq1 0).trans rfl; have hf2 := blk_frozen hq1 0; have HQ2 := Aside0.mk hq2; have HQ3 := Aside0.mk hq3; have HQ4 := Aside0.mk hq4; clear hown1 hb1 hg1 hat1 hq1 hq2 hq3 hq4)
      all_goals
       go_wp2
       go_roundg 3
       case measure => omega
       case rel => exact ⟨rfl, ⟨by omega⟩, ⟨by
        have e9 : L ++ [IntKind.u8.wrap (n / 16777216)] = l ++ (numB n).take (8 - 3) := by
          rw [HLL2.out, List.append_assoc, hu8.out]
          rfl
        rw [← e9]
        exact HQ2.out⟩, HQ3, ⟨HK1.out.trans HQ4.out⟩⟩
    · have e0 : (((5 : Nat) : Int) - 1) = 4 := rfl
      rw [e0]
      have hsh : ∀ W : World, (Op.shift .shr .i64 n .i64 (IntKind.i64.wrap 32)).run Tryd.prog W = .ok (.int .i64 (n / 4294967296)) W := fun W => by
        rw [shift_shr_any _ _ _ _ (by decide)]
        have e1 : (2 : Int) ^ min (IntKind.i64.wrap 32).toNat IntKind.i64.bits = 4294967296 := by decide +kernel
        rw [e1]
        rfl
      obtain ⟨L, hL⟩ : ∃ L, L = l ++ (numB n).take (8 - 5) := ⟨_, rfl⟩
      have hR1 := HR1.out
      rw [← hL] at hR1
      obtain ⟨hbr, v, hrb, HO⟩ := hR1
      obtain ⟨A0, c0, eA0⟩ := own_slice HO
      subst eA0
      have hll : L.length ≤ l.length + 8 := by rw [hL]; simp [numB]
      have hc1 : wr.cell? ⟨rb, 0, none⟩ = some (.slice A0 L.length c0) := (blk_cell hrb 0).trans rfl
      have hc1a : ∀ o : Obj, (wr.alloc o).cell? ⟨rb, 0, none⟩ = some (.slice A0 L.length c0) := fun o => (blk_cell (blk_alloc hrb o) 0).trans rfl
      have HRB := Aside0.mk hrb
      have HOO := Aside0.mk HO
      have HBR := Aside0.mk hbr
      have HLL := Aside0.mk hll
      have HLL2 := Aside0.mk hL
      clear hrb HO hbr hll hL
      go_wp2
      go_region_law (refine step_append_cells (w0 := w0) (W := wr.drew) w0.heap.size (by rfl) (.tmp 13) (.tmp 19) 41 5 (.int .u8 0) 1 1 rfl hu1 infoB rfl (by decide) (by decide) (.slice A0 L.length c0) L.length (nums .u8 L) [.int .u8 (IntKind.u8.wrap (n / 4294967296))] (by simp [Act.eval, Act.put]) (by first | (simp [Act.eval, Act.put]; done) | (simp [Act.eval, Act.put]; rfl)) rfl (by simp [Value.oneCell']) HOO.out (below_drew1 HB1.out) (below_drew1 HB1.out).size (by have := HLL.out; have := HL.out; omega) ?_; intro v1 w1 hown1 hb1 hg1 hat1; obtain ⟨A1, c1, eA1⟩ := own_slice hown1; subst eA1; obtain ⟨hq1, hq2, hq3, hq4⟩ := rowB_step (W := wr.drew) (l1 := L ++ [IntKind.u8.wrap (n / 4294967296)]) HBR.out HRB.out HOO.out (by rw [nums_append, List.length_append]; exact hown1) hb1 hg1; have hc2 : w1.cell? ⟨rb, 0, none⟩ = some (.slice A0 L.length c0) := (blk_cell hq1 0).trans rfl; have hf2 := blk_frozen hq1 0; have HQ2 := Aside0.mk hq2; have HQ3 := Aside0.mk hq3; have HQ4 := Aside0.mk hq4; clear hown1 hb1 hg1 hat1 hq1 hq2 hq3 hq4)
      all_goals
       go_wp2
       go_roundg 4
       case measure => omega
       case rel => exact ⟨rfl, ⟨by omega⟩, ⟨by
        have e9 : L ++ [IntKind.u8.wrap (n / 4294967296)] = l ++ (numB n).take (8 - 4) := by
          rw [HLL2.out, List.append_assoc, hu8.out]
          rfl
        rw [← e9]
        exact HQ2.out⟩, HQ3, ⟨HK1.out.trans HQ4.out⟩⟩
    · have e0 : (((6 : Nat) : Int) - 1) = 5 := rfl
      rw [e0]
      have hsh : ∀ W : World, (Op.shift .shr .i64 n .i64 (IntKind.i64.wrap 40)).run Tryd.prog W = .ok (.int .i64 (n / 1099511627776)) W := fun W => by
        rw [shift_shr_any _ _ _ _ (by decide)]
        have e1 : (2 : Int) ^ min (IntKind.i64.wrap 40).toNat IntKind.i64.bits = 1099511627776 := by decide +kernel
        rw [e1]
        rfl
      obtain ⟨L, hL⟩ : ∃ L, L = l ++ (numB n).take (8 - 6) := ⟨_, rfl⟩
      have hR1 := HR1.out
      rw [← hL] at hR1
      obtain ⟨hbr, v, hrb, HO⟩ := hR1
      obtain ⟨A0, c0, eA0⟩ := own_slice HO
      subst eA0
      have hll : L.length ≤ l.length + 8 := by rw [hL]; simp [numB]
      have hc1 : wr.cell? ⟨rb, 0, none⟩ = some (.slice A0 L.length c0) := (blk_cell hrb 0).trans rfl
      have hc1a : ∀ o : Obj, (wr.alloc o).cell? ⟨rb, 0, none⟩ = some (.slice A0 L.length c0) := fun o => (blk_cell (blk_alloc hrb o) 0).trans rfl
      have HRB := Aside0.mk hrb
      have HOO := Aside0.mk HO
      have HBR := Aside0.mk hbr
      have HLL := Aside0.mk hll
      have HLL2 := Aside0.mk hL
      clear hrb HO hbr hll hL
      go_wp2
      go_region_law (refine step_append_cells (w0 := w0) (W := wr.drew) w0.heap.size (by rfl) (.tmp 13) (.tmp 19) 41 5 (.int .u8 0) 1 1 rfl hu1 infoB rfl (by decide) (by decide) (.slice A0 L.length c0) L.length (nums .u8 L) [.int .u8 (IntKind.u8.wrap (n / 1099511627776))] (by simp [Act.eval, Act.put]) (by first | (simp [Act.eval, Act.put]; done) | (simp [Act.eval, Act.put]; rfl)) rfl (by simp [Value.oneCell']) HOO.out (below_drew1 HB1.out) (below_drew1 HB1.out).size (by have := HLL.out; have := HL.out; omega) ?_; intro v1 w1 hown1 hb1 hg1 hat1; obtain ⟨A1, c1, eA1⟩ := own_slice hown1; subst eA1; obtain ⟨hq1, hq2, hq3, hq4⟩ := rowB_step (W := wr.drew) (l1 := L ++ [IntKind.u8.wrap (n / 1099511627776)]) HBR.out HRB.out HOO.out (by rw [nums_append, List.length_append]; exact hown1) hb1 hg1; have hc2 : w1.cell? ⟨rb, 0, none⟩ = some (.slice A0 L.length c0) := (blk_cell hq1 0).trans rfl; have hf2 := blk_frozen hq1 0; have HQ2 := Aside0.mk hq2; have HQ3 := Aside0.mk hq3; have HQ4 := Aside0.mk hq4; clear hown1 hb1 hg1 hat1 hq1 hq2 hq3 hq4)
      all_goals
       go_wp2
       go_roundg 5
       case measure => omega
       case rel => exact ⟨rfl, ⟨by omega⟩, ⟨by
        have e9 : L ++ [IntKind.u8.wrap (n / 1099511627776)] = l ++ (numB n).take (8 - 5) := by
          rw [HLL2.out, List.append_assoc, hu8.out]
          rfl
        rw [← e9]
        exact HQ2.out⟩, HQ3, ⟨HK1.out.trans HQ4.out⟩⟩
    · have e0 : (((7 : Nat) : Int) - 1) = 6 := rfl
      rw [e0]
      have hsh : ∀ W : World, (Op.shift .shr .i64 n .i64 (IntKind.i64.wrap 48)).run Tryd.prog W = .ok (.int .i64 (n / 281474976710656)) W := fun W => by
        rw [shift_shr_any _ _ _ _ (by decide)]
        have e1 : (2 : Int) ^ min (IntKind.i64.wrap 48).toNat IntKind.i64.bits = 281474976710656 := by decide +kernel
        rw [e1]
        rfl
      obtain ⟨L, hL⟩ : ∃ L, L = l ++ (numB n).take (8 - 7) := ⟨_, rfl⟩
      have hR1 := HR1.out
      rw [← hL] at hR1
      obtain ⟨hbr, v, hrb, HO⟩ := hR1
      obtain ⟨A0, c0, eA0⟩ := own_slice HO
      subst eA0
      have hll : L.length ≤ l.length + 8 := by rw [hL]; simp [numB]
      have hc1 : wr.cell? ⟨rb, 0, none⟩ = some (.slice A0 L.length c0) := (blk_cell hrb 0).trans rfl
      have hc1a : ∀ o : Obj, (wr.alloc o).cell? ⟨rb, 0, none⟩ = some (.slice A0 L.length c0) := fun o => (blk_cell (blk_alloc hrb o) 0).trans rfl
      have HRB := Aside0.mk hrb
      have HOO := Aside0.mk HO
      have HBR := Aside0.mk hbr
      have HLL := Aside0.mk hll
      have HLL2 := Aside0.mk hL
      clear hrb HO hbr hll hL
      go_wp2
      go_region_law (refine step_append_cells (w0 := w0) (W := wr.drew) w0.heap.size (by rfl) (.tmp 13) (.tmp 19) 41 5 (.int .u8 0) 1 1 rfl hu1 infoB rfl (by decide) (by decide) (.slice A0 L.length c0) L.length (nums .u8 L) [.int .u8 (IntKind.u8.wrap (n / 281474976710656))] (by simp [Act.eval, Act.put]) (by first | (simp [Act.eval, Act.put]; done) | (simp [Act.eval, Act.put]; rfl)) rfl (by simp [Value.oneCell']) HOO.out (below_drew1 HB1.out) (below_drew1 HB1.out).size (by have := HLL.out; have := HL.out; omega) ?_; intro v1 w1 hown1 hb1 hg1 hat1; obtain ⟨A1, c1, eA1⟩ := own_slice hown1; subst eA1; obtain ⟨hq1, hq2, hq3, hq4⟩ := rowB_step (W := wr.drew) (l1 := L ++ [IntKind.u8.wrap (n / 281474976710656)]) HBR.out HRB.out HOO.out (by rw [nums_append, List.length_append]; exact hown1) hb1 hg1; have hc2 : w1.cell? ⟨rb, 0, none⟩ = some (.slice A0 L.length c0) := (blk_cell hq1 0).trans rfl; have hf2 := blk_frozen hq1 0; have HQ2 := Aside0.mk hq2; have HQ3 := Aside0.mk hq3; have HQ4 := Aside0.mk hq4; clear hown1 hb1 hg1 hat1 hq1 hq2 hq3 hq4)
      all_goals
       go_wp2
       go_roundg 6
       case measure => omega
       case rel => exact ⟨rfl, ⟨by omega⟩, ⟨by
        have e9 : L ++ [IntKind.u8.wrap (n / 281474976710656)] = l ++ (numB n).take (8 - 6) := by
          rw [HLL2.out, List.append_assoc, hu8.out]
          rfl
        rw [← e9]
        exact HQ2.out⟩, HQ3, ⟨HK1.out.trans HQ4.out⟩⟩
    · have e0 : (((8 : Nat) : Int) - 1) = 7 := rfl
      rw [e0]
      have hsh : ∀ W : World, (Op.shift .shr .i64 n .i64 (IntKind.i64.wrap 56)).run Tryd.prog W = .ok (.int .i64 (n / 72057594037927936)) W := fun W => by
        rw [shift_shr_any _ _ _ _ (by decide)]
        have e1 : (2 : Int) ^ min (IntKind.i64.wrap 56).toNat IntKind.i64.bits = 72057594037927936 := by decide +kernel
        rw [e1]
        rfl
      obtain ⟨L, hL⟩ : ∃ L, L = l ++ (numB n).take (8 - 8) := ⟨_, rfl⟩
      have hR1 := HR1.out
      rw [← hL] at hR1
      obtain ⟨hbr, v, hrb, HO⟩ := hR1
      obtain ⟨A0, c0, eA0⟩ := own_slice HO
      subst eA0
      have hll : L.length ≤ l.length + 8 := by rw [hL]; simp [numB]
      have hc1 : wr.cell? ⟨rb, 0, none⟩ = some (.slice A0 L.length c0) := (blk_cell hrb 0).trans rfl
      have hc1a : ∀ o : Obj, (wr.alloc o).cell? ⟨rb, 0, none⟩ = some (.slice A0 L.length c0) := fun o => (blk_cell (blk_alloc hrb o) 0).trans rfl
      have HRB := Aside0.mk hrb
      have HOO := Aside0.mk HO
      have HBR := Aside0.mk hbr
      have HLL := Aside0.mk hll
      have HLL2 := Aside0.mk hL
      clear hrb HO hbr hll hL
      go_wp2
      go_region_law (refine step_append_cells (w0 := w0) (W := wr.drew) w0.heap.size (by rfl) (.tmp 13) (.tmp 19) 41 5 (.int .u8 0) 1 1 rfl hu1 infoB rfl (by decide) (by decide) (.slice A0 L.length c0) L.length (nums .u8 L) [.int .u8 (IntKind.u8.wrap (n / 72057594037927936))] (by simp [Act.eval, Act.put]) (by first | (simp [Act.eval, Act.put]; done) | (simp [Act.eval, Act.put]; rfl)) rfl (by simp [Value.oneCell']) HOO.out (below_drew1 HB1.out) (below_drew1 HB1.out).size (by have := HLL.out; have := HL.out; omega) ?_; intro v1 w1 hown1 hb1 hg1 hat1; obtain ⟨A1, c1, eA1⟩ := own_slice hown1; subst eA1; obtain ⟨hq1, hq2, hq3, hq4⟩ := rowB_step (W := wr.drew) (l1 := L ++ [IntKind.u8.wrap (n / 72057594037927936)]) HBR.out HRB.out HOO.out (by rw [nums_append, List.length_append]; exact hown1) hb1 hg1; have hc2 : w1.cell? ⟨rb, 0, none⟩ = some (.slice A0 L.length c0) := (blk_cell hq1 0).trans rfl; have hf2 := blk_frozen hq1 0; have HQ2 := Aside0.mk hq2; have HQ3 := Aside0.mk hq3; have HQ4 := Aside0.mk hq4; clear hown1 hb1 hg1 hat1 hq1 hq2 hq3 hq4)
      all_goals
       go_wp2
       go_roundg 7
       case measure => omega
       case rel => exact ⟨rfl, ⟨by omega⟩, ⟨by
        have e9 : L ++ [IntKind.u8.wrap (n / 72057594037927936)] = l ++ (numB n).take (8 - 7) := by
          rw [HLL2.out, List.append_assoc, hu8.out]
          rfl
        rw [← e9]
        exact HQ2.out⟩, HQ3, ⟨HK1.out.trans HQ4.out⟩⟩
/-- A text's bytes, a label's. -/
def encStr (s : ByteArray) : List Int := ((s.size : Int) % 256) :: bytesOf s
def encLab (a b c d : Int) : List Int := [a % 256, b % 256, c % 256, d % 256]
def encB (x : Int) : List Int := [x % 256]
theorem encStr_length (s : ByteArray) : (encStr s).length = s.size + 1 := by simp [encStr, bytesOf_length]
theorem rowB_new (w0 w : World) (hb : w0.heap.size ≤ w.heap.size) : RowB (w.alloc (.cells #[.slice none 0 0] 77)) w0.heap.size w.heap.size [] := ⟨hb, .slice none 0 0, blk_new w _, own_nil _ _ _ _⟩
theorem rowB_out {W : World} {base rb : Nat} {l : List Int} (h : RowB W base rb l) : ∃ A c, W.cell? ⟨rb, 0, none⟩ = some (.slice A l.length c) ∧ Kd.R (Kd.int .u8) 5 W base (fun _ => True) (.slice A l.length c) l := by
  obtain ⟨_, v, h2, h3⟩ := h
  have h4 : Kd.R (Kd.int .u8) 5 W base (fun _ => True) v l := Kd.R_of_own h3 (fun _ _ => trivial)
  obtain ⟨A, c, rfl⟩ := Kd.R_slice h4
  exact ⟨A, c, (blk_cell h2 0).trans rfl, h4⟩
end Go.Proofs.YtihknjmibnonjaaDoor.X
