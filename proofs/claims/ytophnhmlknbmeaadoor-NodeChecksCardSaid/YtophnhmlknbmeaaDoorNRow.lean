/- The row of bytes that nodes, messages and entries are written into: its block, its bytes, and what its methods leave. -/
import Derived.Test.YtophnhmlknbmeaaDoorH
import Derived.WalkKit
import Derived.Deep.LoopGhost
import Derived.Deep.RegionLaw
import Derived.Deep.QuietTactic
import Derived.BigQuiet
namespace Go.Proofs.YtophnhmlknbmeaaDoor.X
open Go.RowKit Go.Proofs.YtophnhmlknbmeaaDoorW.PrintWords Go.Proofs.YtophnhmlknbmeaaDoorW.PrintLast Go.Proofs.YtophnhmlknbmeaaDoorW.PrintMore Go.Proofs.YtophnhmlknbmeaaDoor.More
set_option linter.unusedVariables false
set_option linter.unusedSimpArgs false

theorem infoB : (Tryd.prog.info? 5).map (fun i => (i.zero, i.size, i.bytes)) = some (some (.int .u8 0), 1, 1) := by kernel_rfl
/-- Block rb is a row that holds l; its bytes are the call's own. -/
def RowB (W : World) (base rb : Nat) (l : List Int) : Prop := base ≤ rb ∧ ∃ v, W.heap[rb]? = some (.cells #[v] 53 (0, 0)) ∧ W.ownsRow base 5 1 v l.length (nums .u8 l)
/-- Every block that is neither a row nor bytes stays. -/
def TKeep (W W' : World) : Prop := W.heap.size ≤ W'.heap.size ∧ ∀ (k : Nat) (cells : Array Value) (t : Nat), W.heap[k]? = some (.cells cells t (0, 0)) → t ≠ 53 → t ≠ 5 → W'.heap[k]? = some (.cells cells t (0, 0))
theorem TKeep.refl (W : World) : TKeep W W := ⟨Nat.le_refl _, fun _ _ _ h _ _ => h⟩
theorem TKeep.trans {a b c : World} (h : TKeep a b) (k : TKeep b c) : TKeep a c := ⟨Nat.le_trans h.1 k.1, fun _ _ _ q h1 h2 => k.2 _ _ _ (h.2 _ _ _ q h1 h2) h1 h2⟩
theorem TKeep.of_below {a b : World} (h : Below a.heap.size a b) : TKeep a b := ⟨h.size, fun _ _ _ q _ _ => blk_below q h⟩
theorem TKeep.alloc {a b : World} (h : TKeep a b) (o : Obj) : TKeep a (b.alloc o) := h.trans (.of_below (below_alloc (Below.refl _ _) o))
theorem TKeep.drew {a b : World} (h : TKeep a b) : TKeep a b.drew := h
theorem RowB.below {W W' : World} {base rb : Nat} {l : List Int} (h : RowB W base rb l) (hb : Below W.heap.size W W') : RowB W' base rb l := by
  obtain ⟨h1, v, h2, h3⟩ := h
  exact ⟨h1, v, blk_below h2 hb, pw_own_below h3 hb⟩
theorem RowB.alloc {W : World} {base rb : Nat} {l : List Int} (h : RowB W base rb l) (o : Obj) : RowB (W.alloc o) base rb l := h.below (below_alloc (Below.refl _ _) o)
theorem RowB.drew {W : World} {base rb : Nat} {l : List Int} (h : RowB W base rb l) : RowB W.drew base rb l := h
theorem RowB.lt {W : World} {base rb : Nat} {l : List Int} (h : RowB W base rb l) : rb < W.heap.size := by
  obtain ⟨_, v, h2, _⟩ := h
  exact blk_lt h2
theorem rowB_step {w0 W w1 : World} {rb : Nat} {v v1 : Value} {l l1 : List Int} (hbr : w0.heap.size ≤ rb) (hrb : W.heap[rb]? = some (.cells #[v] 53 (0, 0))) (HO : W.ownsRow w0.heap.size 5 1 v l.length (nums .u8 l))
    (hown : w1.ownsRow w0.heap.size 5 1 v1 l1.length (nums .u8 l1)) (hb : Below w0.heap.size w0 w1) (hg : W.grownBy w1 v.ownBlock) :
    w1.heap[rb]? = some (.cells #[v] 53 (0, 0)) ∧ RowB (w1.setCell ⟨rb, 0, none⟩ v1) w0.heap.size rb l1 ∧ Below w0.heap.size w0 (w1.setCell ⟨rb, 0, none⟩ v1) ∧ TKeep W (w1.setCell ⟨rb, 0, none⟩ v1) := by
  have h1 : w1.heap[rb]? = some (.cells #[v] 53 (0, 0)) := (hg.block rb (blk_lt hrb) (own_ne HO hrb (by decide))).trans hrb
  have h2 := blk_set h1 0 v1
  refine ⟨h1, ⟨hbr, v1, h2, own_setCell hown (own_ne hown h1 (by decide)) _⟩, below_set hb hbr, ?_, fun k cells t hk ht1 ht2 => ?_⟩
  · have := hg.size
    simpa using this
  · have hne : k ≠ rb := by
      rintro rfl
      rw [hrb] at hk
      injection hk with hk
      injection hk with _ hk
      exact ht1 hk.symm
    rw [Below.heap_setCell w1 ⟨rb, 0, none⟩ v1 k hne]
    exact (hg.block k (blk_lt hk) (own_ne HO hk (fun e => ht2 e.symm))).trans hk
set_option maxHeartbeats 4000000 in
set_option maxRecDepth 100000 in
/-- (*row).byte -/
theorem row_byte (rb g : Nat) (l xs : List Int) (w0 w : World) (hB : Below w0.heap.size w0 w) (hR : RowB w w0.heap.size rb l) (hx : w.heap[g]? = some (.cells (xs.map (Value.int .i64)).toArray 3 (0, 0))) (hl : l.length + xs.length ≤ 100000000) :
    Calls Tryd.prog 32 #[.pointer (some ⟨rb, 0, none⟩), .slice (some ⟨g, 0, none⟩) xs.length xs.length] w fun e w' => e = .returned (.tuple #[]) ∧ RowB w' w0.heap.size rb (l ++ xs.map (· % 256)) ∧ Below w0.heap.size w0 w' ∧ TKeep w w' := by
  have hu1 := Tryd.underlying38
  have hu2 := Tryd.underlying5
  have hu3 := Tryd.underlying66
  have hu4 := Tryd.underlying53
  have HX := Aside0.mk hx
  have HR := Aside0.mk hR
  have HB := Aside0.mk hB
  have HL := Aside0.mk hl
  clear hx hR hB hl
  go_enter Tryd.func32, Tryd.ntmps32
  go_wp2
  go_loopg [8] xs.length (fun kq v8 W => ∃ i : Nat, v8 = .int .i64 (i : Int) ∧ Aside0 (i + kq = xs.length) ∧ Aside0 (RowB W w0.heap.size rb (l ++ (xs.take i).map (· % 256))) ∧ Aside0 (Below w0.heap.size w0 W) ∧ Aside0 (TKeep w W))
  case atStart => exact ⟨0, rfl, ⟨by omega⟩, ⟨by simpa using HR.out⟩, HB, ⟨TKeep.refl _⟩⟩
  case round =>
    obtain ⟨i, rfl, HI, HR1, HB1, HK1⟩ := hrel
    clear HR HB
    by_cases hlt : i < xs.length
    · obtain ⟨L, hL⟩ : ∃ L, L = l ++ (xs.take i).map (· % 256) := ⟨_, rfl⟩
      have hR1 := HR1.out
      rw [← hL] at hR1
      obtain ⟨hbr, v, hrb, HO⟩ := hR1
      have hxg := HK1.out.2 _ _ _ HX.out (by decide) (by decide)
      have hc0 := blk_cell hxg i
      rw [show (xs.map (Value.int .i64)).toArray[i]? = some (.int .i64 xs[i]) by simp [hlt]] at hc0
      have hc1 : wr.cell? ⟨rb, 0, none⟩ = some v := (blk_cell hrb 0).trans rfl
      have hln := HL.out
      have hlt' : (i : Int) < (xs.length : Int) := by omega
      have h00 : (0 : Int) ≤ (i : Int) := by omega
      have HRB := Aside0.mk hrb
      have HOO := Aside0.mk HO
      have HBR := Aside0.mk hbr
      have hll : L.length = l.length + i := by rw [hL, List.length_append, List.length_map, List.length_take]; omega
      have HLL := Aside0.mk hll
      have HLL2 := Aside0.mk hL
      clear hxg hrb HO hbr hll hL
      go_wp2_with (at_builtin; refine print_append_cells (w0 := w0) w0.heap.size rfl _ _ 38 5 (.int .u8 0) 1 1 rfl hu1 infoB rfl (by decide) (by decide) v L.length (nums .u8 L) [.int .u8 (xs[i] % 256)] rfl rfl rfl (by simp [Value.oneCell']) HOO.out HB1.out HB1.out.size (by have := HLL.out; omega) ?_; intro v1 w1 hown1 hb1 hg1 hat1; obtain ⟨A1, c1, eA1⟩ := own_slice hown1; subst eA1; obtain ⟨hq1, hq2, hq3, hq4⟩ := rowB_step (l1 := L ++ [xs[i] % 256]) HBR.out HRB.out HOO.out (by rw [nums_append, List.length_append]; exact hown1) hb1 hg1; have hc2 : w1.cell? ⟨rb, 0, none⟩ = some v := (blk_cell hq1 0).trans rfl; have hf2 := blk_frozen hq1 0; have HQ2 := Aside0.mk hq2; have HQ3 := Aside0.mk hq3; have HQ4 := Aside0.mk hq4; clear hown1 hb1 hg1 hat1 hq1 hq2 hq3 hq4 hc1)
      go_roundg (gk - 1)
      case measure => have := HI.out; omega
      case rel =>
        exact ⟨i + 1, by go_num, ⟨by have := HI.out; omega⟩, ⟨by
          have e : (xs.take (i + 1)).map (· % 256) = (xs.take i).map (· % 256) ++ [xs[i] % 256] := by
            rw [show xs.take (i + 1) = xs.take i ++ [xs[i]] by rw [List.take_add_one, List.getElem?_eq_getElem hlt]; rfl, List.map_append]
            rfl
          rw [e, ← List.append_assoc, ← HLL2.out]
          exact HQ2.out⟩, HQ3, ⟨HK1.out.trans HQ4.out⟩⟩
    · have hge : ¬ (i : Int) < (xs.length : Int) := by omega
      have hle : (xs.length : Int) ≤ (i : Int) := by omega
      have hI := HI.out
      obtain rfl : i = xs.length := by omega
      go_wp2
      go_end0
      exact ⟨rfl, by have := HR1.out; rwa [List.take_of_length_le (Nat.le_refl _)] at this, HB1.out, HK1.out⟩
set_option maxHeartbeats 4000000 in
set_option maxRecDepth 100000 in
/-- (*row).text -/
theorem row_text (rb : Nat) (l : List Int) (s : ByteArray) (w0 w : World) (hB : Below w0.heap.size w0 w) (hR : RowB w w0.heap.size rb l) (hl : l.length + s.size ≤ 90000000) :
    Calls Tryd.prog 22 #[.pointer (some ⟨rb, 0, none⟩), .string s] w fun e w' => e = .returned (.tuple #[]) ∧ RowB w' w0.heap.size rb (l ++ (((s.size : Int) % 256) :: bytesOf s)) ∧ Below w0.heap.size w0 w' ∧ TKeep w w' := by
  have hu1 := Tryd.underlying38
  have hu2 := Tryd.underlying5
  have hu3 := Tryd.underlying66
  have hu4 := Tryd.underlying53
  have hu5 := Tryd.underlying9
  have HL := Aside0.mk hl
  have HC : ∀ o : Obj, o = .cells #[.int .i64 (s.size : Int)] 3 → Calls Tryd.prog 32 #[.pointer (some ⟨rb, 0, none⟩), .slice (some ⟨w.heap.size, 0, none⟩) 1 1] (w.alloc o) fun e w' => e = .returned (.tuple #[]) ∧ RowB w' w0.heap.size rb (l ++ [(s.size : Int) % 256]) ∧ Below w0.heap.size w0 w' ∧ TKeep (w.alloc o) w' := by
    rintro o rfl
    exact row_byte rb w.heap.size l [(s.size : Int)] w0 (w.alloc _) (below_alloc hB _) (hR.alloc _) (blk_new w _) (by simp; omega)
  have HCC := Aside0.mk HC
  clear HC hB hR hl
  go_enter Tryd.func22, Tryd.ntmps22
  obtain ⟨L, hL⟩ : ∃ L, L = l ++ [(s.size : Int) % 256] := ⟨_, rfl⟩
  have HLL2 := Aside0.mk hL
  have HLL : Aside0 (L.length = l.length + 1) := ⟨by rw [hL]; simp⟩
  obtain ⟨L2, hL2⟩ : ∃ L2, L2 = L ++ bytesOf s := ⟨_, rfl⟩
  have HL2 := Aside0.mk hL2
  clear hL hL2
  go_wp2_with (first
    | (go_at_call 32; refine (HCC.out _ rfl).mono ?_; rintro e w1 ⟨rfl, hR1, hB1, hK1⟩; have HB1 := Aside0.mk hB1; have HK1 := Aside0.mk hK1; rw [← HLL2.out] at hR1; obtain ⟨hbr, v, hrb, HO⟩ := hR1; have hc1 : w1.cell? ⟨rb, 0, none⟩ = some v := (blk_cell hrb 0).trans rfl; have HRB := Aside0.mk hrb; have HOO := Aside0.mk HO; have HBR := Aside0.mk hbr; clear hrb HO hbr hB1 hK1)
    | (at_builtin; refine print_append_str (w0 := w0) w0.heap.size rfl _ _ 38 9 5 rfl hu1 hu5 infoB v L s rfl rfl HOO.out HB1.out HB1.out.size (by have := HLL.out; have := HL.out; omega) ?_; intro v1 w2 hown1 hb1 hg1; rw [← HL2.out] at hown1; obtain ⟨A1, c1, eA1⟩ := own_slice hown1; subst eA1; obtain ⟨hq1, hq2, hq3, hq4⟩ := rowB_step (l1 := L2) HBR.out HRB.out HOO.out hown1 hb1 hg1; have hc2 : w2.cell? ⟨rb, 0, none⟩ = some v := (blk_cell hq1 0).trans rfl; have hf2 := blk_frozen hq1 0; have HQ2 := Aside0.mk hq2; have HQ3 := Aside0.mk hq3; have HQ4 := Aside0.mk hq4; clear hown1 hb1 hg1 hq1 hq2 hq3 hq4 hc1))
  go_end0
  refine ⟨rfl, ?_, HQ3.out, ((TKeep.refl w).alloc _).trans (HK1.out.trans HQ4.out)⟩
  have h := HQ2.out
  have e : L2 = l ++ (((s.size : Int) % 256) :: bytesOf s) := by rw [HL2.out, HLL2.out, List.append_assoc, List.singleton_append]
  rw [← e]
  exact h
set_option maxHeartbeats 4000000 in
set_option maxRecDepth 100000 in
/-- (*row).label -/
theorem row_label (rb : Nat) (l : List Int) (a b c d : Int) (w0 w : World) (hB : Below w0.heap.size w0 w) (hR : RowB w w0.heap.size rb l) (hl : l.length ≤ 90000000) :
    Calls Tryd.prog 23 #[.pointer (some ⟨rb, 0, none⟩), .agg #[.int .i64 a, .int .i64 b, .int .i64 c, .int .i64 d]] w fun e w' => e = .returned (.tuple #[]) ∧ RowB w' w0.heap.size rb (l ++ [a % 256, b % 256, c % 256, d % 256]) ∧ Below w0.heap.size w0 w' ∧ TKeep w w' := by
  have hu4 := Tryd.underlying23
  have HC : ∀ W : World, W = (w.alloc (.cells #[.int .i64 a, .int .i64 b, .int .i64 c, .int .i64 d] 23)).alloc (.cells #[.int .i64 a, .int .i64 b, .int .i64 c, .int .i64 d] 3) → Calls Tryd.prog 32 #[.pointer (some ⟨rb, 0, none⟩), .slice (some ⟨w.heap.size + 1, 0, none⟩) 4 4] W fun e w' => e = .returned (.tuple #[]) ∧ RowB w' w0.heap.size rb (l ++ [a % 256, b % 256, c % 256, d % 256]) ∧ Below w0.heap.size w0 w' ∧ TKeep W w' := by
    rintro W rfl
    have h := row_byte rb (w.heap.size + 1) l [a, b, c, d] w0 ((w.alloc (.cells #[.int .i64 a, .int .i64 b, .int .i64 c, .int .i64 d] 23)).alloc (.cells #[.int .i64 a, .int .i64 b, .int .i64 c, .int .i64 d] 3)) (below_alloc (below_alloc hB _) _) ((hR.alloc _).alloc _) (by
      have h5 := blk_new (w.alloc (.cells #[.int .i64 a, .int .i64 b, .int .i64 c, .int .i64 d] 23)) (.cells #[.int .i64 a, .int .i64 b, .int .i64 c, .int .i64 d] 3)
      rw [show (w.alloc (.cells #[.int .i64 a, .int .i64 b, .int .i64 c, .int .i64 d] 23)).heap.size = w.heap.size + 1 by simp] at h5
      exact h5) (by simp; omega)
    exact h
  have HCC := Aside0.mk HC
  clear HC hB hR hl
  go_enter Tryd.func23, Tryd.ntmps23
  go_wp2_with (go_at_call 32; refine (HCC.out _ rfl).mono ?_; rintro e w1 ⟨rfl, hR1, hB1, hK1⟩; have HR1 := Aside0.mk hR1; have HB1 := Aside0.mk hB1; have HK1 := Aside0.mk hK1; clear hR1 hB1 hK1)
  go_end0
  exact ⟨rfl, HR1.out, HB1.out, (((TKeep.refl w).alloc _).alloc _).trans HK1.out⟩
/-- A whole number's bytes. -/
def numB (n : Int) : List Int := [n / 72057594037927936 % 256, n / 281474976710656 % 256, n / 1099511627776 % 256, n / 4294967296 % 256, n / 16777216 % 256, n / 65536 % 256, n / 256 % 256, n % 256]
/-- A text's bytes, a label's. -/
def encStr (s : ByteArray) : List Int := ((s.size : Int) % 256) :: bytesOf s
def encLab (a b c d : Int) : List Int := [a % 256, b % 256, c % 256, d % 256]
def encB (x : Int) : List Int := [x % 256]
theorem encStr_length (s : ByteArray) : (encStr s).length = s.size + 1 := by simp [encStr, bytesOf_length]
theorem rowB_new (w0 w : World) (hb : w0.heap.size ≤ w.heap.size) : RowB (w.alloc (.cells #[.slice none 0 0] 53)) w0.heap.size w.heap.size [] := ⟨hb, .slice none 0 0, blk_new w _, own_nil _ _ _ _⟩
theorem rowB_out {W : World} {base rb : Nat} {l : List Int} (h : RowB W base rb l) : ∃ A c, W.cell? ⟨rb, 0, none⟩ = some (.slice A l.length c) ∧ Kd.R (Kd.int .u8) 5 W base (fun _ => True) (.slice A l.length c) l := by
  obtain ⟨_, v, h2, h3⟩ := h
  have h4 : Kd.R (Kd.int .u8) 5 W base (fun _ => True) v l := Kd.R_of_own h3 (fun _ _ => trivial)
  obtain ⟨A, c, rfl⟩ := Kd.R_slice h4
  exact ⟨A, c, (blk_cell h2 0).trans rfl, h4⟩
end Go.Proofs.YtophnhmlknbmeaaDoor.X
