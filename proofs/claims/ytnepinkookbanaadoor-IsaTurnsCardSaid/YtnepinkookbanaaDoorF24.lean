/- Written by a program of this session over the kit's print: YtnepinkookbanaaDoorF24. -/
import Derived.Test.YtnepinkookbanaaDoorH
import Derived.Test.YtnepinkookbanaaDoorF21
import Derived.Test.YtnepinkookbanaaDoorF23
import Derived.Test.YtnepinkookbanaaDoorF41
import Derived.Test.YtnepinkookbanaaDoorF42
import Derived.Test.YtnepinkookbanaaDoorF23
import Derived.Test.YtnepinkookbanaaDoorF21
import Derived.Test.YtnepinkookbanaaDoorLaid2
import Derived.Test.YtnepinkookbanaaDoorShelf
import Derived.Lib.SplitLaws
import Derived.Lib.SmallJoins
import Derived.WalkKit
import Derived.BigCall
namespace Go.Proofs.YtnepinkookbanaaDoor.X
open Go.RowKit Go.Proofs.YtnepinkookbanaaDoorW.PrintWords Go.Proofs.YtnepinkookbanaaDoorW.PrintLast Go.Proofs.YtnepinkookbanaaDoorW.PrintMore Go.Proofs.YtnepinkookbanaaDoor.More
attribute [local go_sem] max2_int min2_int max_two min_two max_three min_three max_four min_four binOp_string_leq binOp_string_gtr   -- for this text's walks alone
set_option linter.unusedVariables false
set_option linter.unusedSimpArgs false

/-! ### label_Parse: function 24 -/
/-- The number that strconv.Atoi hands back beside whatever error. -/
def atoiV (l : List UInt8) : Int := match Lib.atoiAll l with
  | .ok v => v
  | .«syntax» => 0
  | .range => Lib.atoiSat l
theorem atoi_any (s : ByteArray) (hs : s.size ≤ 281474976710656) (w : World) (hG : Laid2 w) :
    Calls Tryd.prog 46 #[.string s] w fun e w' => ∃ v : Value, e = .returned (.tuple #[.int .i64 (atoiV s.data.toList), v]) ∧ Below w.heap.size w w' := by
  unfold atoiV
  cases h : Lib.atoiAll s.data.toList with
  | ok v =>
    refine (Tryd.strconv_Atoi_ok s (by omega) v h w).mono ?_
    rintro e w' ⟨rfl, rfl | ⟨t, rfl⟩⟩
    · exact ⟨_, rfl, Below.refl _ _⟩
    · exact ⟨_, rfl, Lib.bytesWorld_below _ _ _⟩
  | «syntax» =>
    obtain ⟨tp, p, hv⟩ := hG.syn
    refine (Tryd.strconv_Atoi_syntax_var s hs h tp p w hv).mono ?_
    rintro e w' ⟨N, rfl, _, _, hb⟩
    exact ⟨_, rfl, hb⟩
  | range =>
    obtain ⟨tp, p, hv⟩ := hG.rng
    refine (Tryd.strconv_Atoi_range_var s hs h tp p w hv).mono ?_
    rintro e w' ⟨N, rfl, _, _, hb⟩
    exact ⟨_, rfl, hb⟩
/-- The pieces of a text between one sign. -/
def piecesV (s : ByteArray) (c : UInt8) : List ByteArray := Lib.splitB ⟨#[c]⟩ 0 (Lib.countB s ⟨#[c]⟩) s
theorem piecesV_length (s : ByteArray) (c : UInt8) : (piecesV s c).length = Lib.countB s ⟨#[c]⟩ + 1 := Lib.splitB_all ⟨#[c]⟩ (by show 1 ≤ 1; omega) 0 _ s rfl
theorem split_any (s : ByteArray) (c : UInt8) (hs : s.size < 4294967281) (w : World) (hG : Laid2 w) (n : Nat) (hn : Lib.countB s ⟨#[c]⟩ = n) (ps : List ByteArray) (hp : piecesV s c = ps) :
    Calls Tryd.prog 45 #[.string s, .string ⟨#[c]⟩] w fun e w' => e = .returned (.slice (some ⟨w.heap.size, 0, none⟩) (n + 1) (n + 1)) ∧ w' = w.alloc (.cells (ps.map Value.string).toArray 9) := by
  obtain ⟨m, hm⟩ := hG.most
  subst hn
  subst hp
  exact Tryd.strings_Split s ⟨#[c]⟩ m w hs hm (by show 1 ≤ 1; omega)
theorem splitB_sizes (sep : ByteArray) (save : Nat) : ∀ (k : Nat) (s : ByteArray), ∀ p ∈ Lib.splitB sep save k s, p.size ≤ s.size
  | 0, s, p, hp => by
    rw [Lib.splitB_zero, List.mem_singleton] at hp
    subst hp
    exact Nat.le_refl _
  | k + 1, s, p, hp => by
    unfold Lib.splitB at hp
    split at hp
    · rw [List.mem_singleton] at hp
      subst hp
      exact Nat.le_refl _
    · rcases List.mem_cons.1 hp with rfl | hp
      · rw [ByteArray.size_extract]; omega
      · have := splitB_sizes sep save k _ p hp
        rw [ByteArray.size_extract] at this
        omega
theorem piecesV_sizes (s : ByteArray) (c : UInt8) : ∀ p ∈ piecesV s c, p.size ≤ s.size := splitB_sizes _ _ _ _
/-- May these be a label's numbers? -/
def labOk (a b c d : Int) : Bool := decide (0 ≤ a) && (decide (a ≤ 3) && (decide (0 ≤ b) && (decide (b ≤ 255) && (decide (0 ≤ c) && (decide (c ≤ 3) && (decide (0 ≤ d) && decide (d ≤ 255)))))))
def partV (s : ByteArray) (i : Nat) : Int := atoiV ((piecesV s 46).getD i ByteArray.empty).data.toList
/-- What label.Parse tells. -/
def parseV (s : ByteArray) : Int × Int × Int × Int × Int :=
  if Lib.countB s ⟨#[46]⟩ = 3 ∧ labOk (partV s 0) (partV s 1) (partV s 2) (partV s 3) = true ∧ (textV (partV s 0) (partV s 1) (partV s 2) (partV s 3)).toList = s.toList then (partV s 0, partV s 1, partV s 2, partV s 3, 0) else (0, 0, 0, 0, 1)
def label_Parse.f (a0 : ByteArray) : Option (Int × Int × Int × Int × Int) := if a0.size < 4294967281 then some (parseV a0) else none
theorem label_Parse.lev (a : Int) : label_level.f a = some (decide (0 ≤ a) && decide (a ≤ 3)) := by
  unfold label_level.f
  by_cases h1 : 0 ≤ a <;> by_cases h2 : a ≤ 3 <;> simp [h1, h2]
theorem label_Parse.cat (a : Int) : label_cats.f a = some (decide (0 ≤ a) && decide (a ≤ 255)) := by
  unfold label_cats.f
  by_cases h1 : 0 ≤ a <;> by_cases h2 : a ≤ 255 <;> simp [h1, h2]
theorem label_Parse.chk (a b c d : Int) : label_Check.f a b c d = some (if labOk a b c d = true then 0 else 1) := by
  unfold label_Check.f labOk
  rw [label_Parse.lev a, label_Parse.lev c, label_Parse.cat b, label_Parse.cat d]
  simp only [Option.bind_some]
  generalize decide (0 ≤ a) = x1
  generalize decide (a ≤ 3) = x2
  generalize decide (0 ≤ b) = x3
  generalize decide (b ≤ 255) = x4
  generalize decide (0 ≤ c) = x5
  generalize decide (c ≤ 3) = x6
  generalize decide (0 ≤ d) = x7
  generalize decide (d ≤ 255) = x8
  revert x1 x2 x3 x4 x5 x6 x7 x8
  decide
def prsAt (N : Nat) (p0 p1 p2 p3 : ByteArray) (v0 v1 v2 v3 : Int) (w0 wr : World) : Prop :=
  wr.heap[N]? = some (.cells #[.int .i64 0, .int .i64 0, .int .i64 0, .int .i64 0] 23 (0, 0)) ∧ wr.heap[N + 1]? = some (.cells #[.int .i64 v0, .int .i64 v1, .int .i64 v2, .int .i64 v3] 56 (0, 0)) ∧
  wr.heap[N + 1 + 1]? = some (.cells #[.string p0, .string p1, .string p2, .string p3] 9 (0, 0)) ∧ Below w0.heap.size w0 wr
def upTo (n k i : Nat) (v : Int) : Int := if i < k then v else 0
set_option maxRecDepth 100000 in
set_option maxHeartbeats 8000000 in
theorem label_Parse.calls (a0 : ByteArray) (r1 : Int) (r2 : Int) (r3 : Int) (r4 : Int) (r5 : Int) (w : World) (hG : Laid2 w) (h : label_Parse.f a0 = some (r1, r2, r3, r4, r5)) :
    Calls Tryd.prog 24 #[.string a0] w fun e w' => e = .returned (.tuple #[.agg #[.int .i64 r1, .int .i64 r2, .int .i64 r3, .int .i64 r4], .int .i64 r5]) ∧ Below w.heap.size w w' := by
  have hs : a0.size < 4294967281 := by
    by_cases h1 : a0.size < 4294967281
    · exact h1
    · unfold label_Parse.f at h
      rw [if_neg h1] at h
      exact absurd h (by simp)
  have hr : parseV a0 = (r1, r2, r3, r4, r5) := by
    unfold label_Parse.f at h
    rw [if_pos hs] at h
    exact Option.some.inj h
  clear h
  have hlen := piecesV_length a0 46
  have hsz := piecesV_sizes a0 46
  unfold parseV at hr
  obtain ⟨n, hn⟩ : ∃ n, Lib.countB a0 ⟨#[46]⟩ = n := ⟨_, rfl⟩
  obtain ⟨ps, hp⟩ : ∃ ps, piecesV a0 46 = ps := ⟨_, rfl⟩
  rw [hp, hn] at hlen
  rw [hp] at hsz
  have HG := Aside0.mk hG
  have HN := Aside0.mk hn
  have HP := Aside0.mk hp
  have HS := Aside0.mk hs
  clear hG
  by_cases h3 : n = 3
  · subst h3
    obtain ⟨p0, p1, p2, p3, rfl⟩ : ∃ p0 p1 p2 p3, ps = [p0, p1, p2, p3] := by
      match ps, hlen with
      | [p0, p1, p2, p3], _ => exact ⟨p0, p1, p2, p3, rfl⟩
    have hp0 : p0.size ≤ 281474976710656 := by have := hsz p0 (by simp); omega
    have hp1 : p1.size ≤ 281474976710656 := by have := hsz p1 (by simp); omega
    have hp2 : p2.size ≤ 281474976710656 := by have := hsz p2 (by simp); omega
    have hp3 : p3.size ≤ 281474976710656 := by have := hsz p3 (by simp); omega
    have HZ0 := Aside0.mk hp0
    have HZ1 := Aside0.mk hp1
    have HZ2 := Aside0.mk hp2
    have HZ3 := Aside0.mk hp3
    simp only [partV, hp, List.getD_cons_zero, List.getD_cons_succ] at hr
    rw [hn] at hr
    simp only [true_and] at hr
    have HR := Aside0.mk hr
    clear hp0 hp1 hp2 hp3 hn hp hs hr hsz hlen
    go_enter Tryd.func24, Tryd.ntmps24
    go_wp2_with (go_at_call 45; refine (split_any a0 46 HS.out _ (HG.out.below (by with_reducible repeat (first | exact Below.refl _ _ | apply below_alloc | apply below_drew1))) 3 HN.out [p0, p1, p2, p3] HP.out).mono ?_; rintro e w1 ⟨rfl, rfl⟩)
    go_loopw [17] (fun i wr => ∃ k : Nat, k ≤ 4 ∧ i = .int .i64 k ∧ prsAt w.heap.size p0 p1 p2 p3 (upTo 4 k 0 (atoiV p0.data.toList)) (upTo 4 k 1 (atoiV p1.data.toList)) (upTo 4 k 2 (atoiV p2.data.toList)) (upTo 4 k 3 (atoiV p3.data.toList)) w wr) (fun i _ => 4 - (intOf i).toNat)
    case atStart => exact ⟨0, Nat.zero_le _, rfl, by refine blk_alloc (blk_alloc (blk_new _ _) _) _, by simpa [upTo] using blk_alloc (blk_new (w.alloc _) _) _, by simpa using blk_new ((w.alloc _).alloc _) _, by with_reducible repeat (first | exact Below.refl _ _ | apply below_alloc | apply below_drew1)⟩
    case round =>
      obtain ⟨k, hk, rfl, hN0, hN1, hN2, hbx⟩ := hrel
      have HB := Aside0.mk hbx
      have HM := hbx.size
      clear hbx
      rcases (show k = 0 ∨ k = 1 ∨ k = 2 ∨ k = 3 ∨ k = 4 from by omega) with rfl | rfl | rfl | rfl | rfl
      · replace hN1 : wr.heap[w.heap.size + 1]? = some (.cells #[.int .i64 0, .int .i64 0, .int .i64 0, .int .i64 0] 56 (0, 0)) := hN1
        have H0 := Aside0.mk hN0
        have H1 := Aside0.mk hN1
        have H2 := Aside0.mk hN2
        have c2 : wr.cell? ⟨w.heap.size + 1 + 1, 0, none⟩ = some (.string p0) := (blk_cell hN2 0).trans rfl
        clear hN0 hN1 hN2
        go_wp2_with (go_at_call 46; refine (atoi_any p0 HZ0.out _ (HG.out.below HB.out)).mono ?_; rintro e w2 ⟨v, rfl, hb⟩; have HB2 := Aside0.mk hb; clear hb; have c1 : w2.cell? ⟨w.heap.size + 1, 0, none⟩ = some (.int .i64 0) := (blk_cell (blk_below H1.out HB2.out) 0).trans rfl; have f1 : w2.frozen? ⟨w.heap.size + 1, 0, none⟩ = false := blk_frozen (blk_below H1.out HB2.out) 0)
        go_roundw
        case rel => exact ⟨1, by omega, by first | rfl | go_num, blk_far (blk_below H0.out HB2.out) (by show ¬ w.heap.size = w.heap.size + 1; omega) _, blk_put (blk_below H1.out HB2.out) 0 _ rfl, blk_far (blk_below H2.out HB2.out) (by show ¬ w.heap.size + 1 + 1 = w.heap.size + 1; omega) _, below_set (below_step HB.out HB2.out) (by omega)⟩
        case measure => simp [intOf]
      · replace hN1 : wr.heap[w.heap.size + 1]? = some (.cells #[.int .i64 (atoiV p0.data.toList), .int .i64 0, .int .i64 0, .int .i64 0] 56 (0, 0)) := hN1
        have H0 := Aside0.mk hN0
        have H1 := Aside0.mk hN1
        have H2 := Aside0.mk hN2
        have c2 : wr.cell? ⟨w.heap.size + 1 + 1, 1, none⟩ = some (.string p1) := (blk_cell hN2 1).trans rfl
        clear hN0 hN1 hN2
        go_wp2_with (go_at_call 46; refine (atoi_any p1 HZ1.out _ (HG.out.below HB.out)).mono ?_; rintro e w2 ⟨v, rfl, hb⟩; have HB2 := Aside0.mk hb; clear hb; have c1 : w2.cell? ⟨w.heap.size + 1, 1, none⟩ = some (.int .i64 0) := (blk_cell (blk_below H1.out HB2.out) 1).trans rfl; have f1 : w2.frozen? ⟨w.heap.size + 1, 1, none⟩ = false := blk_frozen (blk_below H1.out HB2.out) 1)
        go_roundw
        case rel => exact ⟨2, by omega, by first | rfl | go_num, blk_far (blk_below H0.out HB2.out) (by show ¬ w.heap.size = w.heap.size + 1; omega) _, blk_put (blk_below H1.out HB2.out) 1 _ rfl, blk_far (blk_below H2.out HB2.out) (by show ¬ w.heap.size + 1 + 1 = w.heap.size + 1; omega) _, below_set (below_step HB.out HB2.out) (by omega)⟩
        case measure => simp [intOf]
      · replace hN1 : wr.heap[w.heap.size + 1]? = some (.cells #[.int .i64 (atoiV p0.data.toList), .int .i64 (atoiV p1.data.toList), .int .i64 0, .int .i64 0] 56 (0, 0)) := hN1
        have H0 := Aside0.mk hN0
        have H1 := Aside0.mk hN1
        have H2 := Aside0.mk hN2
        have c2 : wr.cell? ⟨w.heap.size + 1 + 1, 2, none⟩ = some (.string p2) := (blk_cell hN2 2).trans rfl
        clear hN0 hN1 hN2
        go_wp2_with (go_at_call 46; refine (atoi_any p2 HZ2.out _ (HG.out.below HB.out)).mono ?_; rintro e w2 ⟨v, rfl, hb⟩; have HB2 := Aside0.mk hb; clear hb; have c1 : w2.cell? ⟨w.heap.size + 1, 2, none⟩ = some (.int .i64 0) := (blk_cell (blk_below H1.out HB2.out) 2).trans rfl; have f1 : w2.frozen? ⟨w.heap.size + 1, 2, none⟩ = false := blk_frozen (blk_below H1.out HB2.out) 2)
        go_roundw
        case rel => exact ⟨3, by omega, by first | rfl | go_num, blk_far (blk_below H0.out HB2.out) (by show ¬ w.heap.size = w.heap.size + 1; omega) _, blk_put (blk_below H1.out HB2.out) 2 _ rfl, blk_far (blk_below H2.out HB2.out) (by show ¬ w.heap.size + 1 + 1 = w.heap.size + 1; omega) _, below_set (below_step HB.out HB2.out) (by omega)⟩
        case measure => simp [intOf]
      · replace hN1 : wr.heap[w.heap.size + 1]? = some (.cells #[.int .i64 (atoiV p0.data.toList), .int .i64 (atoiV p1.data.toList), .int .i64 (atoiV p2.data.toList), .int .i64 0] 56 (0, 0)) := hN1
        have H0 := Aside0.mk hN0
        have H1 := Aside0.mk hN1
        have H2 := Aside0.mk hN2
        have c2 : wr.cell? ⟨w.heap.size + 1 + 1, 3, none⟩ = some (.string p3) := (blk_cell hN2 3).trans rfl
        clear hN0 hN1 hN2
        go_wp2_with (go_at_call 46; refine (atoi_any p3 HZ3.out _ (HG.out.below HB.out)).mono ?_; rintro e w2 ⟨v, rfl, hb⟩; have HB2 := Aside0.mk hb; clear hb; have c1 : w2.cell? ⟨w.heap.size + 1, 3, none⟩ = some (.int .i64 0) := (blk_cell (blk_below H1.out HB2.out) 3).trans rfl; have f1 : w2.frozen? ⟨w.heap.size + 1, 3, none⟩ = false := blk_frozen (blk_below H1.out HB2.out) 3)
        go_roundw
        case rel => exact ⟨4, by omega, by first | rfl | go_num, blk_far (blk_below H0.out HB2.out) (by show ¬ w.heap.size = w.heap.size + 1; omega) _, blk_put (blk_below H1.out HB2.out) 3 _ rfl, blk_far (blk_below H2.out HB2.out) (by show ¬ w.heap.size + 1 + 1 = w.heap.size + 1; omega) _, below_set (below_step HB.out HB2.out) (by omega)⟩
        case measure => simp [intOf]
      · replace hN1 : wr.heap[w.heap.size + 1]? = some (.cells #[.int .i64 (atoiV p0.data.toList), .int .i64 (atoiV p1.data.toList), .int .i64 (atoiV p2.data.toList), .int .i64 (atoiV p3.data.toList)] 56 (0, 0)) := hN1
        obtain ⟨n0, h0⟩ : ∃ x, (atoiV p0.data.toList) = x := ⟨_, rfl⟩
        obtain ⟨n1, h1⟩ : ∃ x, (atoiV p1.data.toList) = x := ⟨_, rfl⟩
        obtain ⟨n2, h2⟩ : ∃ x, (atoiV p2.data.toList) = x := ⟨_, rfl⟩
        obtain ⟨n3, h3⟩ : ∃ x, (atoiV p3.data.toList) = x := ⟨_, rfl⟩
        have hr := HR.out
        rw [h0, h1, h2, h3] at hN1 hr
        clear h0 h1 h2 h3 HR
        have H0 := Aside0.mk hN0
        have c0 : wr.cell? ⟨w.heap.size + 1, 0, none⟩ = some (.int .i64 n0) := (blk_cell hN1 0).trans rfl
        have c1 : wr.cell? ⟨w.heap.size + 1, 1, none⟩ = some (.int .i64 n1) := (blk_cell hN1 1).trans rfl
        have c2 : wr.cell? ⟨w.heap.size + 1, 2, none⟩ = some (.int .i64 n2) := (blk_cell hN1 2).trans rfl
        have c3 : wr.cell? ⟨w.heap.size + 1, 3, none⟩ = some (.int .i64 n3) := (blk_cell hN1 3).trans rfl
        have hck := label_Parse.chk n0 n1 n2 n3
        clear hN0 hN1 hN2
        by_cases hok : labOk n0 n1 n2 n3 = true
        · rw [if_pos hok] at hck
          have hfit : fits64 n0 ∧ fits64 n1 ∧ fits64 n2 ∧ fits64 n3 := by
            unfold labOk at hok
            simp only [Bool.and_eq_true, decide_eq_true_eq] at hok
            unfold fits64
            omega
          have htx : label_Text.f n0 n1 n2 n3 = some (textV n0 n1 n2 n3) := by
            unfold label_Text.f
            rw [if_pos hfit]
          obtain ⟨t, ht⟩ : ∃ t, textV n0 n1 n2 n3 = t := ⟨_, rfl⟩
          rw [ht] at htx hr
          simp only [hok, true_and] at hr
          have HCK := Aside0.mk hck
          have HTX := Aside0.mk htx
          clear hck htx hfit hok ht
          by_cases he : t.toList = a0.toList
          · rw [if_pos he] at hr
            have HR := Aside0.mk hr
            have e1 : (t.toList == a0.toList) = true := beq_iff_eq.2 he
            have e2 : (t.toList != a0.toList) = false := bne_eq_false_iff_eq.2 he
            clear hr he
            go_wp2_with (first | (go_at_call 21; refine (label_Check.calls n0 n1 n2 n3 _ _ HCK.out).mono ?_; rintro e w4 ⟨rfl, hb4⟩; have HB4 := Aside0.mk hb4; clear hb4; have d0 : w4.cell? ⟨wr.heap.size, 0, none⟩ = some (.int .i64 n0) := (blk_cell (blk_below (blk_new wr (.cells #[.int .i64 n0, .int .i64 n1, .int .i64 n2, .int .i64 n3] 23)) HB4.out) 0).trans rfl; have d1 : w4.cell? ⟨wr.heap.size, 1, none⟩ = some (.int .i64 n1) := (blk_cell (blk_below (blk_new wr (.cells #[.int .i64 n0, .int .i64 n1, .int .i64 n2, .int .i64 n3] 23)) HB4.out) 1).trans rfl; have d2 : w4.cell? ⟨wr.heap.size, 2, none⟩ = some (.int .i64 n2) := (blk_cell (blk_below (blk_new wr (.cells #[.int .i64 n0, .int .i64 n1, .int .i64 n2, .int .i64 n3] 23)) HB4.out) 2).trans rfl; have d3 : w4.cell? ⟨wr.heap.size, 3, none⟩ = some (.int .i64 n3) := (blk_cell (blk_below (blk_new wr (.cells #[.int .i64 n0, .int .i64 n1, .int .i64 n2, .int .i64 n3] 23)) HB4.out) 3).trans rfl; have g0 : w4.cell? ⟨w.heap.size, 0, none⟩ = some (.int .i64 0) := (blk_cell (blk_below (blk_alloc H0.out _) HB4.out) 0).trans rfl; have g1 : w4.cell? ⟨w.heap.size, 1, none⟩ = some (.int .i64 0) := (blk_cell (blk_below (blk_alloc H0.out _) HB4.out) 1).trans rfl; have g2 : w4.cell? ⟨w.heap.size, 2, none⟩ = some (.int .i64 0) := (blk_cell (blk_below (blk_alloc H0.out _) HB4.out) 2).trans rfl; have g3 : w4.cell? ⟨w.heap.size, 3, none⟩ = some (.int .i64 0) := (blk_cell (blk_below (blk_alloc H0.out _) HB4.out) 3).trans rfl; have k0 : w4.frozen? ⟨w.heap.size, 0, none⟩ = false := blk_frozen (blk_below (blk_alloc H0.out _) HB4.out) 0; have k1 : w4.frozen? ⟨w.heap.size, 1, none⟩ = false := blk_frozen (blk_below (blk_alloc H0.out _) HB4.out) 1; have k2 : w4.frozen? ⟨w.heap.size, 2, none⟩ = false := blk_frozen (blk_below (blk_alloc H0.out _) HB4.out) 2; have k3 : w4.frozen? ⟨w.heap.size, 3, none⟩ = false := blk_frozen (blk_below (blk_alloc H0.out _) HB4.out) 3) | (go_at_call 23; refine (label_Text.calls n0 n1 n2 n3 _ _ (HG.out.base.below (below_step (below_alloc HB.out _) HB4.out)) HTX.out).mono ?_; rintro e w5 ⟨rfl, hb5⟩; have HB5 := Aside0.mk hb5; clear hb5; have d0 : w5.cell? ⟨wr.heap.size, 0, none⟩ = some (.int .i64 n0) := (blk_cell (blk_below (blk_below (blk_new wr (.cells #[.int .i64 n0, .int .i64 n1, .int .i64 n2, .int .i64 n3] 23)) HB4.out) HB5.out) 0).trans rfl; have d1 : w5.cell? ⟨wr.heap.size, 1, none⟩ = some (.int .i64 n1) := (blk_cell (blk_below (blk_below (blk_new wr (.cells #[.int .i64 n0, .int .i64 n1, .int .i64 n2, .int .i64 n3] 23)) HB4.out) HB5.out) 1).trans rfl; have d2 : w5.cell? ⟨wr.heap.size, 2, none⟩ = some (.int .i64 n2) := (blk_cell (blk_below (blk_below (blk_new wr (.cells #[.int .i64 n0, .int .i64 n1, .int .i64 n2, .int .i64 n3] 23)) HB4.out) HB5.out) 2).trans rfl; have d3 : w5.cell? ⟨wr.heap.size, 3, none⟩ = some (.int .i64 n3) := (blk_cell (blk_below (blk_below (blk_new wr (.cells #[.int .i64 n0, .int .i64 n1, .int .i64 n2, .int .i64 n3] 23)) HB4.out) HB5.out) 3).trans rfl; have g0 : w5.cell? ⟨w.heap.size, 0, none⟩ = some (.int .i64 0) := (blk_cell (blk_below (blk_below (blk_alloc H0.out _) HB4.out) HB5.out) 0).trans rfl; have g1 : w5.cell? ⟨w.heap.size, 1, none⟩ = some (.int .i64 0) := (blk_cell (blk_below (blk_below (blk_alloc H0.out _) HB4.out) HB5.out) 1).trans rfl; have g2 : w5.cell? ⟨w.heap.size, 2, none⟩ = some (.int .i64 0) := (blk_cell (blk_below (blk_below (blk_alloc H0.out _) HB4.out) HB5.out) 2).trans rfl; have g3 : w5.cell? ⟨w.heap.size, 3, none⟩ = some (.int .i64 0) := (blk_cell (blk_below (blk_below (blk_alloc H0.out _) HB4.out) HB5.out) 3).trans rfl; have k0 : w5.frozen? ⟨w.heap.size, 0, none⟩ = false := blk_frozen (blk_below (blk_below (blk_alloc H0.out _) HB4.out) HB5.out) 0; have k1 : w5.frozen? ⟨w.heap.size, 1, none⟩ = false := blk_frozen (blk_below (blk_below (blk_alloc H0.out _) HB4.out) HB5.out) 1; have k2 : w5.frozen? ⟨w.heap.size, 2, none⟩ = false := blk_frozen (blk_below (blk_below (blk_alloc H0.out _) HB4.out) HB5.out) 2; have k3 : w5.frozen? ⟨w.heap.size, 3, none⟩ = false := blk_frozen (blk_below (blk_below (blk_alloc H0.out _) HB4.out) HB5.out) 3))
            have hf := blk_below (blk_below (blk_alloc H0.out _) HB4.out) HB5.out
            refine bodyPost_ret (results_ct rfl _ _ w.heap.size 23 #[.int .i64 n0, .int .i64 n1, .int .i64 n2, .int .i64 n3] (0, 0) _ rfl (by refine blk_put (cs := #[.int .i64 n0, .int .i64 n1, .int .i64 n2, .int .i64 0]) ?_ 3 _ rfl; refine blk_put (cs := #[.int .i64 n0, .int .i64 n1, .int .i64 0, .int .i64 0]) ?_ 2 _ rfl; refine blk_put (cs := #[.int .i64 n0, .int .i64 0, .int .i64 0, .int .i64 0]) ?_ 1 _ rfl; exact blk_put hf 0 _ rfl) Tryd.underlying23 rfl (by kernel_rfl)) rfl ?_
            have hq := HR.out
            simp only [Prod.mk.injEq] at hq
            obtain ⟨rfl, rfl, rfl, rfl, rfl⟩ := hq
            exact ⟨rfl, below_set (below_set (below_set (below_set (below_step (below_step (below_alloc HB.out _) HB4.out) HB5.out) (Nat.le_refl _)) (Nat.le_refl _)) (Nat.le_refl _)) (Nat.le_refl _)⟩
          · rw [if_neg he] at hr
            have HR := Aside0.mk hr
            have e1 : (t.toList == a0.toList) = false := beq_eq_false_iff_ne.2 he
            have e2 : (t.toList != a0.toList) = true := by rw [bne, e1]; rfl
            clear hr he
            go_wp2_with (first | (go_at_call 21; refine (label_Check.calls n0 n1 n2 n3 _ _ HCK.out).mono ?_; rintro e w4 ⟨rfl, hb4⟩; have HB4 := Aside0.mk hb4; clear hb4; have d0 : w4.cell? ⟨wr.heap.size, 0, none⟩ = some (.int .i64 n0) := (blk_cell (blk_below (blk_new wr (.cells #[.int .i64 n0, .int .i64 n1, .int .i64 n2, .int .i64 n3] 23)) HB4.out) 0).trans rfl; have d1 : w4.cell? ⟨wr.heap.size, 1, none⟩ = some (.int .i64 n1) := (blk_cell (blk_below (blk_new wr (.cells #[.int .i64 n0, .int .i64 n1, .int .i64 n2, .int .i64 n3] 23)) HB4.out) 1).trans rfl; have d2 : w4.cell? ⟨wr.heap.size, 2, none⟩ = some (.int .i64 n2) := (blk_cell (blk_below (blk_new wr (.cells #[.int .i64 n0, .int .i64 n1, .int .i64 n2, .int .i64 n3] 23)) HB4.out) 2).trans rfl; have d3 : w4.cell? ⟨wr.heap.size, 3, none⟩ = some (.int .i64 n3) := (blk_cell (blk_below (blk_new wr (.cells #[.int .i64 n0, .int .i64 n1, .int .i64 n2, .int .i64 n3] 23)) HB4.out) 3).trans rfl; have g0 : w4.cell? ⟨w.heap.size, 0, none⟩ = some (.int .i64 0) := (blk_cell (blk_below (blk_alloc H0.out _) HB4.out) 0).trans rfl; have g1 : w4.cell? ⟨w.heap.size, 1, none⟩ = some (.int .i64 0) := (blk_cell (blk_below (blk_alloc H0.out _) HB4.out) 1).trans rfl; have g2 : w4.cell? ⟨w.heap.size, 2, none⟩ = some (.int .i64 0) := (blk_cell (blk_below (blk_alloc H0.out _) HB4.out) 2).trans rfl; have g3 : w4.cell? ⟨w.heap.size, 3, none⟩ = some (.int .i64 0) := (blk_cell (blk_below (blk_alloc H0.out _) HB4.out) 3).trans rfl; have k0 : w4.frozen? ⟨w.heap.size, 0, none⟩ = false := blk_frozen (blk_below (blk_alloc H0.out _) HB4.out) 0; have k1 : w4.frozen? ⟨w.heap.size, 1, none⟩ = false := blk_frozen (blk_below (blk_alloc H0.out _) HB4.out) 1; have k2 : w4.frozen? ⟨w.heap.size, 2, none⟩ = false := blk_frozen (blk_below (blk_alloc H0.out _) HB4.out) 2; have k3 : w4.frozen? ⟨w.heap.size, 3, none⟩ = false := blk_frozen (blk_below (blk_alloc H0.out _) HB4.out) 3) | (go_at_call 23; refine (label_Text.calls n0 n1 n2 n3 _ _ (HG.out.base.below (below_step (below_alloc HB.out _) HB4.out)) HTX.out).mono ?_; rintro e w5 ⟨rfl, hb5⟩; have HB5 := Aside0.mk hb5; clear hb5; have d0 : w5.cell? ⟨wr.heap.size, 0, none⟩ = some (.int .i64 n0) := (blk_cell (blk_below (blk_below (blk_new wr (.cells #[.int .i64 n0, .int .i64 n1, .int .i64 n2, .int .i64 n3] 23)) HB4.out) HB5.out) 0).trans rfl; have d1 : w5.cell? ⟨wr.heap.size, 1, none⟩ = some (.int .i64 n1) := (blk_cell (blk_below (blk_below (blk_new wr (.cells #[.int .i64 n0, .int .i64 n1, .int .i64 n2, .int .i64 n3] 23)) HB4.out) HB5.out) 1).trans rfl; have d2 : w5.cell? ⟨wr.heap.size, 2, none⟩ = some (.int .i64 n2) := (blk_cell (blk_below (blk_below (blk_new wr (.cells #[.int .i64 n0, .int .i64 n1, .int .i64 n2, .int .i64 n3] 23)) HB4.out) HB5.out) 2).trans rfl; have d3 : w5.cell? ⟨wr.heap.size, 3, none⟩ = some (.int .i64 n3) := (blk_cell (blk_below (blk_below (blk_new wr (.cells #[.int .i64 n0, .int .i64 n1, .int .i64 n2, .int .i64 n3] 23)) HB4.out) HB5.out) 3).trans rfl; have g0 : w5.cell? ⟨w.heap.size, 0, none⟩ = some (.int .i64 0) := (blk_cell (blk_below (blk_below (blk_alloc H0.out _) HB4.out) HB5.out) 0).trans rfl; have g1 : w5.cell? ⟨w.heap.size, 1, none⟩ = some (.int .i64 0) := (blk_cell (blk_below (blk_below (blk_alloc H0.out _) HB4.out) HB5.out) 1).trans rfl; have g2 : w5.cell? ⟨w.heap.size, 2, none⟩ = some (.int .i64 0) := (blk_cell (blk_below (blk_below (blk_alloc H0.out _) HB4.out) HB5.out) 2).trans rfl; have g3 : w5.cell? ⟨w.heap.size, 3, none⟩ = some (.int .i64 0) := (blk_cell (blk_below (blk_below (blk_alloc H0.out _) HB4.out) HB5.out) 3).trans rfl; have k0 : w5.frozen? ⟨w.heap.size, 0, none⟩ = false := blk_frozen (blk_below (blk_below (blk_alloc H0.out _) HB4.out) HB5.out) 0; have k1 : w5.frozen? ⟨w.heap.size, 1, none⟩ = false := blk_frozen (blk_below (blk_below (blk_alloc H0.out _) HB4.out) HB5.out) 1; have k2 : w5.frozen? ⟨w.heap.size, 2, none⟩ = false := blk_frozen (blk_below (blk_below (blk_alloc H0.out _) HB4.out) HB5.out) 2; have k3 : w5.frozen? ⟨w.heap.size, 3, none⟩ = false := blk_frozen (blk_below (blk_below (blk_alloc H0.out _) HB4.out) HB5.out) 3))
            have hf := blk_below (blk_below (blk_alloc H0.out _) HB4.out) HB5.out
            refine bodyPost_ret (results_ct rfl _ _ w.heap.size 23 #[.int .i64 0, .int .i64 0, .int .i64 0, .int .i64 0] (0, 0) _ rfl (by refine blk_put (cs := #[.int .i64 0, .int .i64 0, .int .i64 0, .int .i64 0]) ?_ 3 _ rfl; refine blk_put (cs := #[.int .i64 0, .int .i64 0, .int .i64 0, .int .i64 0]) ?_ 2 _ rfl; refine blk_put (cs := #[.int .i64 0, .int .i64 0, .int .i64 0, .int .i64 0]) ?_ 1 _ rfl; exact blk_put hf 0 _ rfl) Tryd.underlying23 rfl (by kernel_rfl)) rfl ?_
            have hq := HR.out
            simp only [Prod.mk.injEq] at hq
            obtain ⟨rfl, rfl, rfl, rfl, rfl⟩ := hq
            exact ⟨rfl, below_set (below_set (below_set (below_set (below_step (below_step (below_alloc HB.out _) HB4.out) HB5.out) (Nat.le_refl _)) (Nat.le_refl _)) (Nat.le_refl _)) (Nat.le_refl _)⟩
        · rw [if_neg hok] at hck
          rw [if_neg (fun h => hok h.1)] at hr
          have HR := Aside0.mk hr
          have HCK := Aside0.mk hck
          clear hr hck hok
          go_wp2_with (go_at_call 21; refine (label_Check.calls n0 n1 n2 n3 _ _ HCK.out).mono ?_; rintro e w4 ⟨rfl, hb4⟩; have HB4 := Aside0.mk hb4; clear hb4; have d0 : w4.cell? ⟨wr.heap.size, 0, none⟩ = some (.int .i64 n0) := (blk_cell (blk_below (blk_new wr (.cells #[.int .i64 n0, .int .i64 n1, .int .i64 n2, .int .i64 n3] 23)) HB4.out) 0).trans rfl; have d1 : w4.cell? ⟨wr.heap.size, 1, none⟩ = some (.int .i64 n1) := (blk_cell (blk_below (blk_new wr (.cells #[.int .i64 n0, .int .i64 n1, .int .i64 n2, .int .i64 n3] 23)) HB4.out) 1).trans rfl; have d2 : w4.cell? ⟨wr.heap.size, 2, none⟩ = some (.int .i64 n2) := (blk_cell (blk_below (blk_new wr (.cells #[.int .i64 n0, .int .i64 n1, .int .i64 n2, .int .i64 n3] 23)) HB4.out) 2).trans rfl; have d3 : w4.cell? ⟨wr.heap.size, 3, none⟩ = some (.int .i64 n3) := (blk_cell (blk_below (blk_new wr (.cells #[.int .i64 n0, .int .i64 n1, .int .i64 n2, .int .i64 n3] 23)) HB4.out) 3).trans rfl; have g0 : w4.cell? ⟨w.heap.size, 0, none⟩ = some (.int .i64 0) := (blk_cell (blk_below (blk_alloc H0.out _) HB4.out) 0).trans rfl; have g1 : w4.cell? ⟨w.heap.size, 1, none⟩ = some (.int .i64 0) := (blk_cell (blk_below (blk_alloc H0.out _) HB4.out) 1).trans rfl; have g2 : w4.cell? ⟨w.heap.size, 2, none⟩ = some (.int .i64 0) := (blk_cell (blk_below (blk_alloc H0.out _) HB4.out) 2).trans rfl; have g3 : w4.cell? ⟨w.heap.size, 3, none⟩ = some (.int .i64 0) := (blk_cell (blk_below (blk_alloc H0.out _) HB4.out) 3).trans rfl; have k0 : w4.frozen? ⟨w.heap.size, 0, none⟩ = false := blk_frozen (blk_below (blk_alloc H0.out _) HB4.out) 0; have k1 : w4.frozen? ⟨w.heap.size, 1, none⟩ = false := blk_frozen (blk_below (blk_alloc H0.out _) HB4.out) 1; have k2 : w4.frozen? ⟨w.heap.size, 2, none⟩ = false := blk_frozen (blk_below (blk_alloc H0.out _) HB4.out) 2; have k3 : w4.frozen? ⟨w.heap.size, 3, none⟩ = false := blk_frozen (blk_below (blk_alloc H0.out _) HB4.out) 3)
          have hf := blk_below (blk_alloc H0.out _) HB4.out
          refine bodyPost_ret (results_ct rfl _ _ w.heap.size 23 #[.int .i64 0, .int .i64 0, .int .i64 0, .int .i64 0] (0, 0) _ rfl (by refine blk_put (cs := #[.int .i64 0, .int .i64 0, .int .i64 0, .int .i64 0]) ?_ 3 _ rfl; refine blk_put (cs := #[.int .i64 0, .int .i64 0, .int .i64 0, .int .i64 0]) ?_ 2 _ rfl; refine blk_put (cs := #[.int .i64 0, .int .i64 0, .int .i64 0, .int .i64 0]) ?_ 1 _ rfl; exact blk_put hf 0 _ rfl) Tryd.underlying23 rfl (by kernel_rfl)) rfl ?_
          have hq := HR.out
          simp only [Prod.mk.injEq] at hq
          obtain ⟨rfl, rfl, rfl, rfl, rfl⟩ := hq
          exact ⟨rfl, below_set (below_set (below_set (below_set (below_step (below_alloc HB.out _) HB4.out) (Nat.le_refl _)) (Nat.le_refl _)) (Nat.le_refl _)) (Nat.le_refl _)⟩
  · rw [hn, if_neg (fun h => h3 h.1)] at hr
    have HR := Aside0.mk hr
    clear hn hp hs hr hsz hlen
    have t1 : ((n : Int) + 1 == 4) = false := by rw [beq_eq_false_iff_ne]; omega
    have t2 : ((n : Int) + 1 != 4) = true := by rw [bne, t1]; rfl
    have t3 : (((n + 1 : Nat) : Int) == 4) = false := by rw [beq_eq_false_iff_ne]; omega
    have t4 : (((n + 1 : Nat) : Int) != 4) = true := by rw [bne, t3]; rfl
    clear h3
    go_enter Tryd.func24, Tryd.ntmps24
    go_wp2_with (go_at_call 45; refine (split_any a0 46 HS.out _ (HG.out.below (by with_reducible repeat (first | exact Below.refl _ _ | apply below_alloc | apply below_drew1))) n HN.out ps HP.out).mono ?_; rintro e w1 ⟨rfl, rfl⟩)
    refine bodyPost_ret (results_ct rfl _ _ w.heap.size 23 #[.int .i64 0, .int .i64 0, .int .i64 0, .int .i64 0] (0, 0) _ rfl (blk_alloc (blk_alloc (blk_new _ _) _) _) Tryd.underlying23 rfl (by kernel_rfl)) rfl ?_
    have hq := HR.out
    simp only [Prod.mk.injEq] at hq
    obtain ⟨rfl, rfl, rfl, rfl, rfl⟩ := hq
    exact ⟨rfl, by with_reducible repeat (first | exact Below.refl _ _ | apply below_alloc | apply below_drew1)⟩

end Go.Proofs.YtnepinkookbanaaDoor.X
