/- Written by a program of this session over the kit's print: YtophnhmlknbmeaaDoorF13. -/
import Derived.Test.YtophnhmlknbmeaaDoorH
import Derived.Test.YtophnhmlknbmeaaDoorF25
import Derived.Test.YtophnhmlknbmeaaDoorMaxAt
import Derived.Test.YtophnhmlknbmeaaDoorShelf
import Derived.Lib.SplitLaws
import Derived.Lib.SmallJoins
import Derived.WalkKit
import Derived.BigCall
namespace Go.Proofs.YtophnhmlknbmeaaDoor.X
open Go.RowKit Go.Proofs.YtophnhmlknbmeaaDoorW.PrintWords Go.Proofs.YtophnhmlknbmeaaDoorW.PrintLast Go.Proofs.YtophnhmlknbmeaaDoorW.PrintMore Go.Proofs.YtophnhmlknbmeaaDoor.More
attribute [local go_sem] max2_int min2_int max_two min_two max_three min_three max_four min_four binOp_string_leq binOp_string_gtr   -- for this text's walks alone
set_option linter.unusedVariables false
set_option linter.unusedSimpArgs false

/-! ### path_Check: function 13 -/
/-- The pieces of a text between one sign. -/
def piecesV (s : ByteArray) (c : UInt8) : List ByteArray := Lib.splitB ⟨#[c]⟩ 0 (Lib.countB s ⟨#[c]⟩) s
theorem piecesV_length (s : ByteArray) (c : UInt8) : (piecesV s c).length = Lib.countB s ⟨#[c]⟩ + 1 := Lib.splitB_all ⟨#[c]⟩ (by show 1 ≤ 1; omega) 0 _ s rfl
theorem split_any (s : ByteArray) (c : UInt8) (hs : s.size < 4294967281) (w : World) (hG : MaxAt w) (n : Nat) (hn : Lib.countB s ⟨#[c]⟩ = n) (ps : List ByteArray) (hp : piecesV s c = ps) :
    Calls Tryd.prog 24 #[.string s, .string ⟨#[c]⟩] w fun e w' => e = .returned (.slice (some ⟨w.heap.size, 0, none⟩) (n + 1) (n + 1)) ∧ w' = w.alloc (.cells (ps.map Value.string).toArray 9) := by
  obtain ⟨m, hm⟩ := hG
  subst hn
  subst hp
  exact Tryd.strings_Split s ⟨#[c]⟩ m w hs hm (by show 1 ≤ 1; omega)
/-- What path.Check tells. -/
def pathV (s : ByteArray) : Int := if 78 < s.size then 5 else if s.toList = [47] then 0 else match piecesV s 47 with
  | [] => 1
  | p :: ps => if p.toList = [] ∧ 1 ≤ ps.length ∧ ps.length ≤ 6 then (if ps.all okName = true then 0 else 1) else 1
def path_Check.f (a0 : ByteArray) : Option Int := some (pathV a0)
theorem path_Check.cell (p : ByteArray) (ps : List ByteArray) (j : Nat) (hj : j < ps.length) (W : World) (N : Nat) (t : TypeId) (h : W.heap[N]? = some (.cells ((p :: ps).map Value.string).toArray t (0, 0))) :
    W.cell? ⟨N, 1 + j, none⟩ = some (.string (ps.getD j ByteArray.empty)) := by
  rw [Nat.add_comm 1 j]
  refine (blk_cell h (j + 1)).trans ?_
  simp [hj]
theorem path_Check.all_take (ps : List ByteArray) (h : ∀ j : Nat, j < ps.length → okName (ps.getD j ByteArray.empty) = true) : ps.all okName = true := by
  rw [List.all_eq_true]
  intro x hx
  obtain ⟨j, hj, rfl⟩ := List.mem_iff_getElem.1 hx
  have := h j hj
  rwa [List.getD_eq_getElem?_getD, List.getElem?_eq_getElem hj, Option.getD_some] at this
theorem path_Check.all_bad (ps : List ByteArray) (j : Nat) (hj : j < ps.length) (h : okName (ps.getD j ByteArray.empty) = false) : ps.all okName = false := by
  rw [Bool.eq_false_iff]
  intro ha
  rw [List.all_eq_true] at ha
  have := ha _ (List.getElem_mem hj)
  rw [List.getD_eq_getElem?_getD, List.getElem?_eq_getElem hj, Option.getD_some, this] at h
  exact absurd h (by simp)
set_option maxRecDepth 100000 in
set_option maxHeartbeats 8000000 in
theorem path_Check.calls (a0 : ByteArray) (r : Int) (w : World) (hG : MaxAt w) (h : path_Check.f a0 = some r) :
    Calls Tryd.prog 13 #[.string a0] w fun e w' => e = .returned (.int .i64 r) ∧ Below w.heap.size w w' := by
  have hr : pathV a0 = r := Option.some.inj h
  clear h
  unfold pathV at hr
  by_cases h1 : 78 < a0.size
  · rw [if_pos h1] at hr
    subst hr
    have h1' : (78 : Int) < (a0.size : Int) := by omega
    have HG := Aside0.mk hG
    clear hG
    go_enter Tryd.func13, Tryd.ntmps13
    go_wp2_with fail
    go_ret
    exact ⟨rfl, Below.refl _ _⟩
  · rw [if_neg h1] at hr
    have h1' : ¬ (78 : Int) < (a0.size : Int) := by omega
    by_cases h2 : a0.toList = [47]
    · rw [if_pos h2] at hr
      subst hr
      have q0 : (a0.toList == [47]) = true := beq_iff_eq.mpr h2
      have HG := Aside0.mk hG
      clear hG h2
      go_enter Tryd.func13, Tryd.ntmps13
      go_wp2_with fail
      go_ret
      exact ⟨rfl, Below.refl _ _⟩
    · rw [if_neg h2] at hr
      have q0 : (a0.toList == [47]) = false := beq_eq_false_iff_ne.mpr h2
      have hs : a0.size < 4294967281 := by omega
      have HS := Aside0.mk hs
      have HG := Aside0.mk hG
      have hlen := piecesV_length a0 47
      obtain ⟨n, hn⟩ : ∃ n, Lib.countB a0 ⟨#[47]⟩ = n := ⟨_, rfl⟩
      obtain ⟨ps, hp⟩ : ∃ ps, piecesV a0 47 = ps := ⟨_, rfl⟩
      rw [hp, hn] at hlen
      rw [hp] at hr
      have HN := Aside0.mk hn
      have HP := Aside0.mk hp
      clear hG h2 hs hn hp
      match ps, hlen, hr, HP with
      | p :: qs, hlen, hr, HP =>
        dsimp only at hr
        have hq : qs.length = n := by simpa using hlen
        subst hq
        have HF : Aside0 (qs = [] → False ∨ qs.length = 0) := ⟨fun h => .inr (by rw [h]; rfl)⟩
        by_cases hc : p.toList = [] ∧ 1 ≤ qs.length ∧ qs.length ≤ 6
        · rw [if_pos hc] at hr
          have HR := Aside0.mk hr
          obtain ⟨hc1, hc2, hc3⟩ := hc
          have g1 : 2 ≤ (qs.length : Int) + 1 := by omega
          have g2 : (qs.length : Int) + 1 ≤ 7 := by omega
          have H1 := Aside0.mk hc2
          clear hlen hr hc2 hc3
          go_enter Tryd.func13, Tryd.ntmps13
          go_wp2_with (go_at_call 24; refine (split_any a0 47 HS.out _ HG.out _ HN.out (p :: qs) HP.out).mono ?_; rintro e w1 ⟨rfl, hw⟩; have hN : w1.heap[w.heap.size]? = some (.cells ((p :: qs).map Value.string).toArray 9 (0, 0)) := (by rw [hw]; exact blk_new w _); have HNb := Aside0.mk hN; have HB : Aside0 (Below w.heap.size w w1) := ⟨by rw [hw]; exact below_alloc (Below.refl _ w) _⟩; have c0 : w1.cell? ⟨w.heap.size, 0, none⟩ = some (.string p) := (blk_cell hN 0).trans (by simp); clear hw hN)
          · exfalso
            have h9 : qs = [] := by assumption
            rw [h9] at H1
            exact absurd H1.out (by simp)
          clear g1 g2 c0
          go_loopw [30] (fun i wr => ∃ k : Nat, k ≤ qs.length ∧ i = .int .i64 k ∧ wr.heap[w.heap.size]? = some (.cells ((p :: qs).map Value.string).toArray 9 (0, 0)) ∧ Below w.heap.size w wr ∧ Aside0 (∀ j : Nat, j < k → okName (qs.getD j ByteArray.empty) = true)) (fun i _ => qs.length - (intOf i).toNat)
          case atStart => exact ⟨0, Nat.zero_le _, rfl, HNb.out, HB.out, ⟨fun j hj => absurd hj (by omega)⟩⟩
          case round =>
            obtain ⟨k, hk, rfl, hNr, hBr, HP⟩ := hrel
            rcases Nat.lt_or_ge k qs.length with hlt | hge
            · have ck := path_Check.cell p qs k hlt wr _ _ hNr
              obtain ⟨x, hx⟩ : ∃ x, qs.getD k ByteArray.empty = x := ⟨_, rfl⟩
              rw [hx] at ck
              obtain ⟨b, hb⟩ : ∃ b, okName x = b := ⟨_, rfl⟩
              have HX := Aside0.mk hx
              have HBX := Aside0.mk hb
              have HNr := Aside0.mk hNr
              have HBr := Aside0.mk hBr
              have hlt2 : (k : Int) < (qs.length : Int) := by omega
              clear hx hb hNr hBr
              cases b with
              | true =>
                go_wp2_with (go_at_call 25; refine (path_Name.calls x true _ (congrArg some HBX.out)).mono ?_; rintro e w2 ⟨rfl, hb2⟩; have HB2 := Aside0.mk hb2; clear hb2)
                go_roundw
                case rel =>
                  refine ⟨k + 1, by omega, by first | rfl | go_num, blk_below HNr.out HB2.out, below_step HBr.out HB2.out, ⟨fun j hj => ?_⟩⟩
                  rcases Nat.lt_or_ge j k with h1 | h1
                  · exact HP.out j h1
                  · obtain rfl : j = k := by omega
                    rw [HX.out]
                    exact HBX.out
                case measure => simp [intOf]; omega
              | false =>
                go_wp2_with (go_at_call 25; refine (path_Name.calls x false _ (congrArg some HBX.out)).mono ?_; rintro e w2 ⟨rfl, hb2⟩; have HB2 := Aside0.mk hb2; clear hb2)
                go_ret
                have hbad := path_Check.all_bad qs k hlt (by rw [HX.out]; exact HBX.out)
                have hq := HR.out
                rw [hbad, if_neg (by simp)] at hq
                exact ⟨by rw [← hq]; rfl, below_step HBr.out HB2.out⟩
            · obtain rfl : k = qs.length := by omega
              have hall := path_Check.all_take qs HP.out
              have hq := HR.out
              rw [if_pos hall] at hq
              subst hq
              have HBr := Aside0.mk hBr
              clear hNr hBr
              go_wp2_with fail
              go_ret
              exact ⟨rfl, HBr.out⟩
        · rw [if_neg hc] at hr
          subst hr
          clear hlen
          go_enter Tryd.func13, Tryd.ntmps13
          go_wp2_with (go_at_call 24; refine (split_any a0 47 HS.out _ HG.out _ HN.out (p :: qs) HP.out).mono ?_; rintro e w1 ⟨rfl, hw⟩; have hN : w1.heap[w.heap.size]? = some (.cells ((p :: qs).map Value.string).toArray 9 (0, 0)) := (by rw [hw]; exact blk_new w _); have HNb := Aside0.mk hN; have HB : Aside0 (Below w.heap.size w w1) := ⟨by rw [hw]; exact below_alloc (Below.refl _ w) _⟩; have c0 : w1.cell? ⟨w.heap.size, 0, none⟩ = some (.string p) := (blk_cell hN 0).trans (by simp); clear hw hN)
          all_goals first
            | (go_ret; exact ⟨rfl, HB.out⟩)
            | (exfalso; apply hc; refine ⟨by assumption, ?_, ?_⟩ <;> omega)

end Go.Proofs.YtophnhmlknbmeaaDoor.X
