/- Counts by labels: All: each label as often as it was counted, in their order. -/
import Derived.Test.YtinbhijeonghaaaQCount
import Derived.Test.YtinbhijeonghaaaQSort
namespace Go.Proofs.Ytinbhijeonghaaa.X
open Go.RowKit Go.Proofs.YtinbhijeonghaaaW.PrintWords Go.Proofs.YtinbhijeonghaaaW.PrintLast Go.Proofs.YtinbhijeonghaaaW.PrintMore Go.Proofs.Ytinbhijeonghaaa.More
set_option linter.unusedVariables false
set_option linter.unusedSimpArgs false
theorem grown_nil {w w' : World} (h : w.grownBy w' none) : Below w.heap.size w w' := ⟨h.os, h.tape, h.output, h.size, fun i hi => h.block i hi (by simp)⟩
theorem MapAt.beside {W w1 : World} {b r n cnt : Nat} {z : Value} {f : SL → Value} {left : SL → Bool} (h : MapAt W b r n z f left cnt) {α : Type} {d : Kd α} {e base : Nat} {ok : Nat → Prop} {v : Value} {xs : List α} (hR : Kd.R d e W base ok v xs) (hg : W.grownBy w1 v.ownBlock) : MapAt w1 b r n z f left cnt := by
  refine h.kept hg (fun hk => ?_) (fun hk => ?_)
  · obtain ⟨cells, hc⟩ := Kd.R_typed hR b hk.symm
    obtain ⟨es, c, hm⟩ := h.is.isMap
    rw [hc] at hm
    cases hm
  · obtain ⟨cells, hc⟩ := Kd.R_typed hR r hk.symm
    obtain ⟨o, s, c, d, hm⟩ := h.isIter
    rw [hc] at hm
    cases hm
set_option maxRecDepth 100000 in
set_option maxHeartbeats 4000000 in
theorem quota_All.calls (w : World) (cb mb n M : Nat) (f : SL → Int) (h : CountsIs w cb mb n f) (hf : ∀ x, okL x → 0 ≤ f x ∧ f x ≤ M) (hM : n * M ≤ 100000) : Calls Try.prog 22 #[.pointer (some ⟨cb, 0, none⟩)] w fun e w' =>
    ∃ (v : Value) (out : List SL), e = .returned v ∧ Kd.R k43 43 w' w.heap.size (fun _ => True) v (sortS out) ∧ (∀ x ∈ out, okL x) ∧ (∀ x, okL x → (out.count x : Int) = f x) ∧ Below w.heap.size w w' := by
  have hc : w.cell? ⟨cb, 0, none⟩ = some (.map (some mb)) := (blk_cell h.1 0).trans rfl
  have HM := Aside0.mk h.2
  have HF := Aside0.mk hf
  have HMM := Aside0.mk hM
  clear h hf hM
  go_enter Try.func22, Try.ntmps22
  go_wp2_with (first | (at_range; refine range_lab _ rfl _ 59 3 rfl Try.underlying59 mb n _ rfl HM.out ?_; intro w0 left0 cnt0 hat0 hle0 hz0 hg0 hs0) | go_in)
  go_frame
  have HB0 := Aside0.mk (grown_nil hg0)
  go_loopw [3] (fun v wr => ∃ (left : SL → Bool) (cnt : Nat) (out : List SL), MapAt wr mb w.heap.size n (.int .i64 0) (fun x => .int .i64 (f x)) left cnt ∧ Aside0 (Kd.R k43 43 wr w.heap.size (fun _ => True) v out) ∧
    Aside0 (∀ x, okL x → (out.count x : Int) + (if left x = true then f x else 0) = f x) ∧ Aside0 ((∀ x ∈ out, okL x) ∧ cnt ≤ n ∧ out.length ≤ M * (n - cnt)) ∧ Aside0 (Below w.heap.size w wr)) (fun _ wr => wr.rangeLeft mb w.heap.size)
  case atStart =>
    refine ⟨left0, cnt0, [], hat0, ⟨Kd.R_nil _ _ _ _ _⟩, ⟨fun x hx => ?_⟩, ⟨by simp, hle0, by simp⟩, HB0⟩
    cases hl : left0 x
    · have h5 := hz0 x hx hl
      injection h5 with _ h5
      simp [h5]
    · simp
  case round =>
    obtain ⟨left, cnt, out, hat, HR, HCT, HOK, HB⟩ := hrel
    clear HB0 hat0 hle0 hz0 hg0 hs0
    go_wp2_with (first | (at_next; refine next_lab _ rfl _ rfl mb w.heap.size n _ left cnt rfl hat ?_ ?_) | go_in)
    · intro hl0
      go_wp2_with fail
      refine (sort_labels _ _ _ u3 out HR.out (by
        have h1 := HOK.out
        have h2 : M * (n - cnt) ≤ M * n := Nat.mul_le_mul_left _ (Nat.sub_le _ _)
        have h3 := HMM.out
        rw [Nat.mul_comm] at h3
        omega)).mono ?_
      rintro e w2 ⟨rfl, hR2, hg2⟩
      go_wp2
      go_ret
      exact ⟨u3, out, rfl, hR2, HOK.out.1, fun x hx => by
        have h1 := HCT.out x hx
        rw [hl0 x hx] at h1
        simpa using h1, pw_below_grown HB.out _ (below_size HB.out) hg2 (Kd.R_base HR.out)⟩
    · intro x w1 cnt1 hx hlx hat1 hlt1 hg1 hs1 hen
      have hf0 := HF.out x hx
      have hmul : M * (n - cnt) + M ≤ M * (n - cnt1) := by
        rw [← Nat.mul_succ]
        have := HOK.out.2.1
        exact Nat.mul_le_mul_left _ (by omega)
      have hmul2 : M * (n - cnt1) ≤ 100000 := by
        have h2 : M * (n - cnt1) ≤ M * n := Nat.mul_le_mul_left _ (Nat.sub_le _ _)
        have h3 := HMM.out
        rw [Nat.mul_comm] at h3
        omega
      have HMUL := Aside0.mk (And.intro hmul hmul2)
      have HNR : Aside0 (∀ k, k < wr.heap.size → (∃ cells q, wr.heap[k]? = some (.cells cells q (0, 0))) → w1.heap[k]? = wr.heap[k]?) := ⟨fun k hk ⟨cells, q, hc⟩ => hg1.block k hk (fun e => by
        obtain ⟨o, s, c, d, hi⟩ := hat.isIter
        have e2 := Option.some.inj e
        rw [← e2, hc] at hi
        cases hi)⟩
      have HR1 := Aside0.mk (Kd.R_mono (Kd.R_move (Kd.R_bound HR.out) (fun k hk => by
        obtain ⟨_, _, hlt, q, _, cells, hc⟩ := hk
        exact HNR.out k hlt ⟨cells, q, hc⟩)) (fun k hk => show k ≠ wr.heap.size from fun e => by have := hk.2.2.1; omega))
      have BK := Aside0.mk (show (w1.alloc (.cells #[.int .i64 x.f0, .int .i64 x.f1, .int .i64 x.f2, .int .i64 x.f3] 43)).heap[wr.heap.size]? = some (.cells #[.int .i64 x.f0, .int .i64 x.f1, .int .i64 x.f2, .int .i64 x.f3] 43 (0, 0)) by rw [← hs1]; exact blk_new _ _)
      have HB1 := Aside0.mk (HB.out.grown hg1 (below_size HB.out) (fun k hk => by have := Option.some.inj hk; omega))
      have HAT1 := Aside0.mk hat1
      have HLT := Aside0.mk hlt1
      have HRL := Aside0.mk hat.left_eq
      have HX := Aside0.mk (And.intro hx hlx)
      have HF0 := Aside0.mk hf0
      unfold lv at hen ⊢
      go_wp2
      clear hf0 hmul hmul2 hat hat1 hlt1 hg1 hx hlx HB HR HNR hen hs1
      generalize wr.heap.size = gb at HR1 BK ⊢
      go_loopw [3, 17] (fun v3 v17 wi => ∃ j : Nat, v17 = .int .i64 (j : Int) ∧ Aside0 ((j : Int) ≤ f x) ∧ Aside0 (Kd.R k43 43 wi w.heap.size (fun k => k ≠ gb) v3 (out ++ List.replicate j x)) ∧
        Aside0 (wi.heap[gb]? = some (.cells #[.int .i64 x.f0, .int .i64 x.f1, .int .i64 x.f2, .int .i64 x.f3] 43 (0, 0))) ∧
        Aside0 (MapAt wi mb w.heap.size n (.int .i64 0) (fun x => .int .i64 (f x)) (fun y => left y && !decide (y = x)) cnt1) ∧ Aside0 (Below w.heap.size w wi)) (fun _ v17 _ => (f x).toNat - (intOf v17).toNat)
      case atStart => exact ⟨0, rfl, ⟨HF0.out.1⟩, ⟨by simpa using Kd.R_below HR1.out (below_alloc (Below.refl _ _) _)⟩, BK, ⟨HAT1.out.below (below_alloc (Below.refl _ _) _)⟩, ⟨below_alloc HB1.out _⟩⟩
      case round =>
        clear HR1 BK HAT1 HB1
        obtain ⟨j, rfl, HJ, HR, BK, HAT, HB⟩ := hrel
        by_cases hj : (j : Int) < f x
        · have ej : decide ((j : Int) < f x) = true := decide_eq_true hj
          have ew : wrap64 ((j : Int) + 1) = ((j + 1 : Nat) : Int) := by
            have := HF0.out
            have := HMUL.out
            unfold wrap64
            omega
          have HLEN : Aside0 (((out ++ List.replicate j x).length + 1) * 32 ≤ 140737488355328) := ⟨by
            have h1 := HOK.out.2.2
            have h2 := HMUL.out
            have h3 := HF0.out
            rw [List.length_append, List.length_replicate]
            omega⟩
          have HJ1 := Aside0.mk hj
          have k0 := (blk_cell BK.out 0).trans rfl
          have k1 := (blk_cell BK.out 1).trans rfl
          have k2 := (blk_cell BK.out 2).trans rfl
          have k3 := (blk_cell BK.out 3).trans rfl
          clear hj
          go_wp2_with (first | (at_builtin; refine Kd.R_append k43 (w0 := w) w.heap.size rfl (.tmp 19) (.tmp 21) 41 43 (.agg #[(.int .i64 0), (.int .i64 0), (.int .i64 0), (.int .i64 0)]) 32 rfl Try.underlying41 info43 rfl (by decide) (by omega) _ (out ++ List.replicate j x) x [.int .i64 x.f0, .int .i64 x.f1, .int .i64 x.f2, .int .i64 x.f3] (fun k => k ≠ gb) (fun _ => False) rfl rfl (k43_mkM _ _ _ x) (fun _ hk => hk.elim) (fun k_ hk => Kd.freshB BK.out k_ hk) HR.out HB.out (below_size HB.out) HLEN.out ?_; intro v1 w2 ho hb hg hat) | go_in)
          refine ⟨⟨j + 1, by rw [ew], ⟨by have := HJ1.out; omega⟩, ⟨by rw [List.replicate_succ', ← List.append_assoc]; exact ho⟩, ⟨blk_grown BK.out hg (Kd.R_away HR.out (fun _ hk => hk))⟩, ⟨HAT.out.beside HR.out hg⟩, ⟨hb⟩⟩, ?_⟩
          rw [ew]
          have := HJ1.out
          simp only [intOf]
          omega
        · have ej : decide ((j : Int) < f x) = false := decide_eq_false hj
          have hjx : (j : Int) = f x := by have := HJ.out; omega
          have HJX := Aside0.mk hjx
          clear hj hjx
          go_wp2
          refine ⟨⟨_, cnt1, out ++ List.replicate j x, HAT.out, ⟨Kd.R_mono HR.out (fun _ _ => trivial)⟩, ⟨fun y hy => ?_⟩, ⟨fun y hy => ?_, ?_, ?_⟩, HB⟩, ?_⟩
          · have h1 := HCT.out y hy
            have h2 := HX.out.2
            have h3 := HJX.out
            rw [List.count_append, List.count_replicate]
            by_cases hyx : y = x
            · subst hyx
              rw [h2] at h1
              simp only [beq_self_eq_true, if_true, decide_true, Bool.not_true, Bool.and_false, Bool.false_eq_true, if_false] at h1 ⊢
              omega
            · have h4 : (x == y) = false := beq_eq_false_iff_ne.2 (fun e => hyx e.symm)
              simp only [h4, hyx, decide_false, Bool.not_false, Bool.and_true, Bool.false_eq_true, if_false, Nat.add_zero] at h1 ⊢
              exact h1
          · rcases List.mem_append.1 hy with h1 | h1
            · exact HOK.out.1 y h1
            · rw [(List.mem_replicate.1 h1).2]
              exact HX.out.1
          · have := HOK.out.2.1
            have := HLT.out
            omega
          · have h1 := HOK.out.2.2
            have h2 := HMUL.out
            have h3 := HF0.out
            have h4 := HJX.out
            rw [List.length_append, List.length_replicate]
            omega
          · rw [HRL.out, HAT.out.left_eq]
            exact HLT.out
end Go.Proofs.Ytinbhijeonghaaa.X
