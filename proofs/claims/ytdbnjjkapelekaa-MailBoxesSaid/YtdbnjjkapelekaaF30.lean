/- Written by a program of this session over the kit's print: YtdbnjjkapelekaaF30. -/
import Derived.Test.YtdbnjjkapelekaaH
import Derived.Deep.RegionLaw
import Derived.Shelf.RegionOpenPlain
import Derived.Lib.SliceRun
namespace Go.Proofs.Ytdbnjjkapelekaa.X
open Go.RowKit Go.Proofs.YtdbnjjkapelekaaW.PrintWords Go.Proofs.YtdbnjjkapelekaaW.PrintLast Go.Proofs.YtdbnjjkapelekaaW.PrintMore Go.Proofs.Ytdbnjjkapelekaa.More
attribute [local go_sem] max2_int min2_int max_two min_two max_three min_three max_four min_four binOp_string_leq binOp_string_gtr   -- for this text's walks alone
set_option linter.unusedVariables false
set_option linter.unusedSimpArgs false

/-! ### api_Message: function 30 -/
/-- clear of a row whose zero value is of several cells. -/
theorem run_clear_row {P : Program} (w : World) (t e ty : TypeId) (z : Value) (ht : P.underlying t = some (.slice e)) (hv : ∀ w, (zeroValue e).run P w = .ok z w) (b o n c : Nat) (hn : 0 < n) (cs : List Value) (hzc : (Builtin.zeroCells z.cells n).toList = cs) (h1 : ∀ v ∈ cs, v.oneCell' = true)
    (hc : ∀ j, j < cs.length → (w.cell? ⟨b, o + j, none⟩).isSome = true) (hf : ∀ j, j < cs.length → w.frozen? ⟨b, o + j, none⟩ = false) :
    (Builtin.clear_ #[t] ty #[.slice (some ⟨b, o, none⟩) n c]).run P w = .ok (.tuple #[]) (w.setCells b o cs) := by
  have hst := Go.run_storeCells_cells (P := P) b o cs 0 w (by simpa using hc) (by simpa using hf) h1
  simp only [Nat.add_zero] at hst
  obtain ⟨m, rfl⟩ : ∃ m, n = m + 1 := ⟨n - 1, by omega⟩
  simp [Builtin.clear_, run_underlying ht, hv, hzc, hst]
/-- What is written behind a row's end, in its block, leaves the row. -/
theorem Kd_R_tail {α : Type} (d : Kd α) {W : World} {base e : Nat} {g n c : Nat} {xs : List α} {ok : Nat → Prop} (HO : d.R e W base ok (.slice (some ⟨g, 0, none⟩) n c) xs) (cs : List Value) (o : Nat) (ho : n * d.sz ≤ o) (hfit : o + cs.length ≤ c * d.sz) :
    d.R e (W.setCells g o cs) base ok (.slice (some ⟨g, 0, none⟩) n c) xs ∧ W.grownBy (W.setCells g o cs) (some g) := by
  obtain ⟨hok, inner, ⟨hil, hown⟩, hr⟩ := HO
  rcases hown with ⟨hv, _⟩ | ⟨g', cap', cur, hv, hb, hh, hn, hcm, hcs, htake⟩
  · cases hv
  obtain ⟨ha, hnx, hc⟩ := Value.slice.inj hv
  injection ha with ha
  injection ha with hg
  subst hg; subst hc
  obtain ⟨cur', h3, h4, h5⟩ := setCells_row cs o W cur hh (by rw [hcs]; exact hfit)
  obtain ⟨s1, s2, s3, s4⟩ := setCells_same g cs o W
  have hfar : ∀ k', k' ≠ g → (W.setCells g o cs).heap[k']? = W.heap[k']? := fun k' hk' => setCells_far cs _ k' hk'
  refine ⟨⟨hok, inner, ⟨hil, .inr ⟨g, c, cur', hv, hb, h3, hn, hcm, by rw [h4, hcs], ?_⟩⟩, hr.imp_ (fun _ _ hp => d.M_move (fun k' hk' => hfar k' (fun he => hk'.2 (by rw [he]; simp [Value.ownBlock]))) hp)⟩, ⟨s1, s2, s3, by rw [s4]; exact Nat.le_refl _, fun k' _ hk' => hfar k' (fun he => hk' (by rw [he]))⟩⟩
  rw [hnx] at ho
  have hle : xs.length * d.sz ≤ c * d.sz := Nat.mul_le_mul_right _ hn
  have hcs' : cur.toList.length = c * d.sz := by rw [Array.length_toList, hcs]
  have ho' : xs.length * d.sz ≤ (cur.toList.take o).length := by rw [List.length_take, hcs']; exact Nat.le_min.2 ⟨ho, hle⟩
  show cur'.toList.take (xs.length * d.sz) = inner
  rw [h5, List.append_assoc, List.take_append_of_le_length ho', List.take_take, Nat.min_eq_left ho]
  exact htake

def api_Message.f (l0 : List S28) (a1 a2 : Int) : Option (List S28) :=
  if 0 ≤ a1 ∧ a1 < (l0.length : Int) ∧ a2 = wrap64 (a1 + 1) then some (l0.eraseIdx a1.toNat) else none
theorem zeroD (w : World) : (zeroValue 28).run Try.prog w = .ok (.agg #[.string ⟨#[]⟩, .int .i64 0, .int .i64 0, .int .i64 0, .int .i64 0, .string ⟨#[]⟩, .int .i64 0, .int .i64 0, .int .i64 0, .int .i64 0, .string ⟨#[]⟩]) w := by
  obtain ⟨i, hi, hz, _, _⟩ := info_parts info28
  simp [zeroValue, typeInfo, hi, hz]
set_option maxHeartbeats 4000000 in
set_option maxRecDepth 100000 in
theorem api_Message.calls (P0_ : Nat → Prop) (u9000_ : Value) (l0 : List S28) (a1 a2 : Int) (r : List S28) (w0 w : World) (hB : Below w0.heap.size w0 w) (ho0 : Kd.R k28 28 w w0.heap.size P0_ u9000_ l0) (h : api_Message.f l0 a1 a2 = some r) :
    Calls Try.prog 30 #[u9000_, .int .i64 a1, .int .i64 a2] w fun e w' => ∃ v0_ : Value, e = .returned (v0_) ∧ Kd.R k28 28 w' w0.heap.size (fun k_ => (P0_ k_ ∨ w.heap.size ≤ k_)) v0_ r ∧ Below w0.heap.size w0 w' ∧ Kept w w' (fun k_ => P0_ k_) := by
  have huE := Try.underlying28
  have huS := Try.underlying33
  unfold api_Message.f at h
  by_cases hc : 0 ≤ a1 ∧ a1 < (l0.length : Int) ∧ a2 = wrap64 (a1 + 1)
  · rw [if_pos hc] at h
    obtain ⟨h0, h1, h2⟩ := hc
    obtain rfl := Option.some.inj h
    obtain ⟨i, rfl⟩ : ∃ i : Nat, a1 = (i : Int) := ⟨a1.toNat, by omega⟩
    have hi : i < l0.length := by omega
    obtain ⟨g, cap, rfl, hbg, hg, cells, hcells⟩ := Kd.R_form ho0 (by omega)
    obtain ⟨_, hnc, hC⟩ := Kd.R_reads' ho0
    have hcm : cap ≤ 9223372036854775807 := by
      obtain ⟨_, inner, ⟨_, hown⟩, _⟩ := ho0
      rcases hown with ⟨hv, _⟩ | ⟨g', cap', cur, hv, _, _, _, hcm, _, _⟩
      · cases hv
      · obtain ⟨_, _, hcc⟩ := Value.slice.inj hv
        subst hcc
        exact hcm
    obtain rfl : a2 = ((i + 1 : Nat) : Int) := by rw [h2]; unfold wrap64; omega
    have hlen : w0.heap.size ≤ w.heap.size := hB.size
    have hOK : P0_ g := ho0.1 g (by simp [Value.ownBlock])
    have hne : ¬ ((i : Int) = ((i + 1 : Nat) : Int)) := by omega
    have hic : i ≤ cap := by omega
    have hjc : i + 1 ≤ cap := by omega
    have hjn : i + 1 ≤ l0.length := by omega
    have hlc : l0.length ≤ cap := by omega
    have mixed : Try.prog.follows .mixedOrders = true := by kernel_rfl
    have hq1 : (0 : Int) ≤ (i : Int) + 1 := by omega
    have hq2 : (i : Int) + 1 ≤ (l0.length : Int) := by omega
    clear hC hcells h h2
    go_enter Try.func30, Try.ntmps30
    go_wp2_with fail
    have hA0 : (if cap = i + 1 then (some ⟨g, 0, none⟩ : Option Addr) else some ⟨g, (i + 1) * 11, none⟩) = if cap = i + 1 then some ⟨g, 0, none⟩ else (some (⟨g, 0, none⟩ : Addr)).map (·.add ((i + 1) * k28.sz)) := by
      split
      · rfl
      · show _ = some (Addr.add ⟨g, 0, none⟩ ((i + 1) * 11))
        rw [Addr.add_lit, Nat.zero_add]
    go_region_law_o (refine Kd.R_delete_step k28 (w0 := w0) w0.heap.size (by rfl) (.tmp 22) (.tmp 25) 33 28 rfl huS (by kernel_rfl) (g := g) (n := l0.length) (c := cap) (k := i) (A := if cap = i + 1 then some ⟨g, 0, none⟩ else some ⟨g, (i + 1) * 11, none⟩) (m := l0.length - (i + 1)) (c2 := cap - (i + 1)) (by simp [Act.eval, Act.put]) (by first | (simp [Act.eval, Act.put]; done) | (simp [Act.eval, Act.put]; rfl)) hA0 rfl ho0 hi (below_drew1 hB) hlen ?_; intro w1 hR1 hB1 hg1)
    obtain ⟨cur, hh, hcs⟩ : ∃ cur : Array Value, w1.heap[g]? = some (.cells cur 28 (0, 0)) ∧ cur.size = cap * 11 := by
      obtain ⟨_, inner, ⟨_, hown⟩, _⟩ := hR1
      rcases hown with ⟨hv, _⟩ | ⟨g', cap', cur, hv, _, hh, _, _, hcs, _⟩
      · cases hv
      · obtain ⟨he, _, hcc⟩ := Value.slice.inj hv
        obtain ⟨rfl, _, _⟩ := Addr.mk.inj (Option.some.inj he)
        subst hcc
        exact ⟨cur, hh, hcs⟩
    obtain ⟨zs, hzs⟩ : ∃ zs : List Value, zs = [.string ⟨#[]⟩, .int .i64 0, .int .i64 0, .int .i64 0, .int .i64 0, .string ⟨#[]⟩, .int .i64 0, .int .i64 0, .int .i64 0, .int .i64 0, .string ⟨#[]⟩] := ⟨_, rfl⟩
    have hzl : zs.length = 11 := by rw [hzs]; rfl
    have hfit : (l0.length - 1) * 11 + zs.length ≤ cap * 11 := by rw [hzl]; omega
    have hcl : ∀ ty c2, (Builtin.clear_ #[33] ty #[.slice (some ⟨g, (l0.length - 1) * 11, none⟩) 1 c2]).run Try.prog w1 = .ok (.tuple #[]) (w1.setCells g ((l0.length - 1) * 11) zs) := fun ty c2 =>
      run_clear_row w1 33 28 ty _ huS zeroD g ((l0.length - 1) * 11) 1 c2 (by omega) zs (by rw [hzs]; first | kernel_rfl | (simp [Builtin.zeroCells, Value.cells]; done)) (by rw [hzs]; decide) (fun j hj => by rw [cell_of_row w1 g _ cur 28 (0, 0) hh]; simp; omega) (fun j _ => blk_frozen hh _)
    obtain ⟨hR2, hg2⟩ := Kd_R_tail k28 hR1 zs ((l0.length - 1) * 11) (Nat.le_refl _) hfit
    have hB2 : Below w0.heap.size w0 (w1.setCells g ((l0.length - 1) * 11) zs) := hB1.grown hg2 (Nat.le_trans hlen hg1.size) (fun k hk => by injection hk with hk; subst hk; exact hbg)
    obtain ⟨w2, hw2⟩ : ∃ w2, w2 = w1.setCells g ((l0.length - 1) * 11) zs := ⟨_, rfl⟩
    rw [← hw2] at hR2 hg2 hB2
    simp only [← hw2] at hcl
    clear hw2 hh hcs hzs hR1 hB1 hfit
    have hm1 : l0.length - (l0.length - 1) = 1 := by omega
    go_wp2
    all_goals go_ret
    all_goals refine ⟨_, rfl, ?_⟩
    · have hcap : cap = i + 1 := by assumption
      rw [hcap] at hR2
      exact ⟨Kd.R_mono hR2 (fun k hk => .inl hk), hB2, ((Kept.refl w _).of_grown hg1 (fun k hk => by injection hk with hk; subst hk; exact .inl hOK)).of_grown hg2 (fun k hk => by injection hk with hk; subst hk; exact .inl hOK)⟩
    · exact ⟨Kd.R_mono hR2 (fun k hk => .inl hk), hB2, ((Kept.refl w _).of_grown hg1 (fun k hk => by injection hk with hk; subst hk; exact .inl hOK)).of_grown hg2 (fun k hk => by injection hk with hk; subst hk; exact .inl hOK)⟩
  · rw [if_neg hc] at h
    exact absurd h (by simp)

end Go.Proofs.Ytdbnjjkapelekaa.X
