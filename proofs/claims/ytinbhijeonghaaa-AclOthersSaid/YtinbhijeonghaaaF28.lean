/- Written by a program of this session over the kit's print: YtinbhijeonghaaaF28. -/
import Derived.Test.YtinbhijeonghaaaH
import Derived.Deep.RegionLaw
import Derived.Shelf.RegionOpenPlain
import Derived.Lib.SliceRun
import Derived.Lib.AppendZerosOnto
import Derived.Deep.RegionLawGrows
namespace Go.Proofs.Ytinbhijeonghaaa.X
open Go.RowKit Go.Proofs.YtinbhijeonghaaaW.PrintWords Go.Proofs.YtinbhijeonghaaaW.PrintLast Go.Proofs.YtinbhijeonghaaaW.PrintMore Go.Proofs.Ytinbhijeonghaaa.More
attribute [local go_sem] max2_int min2_int max_two min_two max_three min_three max_four min_four binOp_string_leq binOp_string_gtr   -- for this text's walks alone
set_option linter.unusedVariables false
set_option linter.unusedSimpArgs false

/-! ### api_Grant_28: function 28 -/
section
variable {P : Program} {ops : Array Oper} {rest : List Oper} {o : Oper} {a : Act} {Q : Exit → Act → World → Prop}
/-- append, and copy, of which the run is known: in a walk, and in a region that draws. -/
theorem ins_append_run (w : World) (hgd : o.guard = none) (s x : Operand) (t t' : TypeId) (ho : o.op = .call { callee := .builtin .append, args := #[s, x], argTypes := #[t, t'] }) (v u : Value) (hs : a.eval s = v) (hx : a.eval x = u) {v' : Value} {w' : World} (hr : (Builtin.append_ #[t, t'] o.type #[v, u]).run P w = .ok v' w')
    (h : wpList P ops Q rest (a.put o.dst v') w') : wpList P ops Q (o :: rest) a w :=
  Kd.event_run hgd (v := v') (w1 := w') (by simp [execOp, ho, resolve, invoke, builtin, hs, hx, hr]) h
theorem ins_copy_run (w : World) (hgd : o.guard = none) (s x : Operand) (t t' : TypeId) (ho : o.op = .call { callee := .builtin .copy, args := #[s, x], argTypes := #[t, t'] }) (v u : Value) (hs : a.eval s = v) (hx : a.eval x = u) {v' : Value} {w' : World} (hr : (Builtin.copy_ #[t, t'] o.type #[v, u]).run P w = .ok v' w')
    (h : wpList P ops Q rest (a.put o.dst v') w') : wpList P ops Q (o :: rest) a w :=
  Kd.event_run hgd (v := v') (w1 := w') (by simp [execOp, ho, resolve, invoke, builtin, hs, hx, hr]) h
theorem ins_copy_step {w : World} {K : Act → World → Prop} {E : Prop} (hgd : o.guard = none) (s x : Operand) (t t' : TypeId) (ho : o.op = .call { callee := .builtin .copy, args := #[s, x], argTypes := #[t, t'] }) (v u : Value) (hs : a.eval s = v) (hx : a.eval x = u) {v' : Value} {w' : World} (hr : (Builtin.copy_ #[t, t'] o.type #[v, u]).run P w = .ok v' w')
    (h : K (a.put o.dst v') w') : if Region.wanted o (yielded ops a.tmps) = true then Oper.wp P o a w K Q else E := by
  rw [if_pos (by simp [Region.wanted, hgd])]
  unfold Oper.wp
  simp [execOp, ho, resolve, invoke, builtin, hs, hx, hr, Result.andThen]
  exact h
end
theorem ins_isSome (b : Nat) : ∀ (vs : List Value) (o : Nat) (w : World) (x : Addr), (w.cell? x).isSome = true → ((w.setCells b o vs).cell? x).isSome = true
  | [], _, _, _, h => h
  | v :: r, o, w, x, h => ins_isSome b r (o + 1) _ x (by
      by_cases hx : x = ⟨b, o, none⟩
      · subst hx
        obtain ⟨u, hu⟩ := Option.isSome_iff_exists.1 h
        exact Option.isSome_iff_exists.2 ⟨_, World.cell?_setCell_same w _ v hu⟩
      · rw [World.cell?_setCell_other w _ x v (fun e => hx e.symm)]
        exact h)
def zeroG : Value := .agg #[.string ⟨#[]⟩, .int .i64 0]
set_option maxHeartbeats 4000000 in
set_option maxRecDepth 100000 in
theorem api_Grant_28.grow (g n i vc : Nat) (av : Addr) (cs vs : List Value) (w : World) (hi : i < n) (hbig : n ≤ 1000000) (hcl : cs.length = n * 2) (hvl : vs.length = 2)
    (hcs : ∀ j v, cs[j]? = some v → w.cell? ⟨g, j, none⟩ = some v) (hvs : ∀ j v, vs[j]? = some v → w.cell? (av.add j) = some v) (h1c : ∀ v ∈ cs, v.oneCell' = true) (h1v : ∀ v ∈ vs, v.oneCell' = true) :
    Calls Try.prog 28 #[.slice (some ⟨g, 0, none⟩) n n, .int .i64 i, .slice (some av) 1 vc] w fun e w' =>
      e = .returned (.slice (some ⟨w.heap.size, 0, none⟩) (n + 1) (grownCap w (n + 1) n 31)) ∧
      w' = (((w.alloc (.cells ((cs.take (i * 2)).toArray ++ Builtin.zeroCells zeroG.cells (n + 1 - i) ++ Builtin.zeroCells zeroG.cells (grownCap w (n + 1) n 31 - (n + 1))) 31)).drew.setCells w.heap.size (i * 2) vs).drew).setCells w.heap.size ((i + 1) * 2) (cs.drop (i * 2)) := by
  have huS := Try.underlying24
  have huI := Try.underlying3
  have huE := Try.underlying31
  have mixed : Try.prog.follows .mixedOrders = true := by kernel_rfl
  obtain ⟨i0, hi0, hz0, hzs, hzb⟩ := info_parts info31
  have hz2 : ¬ ((i : Int) = (n : Int)) := by omega
  have hz3 : (n : Int) < (n : Int) + 1 := by omega
  have hsz : (Try.prog.info? 31).map (·.size) = some 2 := by rw [hi0]; simp [hzs]
  have hbw : g < w.heap.size := World.block_lt_of_cell? w _ (hcs 0 _ (List.getElem?_eq_getElem (by omega)))
  have hvw : ∀ j, (av.add j).block < w.heap.size := fun j => by
    have := World.block_lt_of_cell? w _ (hvs 0 _ (List.getElem?_eq_getElem (by omega)))
    rw [add_block] at this ⊢
    exact this
  have hkk : (n : Int) + 1 - (i : Int) = ((n + 1 - i : Nat) : Int) := by omega
  have hik : i + (n + 1 - i) = n + 1 := by omega
  have hold : (Builtin.firstCells i0.size i (.slice (some ⟨g, 0, none⟩) i n)).run Try.prog w.drew = .ok (cs.take (i * 2)).toArray w.drew := by
    rw [hzs]
    exact run_firstCells_some w.drew 2 i ⟨g, 0, none⟩ i n (cs.take (i * 2)) (by rw [List.length_take]; omega) (fun j v hj => by
      rw [Addr.add_lit, Nat.zero_add]
      rw [List.getElem?_take] at hj
      split at hj
      · exact hcs j v hj
      · cases hj)
  have hrz : ∀ ty, (Builtin.append_ #[24, 3] ty #[.slice (some ⟨g, 0, none⟩) i n, .int .i64 ((n : Int) + 1 - (i : Int))]).run Try.prog w =
      .ok (.slice (some ⟨w.heap.size, 0, none⟩) (n + 1) (grownCap w (n + 1) n 31)) (w.drew.alloc (.cells ((cs.take (i * 2)).toArray ++ Builtin.zeroCells zeroG.cells (n + 1 - i) ++ Builtin.zeroCells zeroG.cells (grownCap w (n + 1) n 31 - (n + 1))) 31)) := fun ty => by
    have h := Lib.run_append_grow_zeros w 24 3 ty 31 i0 zeroG .i64 .i64 huS huI hi0 hz0 (some ⟨g, 0, none⟩) i n (cs.take (i * 2)) hold (n + 1 - i) (by omega) (by omega) (by omega) (by omega) (by rw [hzb]; omega) (by rw [hzb, hik]; exact growslice_fits (by omega) (by omega))
    rw [hik] at h
    rw [hkk]
    exact h
  obtain ⟨G, hG⟩ : ∃ G, G = grownCap w (n + 1) n 31 := ⟨_, rfl⟩
  obtain ⟨ROW, hROW⟩ : ∃ ROW : Array Value, ROW = (cs.take (i * 2)).toArray ++ Builtin.zeroCells zeroG.cells (n + 1 - i) ++ Builtin.zeroCells zeroG.cells (G - (n + 1)) := ⟨_, rfl⟩
  rw [← hG] at hrz ⊢
  rw [← hROW] at hrz ⊢
  have hRl : (n + 1) * 2 ≤ ROW.size := by
    rw [hROW]
    simp [Builtin.zeroCells, zeroG, Value.cells]
    omega
  obtain ⟨W1, hW1⟩ : ∃ W1, W1 = w.drew.alloc (.cells ROW 31) := ⟨_, rfl⟩
  rw [← hW1] at hrz
  have hN : ∀ j, j < (n + 1) * 2 → (W1.cell? ⟨w.heap.size, j, none⟩).isSome = true := fun j hj => by
    rw [hW1, World.cell?_alloc_at (w := w.drew) ROW _ w.heap.size j rfl, Array.getElem?_eq_getElem (by omega)]; rfl
  have hNf : ∀ j, W1.frozen? ⟨w.heap.size, j, none⟩ = false := fun j => by rw [hW1]; exact World.frozen?_alloc_at (w := w.drew) ROW _ w.heap.size j rfl
  have hOb : ∀ j v, w.cell? ⟨g, j, none⟩ = some v → W1.cell? ⟨g, j, none⟩ = some v := fun j v h => by rw [hW1, World.cell?_alloc_past (w := w.drew) _ g j hbw]; exact h
  have hOv : ∀ j v, w.cell? (av.add j) = some v → W1.cell? (av.add j) = some v := fun j v h => by rw [hW1]; exact ((below_alloc (below_drew1 (Below.refl w.heap.size w)) _).cell (hvw j)).trans h
  have hcpA : ∀ (W : World), (∀ x, W.cell? x = W1.cell? x) → (∀ x, W.frozen? x = W1.frozen? x) → ∀ ty dc, (Builtin.copy_ #[24, 24] ty #[.slice (some ⟨w.heap.size, i * 2, none⟩) (n + 1 - i) dc, .slice (some av) 1 vc]).run Try.prog W = .ok (goInt ((1 : Nat) : Nat)) (W.setCells w.heap.size (i * 2) vs) := fun W hWc hWf ty dc => by
    have h := run_copy_rows (P := Try.prog) W 24 24 ty 31 w.heap.size (i * 2) (n + 1 - i) dc av 1 vc 2 vs huS hsz (by rw [hvl, show Nat.min 1 (n + 1 - i) = 1 from Nat.min_eq_left (by omega)])
      (fun j v hj => by rw [hWc]; exact hOv _ v (hvs j v hj))
      (fun j hj => by rw [hWc]; exact hN _ (by omega)) (fun j hj => by rw [hWf]; exact hNf _) h1v
    rw [show Nat.min 1 (n + 1 - i) = 1 from Nat.min_eq_left (by omega)] at h
    exact h
  have hGn : n + 1 ≤ G := by rw [hG]; exact grownCap_ge w _ _ _
  have hG63 : G ≤ 9223372036854775807 := by
    have := grownCap_le_maxLen w (n + 1) n 31 (by unfold maxLen; omega)
    rw [← hG] at this
    unfold maxLen at this
    omega
  have hGi : ¬ (G = i) := by omega
  have hGim : ¬ (G = i + 1) := by omega
  have hci : ¬ (n = i) := by omega
  have hbN : g ≠ w.heap.size := by omega
  have hdl : (cs.drop (i * 2)).length = (n - i) * 2 := by rw [List.length_drop, hcl]; omega
  have hcpB : ∀ (W : World), (∀ x, W.cell? x = (W1.setCells w.heap.size (i * 2) vs).cell? x) → (∀ x, W.frozen? x = (W1.setCells w.heap.size (i * 2) vs).frozen? x) → ∀ ty dc sc, (Builtin.copy_ #[24, 24] ty #[.slice (some ⟨w.heap.size, (i + 1) * 2, none⟩) (n + 1 - (i + 1)) dc, .slice (some ⟨g, i * 2, none⟩) (n - i) sc]).run Try.prog W = .ok (goInt ((n - i : Nat) : Nat)) (W.setCells w.heap.size ((i + 1) * 2) (cs.drop (i * 2))) := fun W hWc hWf ty dc sc => by
    have h := run_copy_rows (P := Try.prog) W 24 24 ty 31 w.heap.size ((i + 1) * 2) (n + 1 - (i + 1)) dc ⟨g, i * 2, none⟩ (n - i) sc 2 (cs.drop (i * 2)) huS hsz (by rw [hdl, show Nat.min (n - i) (n + 1 - (i + 1)) = n - i from Nat.min_eq_left (by omega)])
      (fun j v hj => by
        rw [Addr.add_lit, hWc, World.cell?_setCells_out _ _ _ _ _ (fun h _ => absurd h hbN)]
        exact hOb _ v (hcs (i * 2 + j) v (by rwa [List.getElem?_drop] at hj)))
      (fun j hj => by rw [hWc]; exact ins_isSome _ _ _ _ _ (hN _ (by omega)))
      (fun j hj => by rw [hWf, World.frozen?_setCells]; exact hNf _) (fun v hv => h1c v (List.mem_of_mem_drop hv))
    rw [show Nat.min (n - i) (n + 1 - (i + 1)) = n - i from Nat.min_eq_left (by omega)] at h
    exact h
  subst hW1
  have hE1 : ∀ x, ((w.alloc (.cells ROW 31)).drew).cell? x = (w.drew.alloc (.cells ROW 31)).cell? x := fun x => rfl
  have hE2 : ∀ x, ((w.alloc (.cells ROW 31)).drew).frozen? x = (w.drew.alloc (.cells ROW 31)).frozen? x := fun x => rfl
  have hF1 : ∀ x, (((w.alloc (.cells ROW 31)).drew.setCells w.heap.size (i * 2) vs).drew).cell? x = ((w.drew.alloc (.cells ROW 31)).setCells w.heap.size (i * 2) vs).cell? x := fun x => rfl
  have hF2 : ∀ x, (((w.alloc (.cells ROW 31)).drew.setCells w.heap.size (i * 2) vs).drew).frozen? x = ((w.drew.alloc (.cells ROW 31)).setCells w.heap.size (i * 2) vs).frozen? x := fun x => rfl
  have hw1 : IntKind.i64.wrap ((i : Int) + 1) = (i : Int) + 1 := by rw [IntKind.wrap_i64]; omega
  have hb1 : (0 : Int) ≤ (i : Int) + 1 := by omega
  have hin : i ≤ n := by omega
  have htn : ((i : Int) + 1).toNat = i + 1 := by omega
  have hb3 : (i : Int) ≤ (n : Int) := by omega
  clear hkk hik hold hROW hG hRl
  go_enter Try.func28, Try.ntmps28
  go_wp2_with (first
    | (at_builtin; refine ins_append_run _ rfl _ _ _ _ rfl _ _ rfl rfl (hrz _) ?_)
    | (at_builtin; refine ins_copy_run _ rfl _ _ 24 24 rfl _ _ rfl rfl (hcpA _ hE1 hE2 _ _) ?_)
    | (at_builtin; refine ins_copy_run _ rfl _ _ 24 24 rfl _ _ rfl rfl (hcpB _ (fun _ => rfl) (fun _ => rfl) _ _ _) ?_))
  go_region_law_o (refine ins_copy_step rfl _ _ 24 24 rfl (.slice (some ⟨w.heap.size, (i + 1) * 2, none⟩) (n + 1 - (i + 1)) (G - (i + 1))) (.slice (some ⟨g, i * 2, none⟩) (n - i) (n - i)) (by simp [Act.eval, Act.put]) (by simp [Act.eval, Act.put]) (hcpB _ hF1 hF2 3 (G - (i + 1)) (n - i)) ?_)
  go_wp2
  go_ret
  exact ⟨rfl, rfl⟩
/-- An element put into a row of one's own that has no room, ahead of its end: a new row. -/
theorem Kd_R_inserted {α : Type} (d : Kd α) {W w' : World} {base e g n i N G : Nat} {ok ok' : Nat → Prop} {xs : List α} {p : α} {inner vs : List Value} {cur : Array Value}
    (hn : n = xs.length) (hi : i ≤ n) (hr : Reps (d.M W base (fun k => ok k ∧ some k ≠ (Value.slice (some ⟨g, 0, none⟩) n n).ownBlock)) d.sz xs inner) (hp : d.M W base ok' p vs) (hokn : ∀ k, ok k → ok' k)
    (hN : W.heap.size ≤ N) (hb : base ≤ N) (hfar : ∀ k, k < W.heap.size → w'.heap[k]? = W.heap[k]?) (hheap : w'.heap[N]? = some (.cells cur e (0, 0))) (hG : n + 1 ≤ G) (hG63 : G ≤ 9223372036854775807) (hcur : cur.size = G * d.sz)
    (htake : cur.toList.take ((n + 1) * d.sz) = inner.take (i * d.sz) ++ vs ++ inner.drop (i * d.sz)) (hNok : ok' N) :
    d.R e w' base ok' (.slice (some ⟨N, 0, none⟩) (n + 1) G) (xs.take i ++ [p] ++ xs.drop i) := by
  have hlen : (xs.take i ++ [p] ++ xs.drop i).length = n + 1 := by simp; omega
  have mv : ∀ {q : α} {c : List Value} {o : Nat → Prop}, d.M W base o q c → (∀ k, o k → ok' k) → d.M w' base (fun k => ok' k ∧ some k ≠ (Value.slice (some ⟨N, 0, none⟩) (n + 1) G).ownBlock) q c := by
    intro q c o hq ho
    have h1 := d.M_move (w1 := w') (fun k hk => hfar k hk.2.2.1) (d.M_bound hq)
    exact d.M_mono (fun k hk => ⟨ho k hk.1, by
      intro he
      have : k = N := by simpa [Value.ownBlock] using he
      have := hk.2.2.1
      omega⟩) h1
  have hvl : vs.length = d.sz := d.K_len (d.K_of_M hp)
  have hreps : Reps (d.M w' base (fun k => ok' k ∧ some k ≠ (Value.slice (some ⟨N, 0, none⟩) (n + 1) G).ownBlock)) d.sz (xs.take i ++ [p] ++ xs.drop i) (inner.take (i * d.sz) ++ vs ++ inner.drop (i * d.sz)) := by
    have hr' := hr.imp_ (fun _ _ hq => mv hq (fun k hk => hokn k hk.1))
    exact Kd.reps_append ((Kd.reps_take hr' (by omega)).snoc (mv hp (fun _ h => h)) hvl) (Kd.reps_drop hr')
  refine ⟨fun k hk => ?_, _, ⟨hreps.1, .inr ⟨N, G, cur, by rw [hlen], hb, hheap, by rw [hlen]; exact hG, by unfold maxLen; exact hG63, hcur, by rw [hlen]; exact htake⟩⟩, hreps⟩
  have : N = k := by simpa [Value.ownBlock] using hk
  subst this
  exact hNok
def api_Grant_28.f (l0 : List S31) (a1 : Int) (l2 : List S31) : Option (List S31) :=
  if 0 ≤ a1 ∧ a1 ≤ (l0.length : Int) ∧ l2.length = 1 ∧ l0.length ≤ 1000000 then some (l0.take a1.toNat ++ l2 ++ l0.drop a1.toNat) else none
theorem kG_made (w : World) (base : Nat) (okp : Nat → Prop) (x : S31) (cs : List Value) (h : k31.K w x cs) : k31.M w base okp x cs := h
theorem ins_done {W w1 : World} {cur : Array Value} {e : Nat} (hw : w1 = W.drew.alloc (.cells cur e)) : Below W.heap.size W w1 := by
  rw [hw]
  exact below_alloc (below_drew1 (Below.refl _ _)) _
set_option maxHeartbeats 4000000 in
set_option maxRecDepth 100000 in
theorem api_Grant_28.calls (P0_ : Nat → Prop) (u9000_ : Value) (l0 : List S31) (a1 : Int) (A2 : Option Addr) (c2 : Nat) (l2 : List S31) (r : List S31) (w0 w : World) (hB : Below w0.heap.size w0 w) (ho0 : Kd.R k31 31 w w0.heap.size P0_ u9000_ l0) (hr2_ : ∀ W_ : World, Kept w W_ (fun k_ => P0_ k_) → Kd.C k31 W_ A2 l2.length l2) (hc2 : l2.length ≤ c2) (h : api_Grant_28.f l0 a1 l2 = some r) (hcap : ∃ m_, CapIs u9000_ m_) :
    Calls Try.prog 28 #[u9000_, .int .i64 a1, .slice A2 l2.length c2] w fun e w' => ∃ v0_ : Value, e = .returned (v0_) ∧ Kd.R k31 31 w' w0.heap.size (fun k_ => (P0_ k_ ∨ w.heap.size ≤ k_)) v0_ r ∧ Below w0.heap.size w0 w' ∧ Kept w w' (fun k_ => P0_ k_) := by
  have huE := Try.underlying31
  have huS := Try.underlying24
  have hr2 := hr2_ w (Kept.refl w _)
  clear hr2_
  unfold api_Grant_28.f at h
  by_cases hc : 0 ≤ a1 ∧ a1 ≤ (l0.length : Int) ∧ l2.length = 1 ∧ l0.length ≤ 1000000
  · rw [if_pos hc] at h
    obtain ⟨h0, h1, h2, h3⟩ := hc
    obtain rfl := Option.some.inj h
    obtain ⟨p, rfl⟩ : ∃ p, l2 = [p] := by
      match l2, h2 with
      | [p], _ => exact ⟨p, rfl⟩
    obtain ⟨i, rfl⟩ : ∃ i : Nat, a1 = (i : Int) := ⟨a1.toNat, by omega⟩
    rw [Int.toNat_natCast]
    have hlen : w0.heap.size ≤ w.heap.size := hB.size
    clear h h2
    by_cases he : i = l0.length
    · subst he
      rw [List.take_of_length_le (Nat.le_refl _), List.drop_of_length_le (Nat.le_refl _), List.append_nil]
      obtain ⟨m_, A, hA⟩ := hcap
      obtain ⟨A', c', rfl⟩ := Kd.R_slice ho0
      obtain ⟨rfl, e1_, e2_⟩ := Value.slice.inj hA
      subst e2_
      subst e1_
      have HO := Aside0.mk (Kd.R_mono (ok' := fun k_ => (P0_ k_ ∨ w.heap.size ≤ k_)) ho0 (fun _ hk => .inl hk))
      have HC := Aside0.mk hr2
      have HB := Aside0.mk hB
      have H3 := Aside0.mk h3
      have HP := Aside0.mk ho0.1
      have hq1 : (0 : Int) ≤ (l0.length : Int) := by omega
      have hq3 : l0.length ≤ 9223372036854775807 := by omega
      clear ho0 hr2 hB hc2 h3 h1 h0
      go_enter Try.func28, Try.ntmps28
      go_wp2_with (at_builtin; refine Kd.R_append_rows k31 (w0 := w0) w0.heap.size rfl _ _ 24 31 zeroG 24 rfl huS info31 rfl (by decide) (by decide) _ l0 [p] A2 1 c2 (fun k_ => (P0_ k_ ∨ w.heap.size ≤ k_)) (fun _ => False) rfl rfl HO.out HC.out (fun _ _ h => kG_made _ _ _ _ _ h) (fun _ hk => hk.elim) (fun _ hk => .inr hk) HB.out HB.out.size (by have := H3.out; omega) ?_; intro v1 w1 hR1 hB1 hg1 hat1)
      go_ret
      exact ⟨_, rfl, hR1, hB1, (Kept.refl w _).of_grown hg1 (fun k hk => .inl (HP.out k hk))⟩
    · have hi : i < l0.length := by omega
      obtain ⟨g, cap, rfl, hbg, hg, cells, hcells⟩ := Kd.R_form ho0 (by omega)
      obtain ⟨m_, A, hA⟩ := hcap
      obtain ⟨_, hmm, hcc⟩ := Value.slice.inj hA
      subst hcc
      subst hmm
      obtain ⟨hok, inner, hown, hr⟩ := ho0
      have hsz2 : k31.sz = 2 := rfl
      have hin : inner.length = l0.length * 2 := hr.1
      rcases hown with ⟨hl0, ⟨hv, _⟩ | ⟨g', cap', cur, hv, hb, hh, _, hcm, hcs, htake⟩⟩
      · cases hv
      obtain ⟨ha, _, hcc⟩ := Value.slice.inj hv
      obtain ⟨rfl, _, _⟩ := Addr.mk.inj (Option.some.inj ha)
      subst hcc
      obtain ⟨ad, vs, hA2, hvl, hpK, hvs⟩ := Kd.C_get hr2 p 0 (by omega) (by simp)
      subst hA2
      have hpK' : k31.K w p vs := hpK
      have hone : ∀ v ∈ inner, v.oneCell' = true := by
        intro u hu
        obtain ⟨q, hq, rfl⟩ := List.mem_iff_getElem.1 hu
        have hql : q / 2 < l0.length := by omega
        have h6 := k31.K_one (k31.K_of_M (hr.2 (q / 2) _ (List.getElem?_eq_getElem hql)))
        refine h6 _ ?_
        rw [List.mem_iff_getElem?]
        refine ⟨q % 2, ?_⟩
        rw [List.getElem?_take, if_pos (by rw [hsz2]; omega), List.getElem?_drop, hsz2, show q / 2 * 2 + q % 2 = q by omega, List.getElem?_eq_getElem hq]
      have hcsI : ∀ j v, inner[j]? = some v → w.cell? ⟨g, j, none⟩ = some v := by
        intro j v hj
        have hjl : j < l0.length * 2 := by rw [← hin]; exact (List.getElem?_eq_some_iff.1 hj).1
        rw [cell_of_row w g _ cur 31 (0, 0) hh, ← Array.getElem?_toList]
        rw [← htake, List.getElem?_take, hsz2, if_pos hjl] at hj
        exact hj
      have hvs' : ∀ j v, vs[j]? = some v → w.cell? (ad.add j) = some v := by
        intro j v hj
        have := hvs j v hj
        simpa using this
      have hG0 := api_Grant_28.grow g l0.length i c2 ad inner vs w hi h3 hin hvl hcsI hvs' hone (k31.K_one hpK')
      refine hG0.mono ?_
      rintro e w' ⟨rfl, rfl⟩
      obtain ⟨G, hG⟩ : ∃ G, G = grownCap w (l0.length + 1) l0.length 31 := ⟨_, rfl⟩
      obtain ⟨ROW, hROW⟩ : ∃ ROW : Array Value, ROW = (inner.take (i * 2)).toArray ++ Builtin.zeroCells zeroG.cells (l0.length + 1 - i) ++ Builtin.zeroCells zeroG.cells (G - (l0.length + 1)) := ⟨_, rfl⟩
      rw [← hG, ← hROW]
      have hGn : l0.length + 1 ≤ G := by rw [hG]; exact grownCap_ge w _ _ _
      have hG63 : G ≤ 9223372036854775807 := by
        have := grownCap_le_maxLen w (l0.length + 1) l0.length 31 (by unfold maxLen; omega)
        rw [← hG] at this
        unfold maxLen at this
        omega
      have hil : (inner.take (i * 2)).length = i * 2 := by rw [List.length_take, hin]; omega
      have hRs : ROW.size = G * 2 := by
        rw [hROW]
        simp [Builtin.zeroCells, zeroG, Value.cells]
        omega
      have hRt : ROW.toList.take (i * 2) = inner.take (i * 2) := by
        rw [hROW]
        simp only [Array.toList_append, List.append_assoc]
        exact List.take_left' hil
      obtain ⟨W1, hW1⟩ : ∃ W1, W1 = (w.alloc (.cells ROW 31)).drew := ⟨_, rfl⟩
      rw [← hW1]
      have hb1 : Below w.heap.size w W1 := by rw [hW1]; exact below_drew1 (below_alloc (Below.refl _ _) _)
      have hh1 : W1.heap[w.heap.size]? = some (.cells ROW 31 (0, 0)) := by rw [hW1]; exact heap_alloc_new w _
      obtain ⟨cur1, a1, a2, a3⟩ := setCells_row vs (i * 2) W1 ROW hh1 (by rw [hvl, hRs, hsz2]; omega)
      obtain ⟨s1, s2, s3, s4⟩ := setCells_same w.heap.size vs (i * 2) W1
      obtain ⟨W2, hW2⟩ : ∃ W2, W2 = (W1.setCells w.heap.size (i * 2) vs).drew := ⟨_, rfl⟩
      have a1' : W2.heap[w.heap.size]? = some (.cells cur1 31 (0, 0)) := by rw [hW2]; exact a1
      rw [← hW2]
      have htl : (inner.drop (i * 2)).length = (l0.length - i) * 2 := by rw [List.length_drop, hin]; omega
      obtain ⟨cur2, c1, c2', c3⟩ := setCells_row (inner.drop (i * 2)) ((i + 1) * 2) W2 cur1 a1' (by rw [htl, a2, hRs]; omega)
      obtain ⟨t1, t2, t3, t4⟩ := setCells_same w.heap.size (inner.drop (i * 2)) ((i + 1) * 2) W2
      have hfar : ∀ k, k < w.heap.size → (W2.setCells w.heap.size ((i + 1) * 2) (inner.drop (i * 2))).heap[k]? = w.heap[k]? := by
        intro k hk
        rw [setCells_far _ _ k (by omega), hW2]
        show (W1.setCells w.heap.size (i * 2) vs).heap[k]? = _
        rw [setCells_far _ _ k (by omega)]
        exact hb1.block k hk
      have hbw : Below w.heap.size w (W2.setCells w.heap.size ((i + 1) * 2) (inner.drop (i * 2))) := by
        refine ⟨?_, ?_, ?_, ?_, hfar⟩
        · rw [t1, hW2]; exact s1.trans hb1.os
        · rw [t2, hW2]; exact s2.trans hb1.tape
        · rw [t3, hW2]; exact s3.trans hb1.output
        · rw [t4, hW2]; show _ ≤ (W1.setCells w.heap.size (i * 2) vs).heap.size; rw [s4]; exact hb1.size
      have hvl2 : vs.length = 2 := hvl
      refine ⟨_, rfl, Kd_R_inserted k31 rfl (by omega) hr (kG_made w w0.heap.size _ p vs hpK') (fun k hk => .inl hk) (Nat.le_refl _) hlen hfar c1 hGn hG63 (by rw [c2', a2, hRs, hsz2]) ?_ (.inr (Nat.le_refl _)), below_then hB hlen hbw, Kept.of_below hbw _⟩
      rw [hsz2, c3, a3]
      have e1 : (ROW.toList.take (i * 2) ++ vs ++ ROW.toList.drop (i * 2 + vs.length)).take ((i + 1) * 2) = inner.take (i * 2) ++ vs := by
        rw [hRt]
        exact List.take_left' (by rw [List.length_append, hil, hvl2]; omega)
      rw [e1]
      exact List.take_left' (by rw [List.length_append, List.length_append, hil, htl, hvl2]; omega)
  · rw [if_neg hc] at h
    exact absurd h (by simp)

end Go.Proofs.Ytinbhijeonghaaa.X
