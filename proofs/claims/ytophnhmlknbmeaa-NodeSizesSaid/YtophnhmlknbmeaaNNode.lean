/- A node that is read from a row of bytes: which error number the closure panics, where the bytes are no node. -/
import Derived.Test.YtophnhmlknbmeaaNCut
namespace Go.Proofs.Ytophnhmlknbmeaa.X
open Go.RowKit Go.Proofs.YtophnhmlknbmeaaW.PrintWords Go.Proofs.YtophnhmlknbmeaaW.PrintLast Go.Proofs.YtophnhmlknbmeaaW.PrintMore Go.Proofs.Ytophnhmlknbmeaa.More
set_option linter.unusedVariables false
set_option linter.unusedSimpArgs false
theorem w64_ {n : Int} (h1 : 0 ≤ n) (h2 : n < 512) : wrap64 n = n := by unfold wrap64; omega
theorem R_isSlice {α : Type} {d : Kd α} {e : TypeId} {w : World} {base : Nat} {ok : Nat → Prop} {v : Value} {xs : List α} (h : d.R e w base ok v xs) : ∃ a n c, v = .slice a n c := by
  obtain ⟨_, inner, ho, _⟩ := h
  rcases ho.2 with ⟨rfl, _⟩ | ⟨g, cap, cur, rfl, _⟩ <;> exact ⟨_, _, _, rfl⟩
theorem info_i64 : (Try.prog.info? 2).map (fun i => (i.zero, i.size, i.bytes)) = some (some (.int .i64 0), 1, 8) := by kernel_rfl
theorem isa_less {y : Int} (h0 : 0 < y) : (intOf (Value.int .i64 (y - 1))).toNat < (intOf (Value.int .i64 y)).toNat := by
  show (y - 1).toNat < y.toNat
  omega
/-- What reading tells, from behind: nothing is left, or something is. -/
def cEnd (L : List Int) : Int := if L = [] then 0 else 9
def cWords : Nat → List Int → Int
  | 0, L => cEnd L
  | n + 1, L => if L.length < 8 then 8 else cWords n (L.drop 8)
def cOne (f : Int → List Int → Int) : List Int → Int
  | [] => 8
  | x :: r => f x r
def cStr (f : List Int → Int) : List Int → Int
  | [] => 8
  | x :: r => if (r.length : Int) < x then 8 else f (r.drop x.toNat)
def cLab (f : List Int → Int) (L : List Int) : Int := if L.length < 4 then 8 else f (L.drop 4)
def cNum : List Int → Int := cOne fun x r => cWords x.toNat r
def cTail : List Int → Int := cOne fun _ => cOne fun _ => cOne fun _ => cOne fun _ => cNum
def cAcl : Nat → List Int → Int
  | 0, L => cTail L
  | n + 1, L => cStr (cOne fun _ r => cAcl n r) L
def cGrants : List Int → Int := cOne fun x r => cAcl x.toNat r
def cDir : List Int → Int := cOne fun d r => if 1 < d then 11 else cLab (cLab cGrants) r
def cNode : List Int → Int := cStr cDir
theorem cStr_cut {f : List Int → Int} {L : List Int} (h : L = [] ∨ ∃ x r, L = x :: r ∧ (r.length : Int) < x) : cStr f L = 8 := by
  rcases h with rfl | ⟨x, r, rfl, h⟩
  · rfl
  · simp only [cStr]
    rw [if_pos h]
theorem cStr_ok {f : List Int → Int} (X r : List Int) : cStr f ((X.length : Int) :: (X ++ r)) = f r := by
  simp only [cStr]
  rw [if_neg (by rw [List.length_append]; omega), Int.toNat_natCast, List.drop_left' rfl]
theorem cLab_ok {f : List Int → Int} (a b c d : Int) (r : List Int) : cLab f (a :: b :: c :: d :: r) = f r := by
  unfold cLab
  rw [if_neg (by simp)]
  rfl
theorem cWords_ok (n : Nat) (A r : List Int) (hA : A.length = 8) : cWords (n + 1) (A ++ r) = cWords n r := by
  simp only [cWords]
  rw [if_neg (by rw [List.length_append]; omega), List.drop_left' hA]
/-- Midway, with the two rows that grow. -/
def Nd (w0 W : World) (rp mb rb B N : Nat) (cells : Array Value) (v6 v11 : Value) (l6 : List S35) (l11 : List Int) (L : List Int) : Prop :=
  Ms 29 w0 W rp mb rb B N cells L ∧ Byt L ∧ (∃ cur, W.heap[B]? = some (.cells cur 5 (0, 0))) ∧ Kd.R k35 35 W w0.heap.size (fun _ => True) v6 l6 ∧ Kd.R (Kd.int .i64) 2 W w0.heap.size (fun _ => True) v11 l11
section
variable {w0 W w1 : World} {rp mb rb B N : Nat} {cells cs' : Array Value} {v6 v11 : Value} {l6 : List S35} {l11 : List Int} {L L' : List Int}
theorem Nd.rd (h : Nd w0 W rp mb rb B N cells v6 v11 l6 l11 L) : RdB W rb B L := h.1.rd
theorem Nd.bl (h : Nd w0 W rp mb rb B N cells v6 v11 l6 l11 L) : Below w0.heap.size w0 W := h.1.2.2.2.2.1
theorem Nd.cut {w' : World} (h : Nd w0 W rp mb rb B N cells v6 v11 l6 l11 L) (ho : Off W rb w') : w'.heap[N]? = some (.cells #[.int .i64 0] 43 (0, 0)) ∧ Below w0.heap.size w0 w' :=
  ⟨ho.1 _ _ h.1.2.2.1 h.1.2.2.2.2.2.2.2.2.2.1, ho.2 w0 h.bl h.1.2.2.2.2.2.1⟩
theorem keep_of_left (h : Left W rb B L w1) : KeepBut W w1 rb none := ⟨h.1, fun i hi hne _ => by
  have e := Array.getElem?_eq_getElem hi
  rw [e]
  exact h.2.1 i _ e hne⟩
theorem Nd.left (h : Nd w0 W rp mb rb B N cells v6 v11 l6 l11 L) (k : Left W rb B L' w1) (hb : Byt L') : Nd w0 w1 rp mb rb B N cells v6 v11 l6 l11 L' := by
  obtain ⟨hM, hB, ⟨cur, hcur⟩, h6, h11⟩ := h
  have hk := keep_of_left k
  obtain ⟨hne, off, cap, hh, _⟩ := hM.rd
  exact ⟨hM.left k, hb, ⟨cur, k.2.1 _ _ hcur hne⟩, Kd.R_mono (Kd.R_keep (Kd.R_types h6 hh (by decide)) hk (fun _ q => q.2)) (fun _ _ => trivial), Kd.R_mono (Kd.R_keep (Kd.R_types h11 hh (by decide)) hk (fun _ q => q.2)) (fun _ _ => trivial)⟩
theorem Nd.put (h : Nd w0 W rp mb rb B N cells v6 v11 l6 l11 L) (j : Nat) (v : Value) (e : cells.setIfInBounds j v = cs') : Nd w0 (W.setCell ⟨mb, j, none⟩ v) rp mb rb B N cs' v6 v11 l6 l11 L := by
  obtain ⟨hM, hB, ⟨cur, hcur⟩, h6, h11⟩ := h
  have hm := hM.2.1
  have hBm : B ≠ mb := hM.2.2.2.2.2.2.2.2.2.2.2.2
  exact ⟨hM.put j v e, hB, ⟨cur, (Below.heap_setCell W ⟨mb, j, none⟩ v B hBm).trans hcur⟩, Kd.R_mono (Kd.R_far (Kd.R_types h6 hm (by decide)) (fun _ q => q.2) v) (fun _ _ => trivial), Kd.R_mono (Kd.R_far (Kd.R_types h11 hm (by decide)) (fun _ q => q.2) v) (fun _ _ => trivial)⟩
theorem Nd.below (h : Nd w0 W rp mb rb B N cells v6 v11 l6 l11 L) (hb : Below W.heap.size W w1) : Nd w0 w1 rp mb rb B N cells v6 v11 l6 l11 L := by
  obtain ⟨⟨m1, m2, m3, m4, m5, m6⟩, hB, ⟨cur, hcur⟩, h6, h11⟩ := h
  exact ⟨⟨blk_below m1 hb, blk_below m2 hb, blk_below m3 hb, m4.below hb, below_step m5 hb, m6⟩, hB, ⟨cur, blk_below hcur hb⟩, Kd.R_below h6 hb, Kd.R_below h11 hb⟩
theorem Nd.drew (h : Nd w0 W rp mb rb B N cells v6 v11 l6 l11 L) : Nd w0 W.drew rp mb rb B N cells v6 v11 l6 l11 L := h.below (below_drew1 (Below.refl _ _))
theorem Ms.grown {row : Option Nat} {cur : Array Value} (h : Ms 29 w0 W rp mb rb B N cells L) (hcur : W.heap[B]? = some (.cells cur 5 (0, 0))) (hg : W.grownBy w1 row) (hb : Below w0.heap.size w0 w1) (hr : ∀ g cs t, W.heap[g]? = some (.cells cs t (0, 0)) → t ≠ 35 → t ≠ 2 → some g ≠ row) : Ms 29 w0 w1 rp mb rb B N cells L := by
  obtain ⟨m1, m2, m3, ⟨hne, off, cap, hh, hc, hx⟩, m5, m6⟩ := h
  refine ⟨blk_grown m1 hg (hr _ _ _ m1 (by decide) (by decide)), blk_grown m2 hg (hr _ _ _ m2 (by decide) (by decide)), blk_grown m3 hg (hr _ _ _ m3 (by decide) (by decide)), ⟨hne, off, cap, blk_grown hh hg (hr _ _ _ hh (by decide) (by decide)), hc, fun i hi => ?_⟩, hb, m6⟩
  have e := blk_grown hcur hg (hr _ _ _ hcur (by decide) (by decide))
  have e2 := hx i hi
  unfold World.cell? at e2 ⊢
  rw [e]
  rw [hcur] at e2
  exact e2
theorem Nd.grown6 {v1 : Value} {k6 : List S35} (h : Nd w0 W rp mb rb B N cells v6 v11 l6 l11 L) (ho : Kd.R k35 35 w1 w0.heap.size (fun _ => True) v1 k6) (hb : Below w0.heap.size w0 w1) (hg : W.grownBy w1 v6.ownBlock) : Nd w0 w1 rp mb rb B N cells v1 v11 k6 l11 L := by
  obtain ⟨hM, hB, ⟨cur, hcur⟩, h6, h11⟩ := h
  have hr : ∀ g cs t, W.heap[g]? = some (.cells cs t (0, 0)) → t ≠ 35 → t ≠ 2 → some g ≠ v6.ownBlock := fun g cs t hq h1 _ => Kd.R_ne h6 hq (fun e => h1 e.symm)
  exact ⟨hM.grown hcur hg hb hr, hB, ⟨cur, blk_grown hcur hg (hr _ _ _ hcur (by decide) (by decide))⟩, ho, Kd.R_over' h11 (Kd.R_typed h6) (by decide) hg⟩
theorem Nd.grown11 {v1 : Value} {k11 : List Int} (h : Nd w0 W rp mb rb B N cells v6 v11 l6 l11 L) (ho : Kd.R (Kd.int .i64) 2 w1 w0.heap.size (fun _ => True) v1 k11) (hb : Below w0.heap.size w0 w1) (hg : W.grownBy w1 v11.ownBlock) : Nd w0 w1 rp mb rb B N cells v6 v1 l6 k11 L := by
  obtain ⟨hM, hB, ⟨cur, hcur⟩, h6, h11⟩ := h
  have hr : ∀ g cs t, W.heap[g]? = some (.cells cs t (0, 0)) → t ≠ 35 → t ≠ 2 → some g ≠ v11.ownBlock := fun g cs t hq _ h1 => Kd.R_ne h11 hq (fun e => h1 e.symm)
  exact ⟨hM.grown hcur hg hb hr, hB, ⟨cur, blk_grown hcur hg (hr _ _ _ hcur (by decide) (by decide))⟩, Kd.R_over' h6 (Kd.R_typed h11) (by decide) hg, ho⟩
end
def parseT5 : Bool × List (List Nat × List Nat) := (true, [([], []), ([0], [0]), ([], []), ([2, 1], [2]), ([0, 1, 2, 3], []), ([4, 1, 3, 0, 1, 2, 3], [1, 4]), ([0, 1, 2, 3, 4, 5], []), ([6, 3, 5, 0, 1, 2, 3, 4, 5], [3, 6])])
def parseB5 : List Nat := [0, 1, 0, 7, 15, 31, 63, 127]
theorem parse_tab5 : rtab .any (opsOf Try.f40 5) = parseT5 := by kernel_rfl
theorem parse_bits5 : waitsOk parseT5.2 parseB5 = true := by kernel_rfl
def parseT10 : Bool × List (List Nat × List Nat) := (true, [([], []), ([0], [0]), ([], []), ([], []), ([3], [3]), ([2, 4], [2, 4]), ([5], [5]), ([1, 6, 4], [1, 6]), ([0, 1, 2, 3, 4, 5, 6, 7], []), ([8, 7, 7, 0, 1, 2, 3, 4, 5, 6, 7], [7, 8])])
def parseB10 : List Nat := [0, 1, 0, 0, 8, 28, 60, 127, 255, 511]
theorem parse_tab10 : rtab .any (opsOf Try.f40 10) = parseT10 := by kernel_rfl
theorem parse_bits10 : waitsOk parseT10.2 parseB10 = true := by kernel_rfl
def parseT11 : Bool × List (List Nat × List Nat) := (true, [([], []), ([0], [0]), ([], []), ([2, 1], [2]), ([0, 1, 2, 3], []), ([4, 0, 1, 2, 3], [4]), ([5, 1, 3, 0, 1, 2, 3], [1, 5]), ([0, 1, 2, 3, 4, 5, 6], []), ([7, 0, 1, 2, 3, 4, 5, 6], [7]), ([8, 3, 6, 0, 1, 2, 3, 4, 5, 6], [3, 8])])
def parseB11 : List Nat := [0, 1, 0, 7, 15, 31, 63, 127, 255, 511]
theorem parse_tab11 : rtab .any (opsOf Try.f40 11) = parseT11 := by kernel_rfl
theorem parse_bits11 : waitsOk parseT11.2 parseB11 = true := by kernel_rfl
def parseT12 : Bool × List (List Nat × List Nat) := (true, [([], []), ([0], [0]), ([], []), ([2, 1], [2]), ([0, 1, 2, 3], []), ([4, 0, 1, 2, 3], [4]), ([5, 1, 3, 0, 1, 2, 3], [1, 5]), ([0, 1, 2, 3, 4, 5, 6], []), ([7, 0, 1, 2, 3, 4, 5, 6], [7]), ([8, 3, 6, 0, 1, 2, 3, 4, 5, 6], [3, 8])])
def parseB12 : List Nat := [0, 1, 0, 7, 15, 31, 63, 127, 255, 511]
theorem parse_tab12 : rtab .any (opsOf Try.f40 12) = parseT12 := by kernel_rfl
theorem parse_bits12 : waitsOk parseT12.2 parseB12 = true := by kernel_rfl
def parseT16 : Bool × List (List Nat × List Nat) := (true, [([], []), ([0], [0]), ([], []), ([2], [2]), ([3], [3]), ([1, 4, 3], [1, 4]), ([0, 1, 2, 3, 4, 5], []), ([6, 5, 5, 0, 1, 2, 3, 4, 5], [5, 6])])
def parseB16 : List Nat := [0, 1, 0, 4, 12, 31, 63, 127]
theorem parse_tab16 : rtab .any (opsOf Try.f40 16) = parseT16 := by kernel_rfl
theorem parse_bits16 : waitsOk parseT16.2 parseB16 = true := by kernel_rfl
set_option maxHeartbeats 40000000 in
set_option maxRecDepth 100000 in
/-- What Parse's closure panics, where the bytes are no node. -/
theorem node_closure (w0 W : World) (rp mb rb B N : Nat) (L0 : List Int) (c : Int) (hc : cNode L0 = c) (hc0 : c ≠ 0) (hN : Nd w0 W rp mb rb B N #[.string ⟨#[]⟩, .bool false, .int .i64 0, .int .i64 0, .int .i64 0, .int .i64 0, .slice none 0 0, .int .i64 0, .int .i64 0, .int .i64 0, .int .i64 0, .slice none 0 0, .int .i64 0, .int .i64 0, .int .i64 0, .int .i64 0] (.slice none 0 0) (.slice none 0 0) [] [] L0) :
    Calls Try.prog 40 #[.pointer (some ⟨rp, 0, none⟩), .pointer (some ⟨mb, 0, none⟩)] W fun e w' => e = boom c ∧ w'.heap[N]? = some (.cells #[.int .i64 0] 43 (0, 0)) ∧ Below w0.heap.size w0 w' := by
  have HN := Aside0.mk hN
  have HC := Aside0.mk hc
  have HC0 := Aside0.mk hc0
  clear hN hc hc0
  have hu1 := Try.underlying29
  have hu2 := Try.underlying23
  have hu3 := Try.underlying58
  have hu4 := Try.underlying35
  have hu5 := Try.underlying26
  have p_ : W.cell? ⟨rp, 0, none⟩ = some (.pointer (some ⟨rb, 0, none⟩)) := (blk_cell HN.out.1.1 0).trans rfl
  go_enter Try.func40, Try.ntmps40
  go_wp2_with fail
  refine (row_str_any rb B L0 _ HN.out.rd HN.out.2.1).mono ?_
  rintro e w1 (⟨hcut, rfl, ho⟩ | ⟨X1, L1, hL, rfl, hl⟩)
  · have e8 : c = 8 := HC.out.symm.trans (cStr_cut hcut)
    subst e8
    exact ⟨rfl, rfl, HN.out.cut ho⟩
  have hby := HN.out.2.1
  rw [hL] at hby
  have HN' := Aside0.mk (HN.out.left hl hby.tail.right)
  clear HN
  have HN := HN'
  clear HN'
  have HC' : Aside0 (cDir L1 = c) := ⟨by have h_ := HC.out; rw [hL] at h_; exact (cStr_ok _ _).symm.trans h_⟩
  clear HC
  have HC := HC'
  clear HC' hby hl hL
  clear p_
  have p_ : w1.cell? ⟨rp, 0, none⟩ = some (.pointer (some ⟨rb, 0, none⟩)) := (blk_cell HN.out.1.1 0).trans rfl
  have m0 : w1.cell? ⟨mb, 0, none⟩ = some (.string ⟨#[]⟩) := (blk_cell HN.out.1.2.1 0).trans rfl
  have f0 : w1.frozen? ⟨mb, 0, none⟩ = false := blk_frozen HN.out.1.2.1 0
  have HN' := Aside0.mk (Nd.put (cs' := #[.string (strOfNums X1), .bool false, .int .i64 0, .int .i64 0, .int .i64 0, .int .i64 0, .slice none 0 0, .int .i64 0, .int .i64 0, .int .i64 0, .int .i64 0, .slice none 0 0, .int .i64 0, .int .i64 0, .int .i64 0, .int .i64 0]) (HN.out) 0 (.string (strOfNums X1)) rfl)
  clear HN
  have HN := HN'
  clear HN'
  have hnb := HN.out.1.2.2.2.2.2.2.2.2.2.2.1
  have hnc : mb ≠ rp := fun e => hnb e.symm
  go_wp2_with fail
  clear p_ m0 f0 hnb hnc
  refine (row_one_any rb B L1 _ HN.out.rd HN.out.2.1).mono ?_
  rintro e w2 (⟨hcut, rfl, ho⟩ | ⟨x2, L2, hL, hx2, rfl, hl⟩)
  · have e8 : c = 8 := HC.out.symm.trans (by rw [hcut]; rfl)
    subst e8
    exact ⟨rfl, rfl, HN.out.cut ho⟩
  have hby := HN.out.2.1
  rw [hL] at hby
  have HN' := Aside0.mk (HN.out.left hl hby.tail)
  clear HN
  have HN := HN'
  clear HN'
  have HC' : Aside0 ((fun r => if 1 < x2 then 11 else cLab (cLab cGrants) r) L2 = c) := ⟨by have h_ := HC.out; rw [hL] at h_; exact h_⟩
  clear HC
  have HC := HC'
  clear HC' hby hl hL
  by_cases hd : 1 < x2
  · have e11 : c = 11 := HC.out.symm.trans (if_pos hd)
    subst e11
    go_wp2_with fail
    exact ⟨rfl, rfl, HN.out.cut (Off.refl _ _)⟩
  have HC' : Aside0 (cLab (cLab cGrants) L2 = c) := ⟨by have h_ := HC.out; dsimp only at h_; rw [if_neg hd] at h_; exact h_⟩
  clear HC
  have HC := HC'
  clear HC'
  have p_ : w2.cell? ⟨rp, 0, none⟩ = some (.pointer (some ⟨rb, 0, none⟩)) := (blk_cell HN.out.1.1 0).trans rfl
  have m1 : w2.cell? ⟨mb, 1, none⟩ = some (.bool false) := (blk_cell HN.out.1.2.1 1).trans rfl
  have f1 : w2.frozen? ⟨mb, 1, none⟩ = false := blk_frozen HN.out.1.2.1 1
  have hnb := HN.out.1.2.2.2.2.2.2.2.2.2.2.1
  have hnc : mb ≠ rp := fun e => hnb e.symm
  have HN' := Aside0.mk (Nd.put (cs' := #[.string (strOfNums X1), .bool (x2 == 1), .int .i64 0, .int .i64 0, .int .i64 0, .int .i64 0, .slice none 0 0, .int .i64 0, .int .i64 0, .int .i64 0, .int .i64 0, .slice none 0 0, .int .i64 0, .int .i64 0, .int .i64 0, .int .i64 0]) (HN.out) 1 (.bool (x2 == 1)) rfl)
  clear HN
  have HN := HN'
  clear HN'
  go_wp2_with fail
  clear m1 f1 hnb hnc
  refine start_ (n := 8) (S := fun w' => w'.cell? ⟨rp, 0, none⟩ = some (.pointer (some ⟨rb, 0, none⟩))) (ds := []) #[false, false, false, false, false, false, false, false] (by kernel_rfl) rfl rfl ((blk_cell HN.out.drew.1.1 0).trans rfl) (fun hHeld => ?_)
  refine with_tabW parse_tab5 parse_bits5 (fun HT_ HW_ => ?_)
  have HN' := Aside0.mk (HN.out.drew)
  clear HN
  have HN := HN'
  clear HN'
  try clear p_
  generalize World.drew _ = w3 at HN hHeld ⊢
  refine take_ (i := 0) (N := some 17) (v := ?_) (a' := ?_) #[true, false, false, false, false, false, false, false] rfl rfl (take_ofW HT_.out HW_.out (by kernel_rfl)) (fun _ _ _ h => h) (Or.inl ⟨by rfl, ?_⟩) hHeld ?_ ?_
  rotate_left
  · rintro w' s0
    go_simp
    with_reducible rfl
  rotate_left
  · simp only [Act.put, xset_a, xset_z, xset_s, i64_w, i32_w]
    rfl
  refine take_ (i := 2) (N := some 19) (v := ?_) (a' := ?_) #[true, false, true, false, false, false, false, false] rfl rfl (take_ofW HT_.out HW_.out (by kernel_rfl)) (fun _ _ _ h => h) (Or.inl ⟨by rfl, ?_⟩) hHeld ?_ ?_
  rotate_left
  · rintro w' s0
    go_simp
    with_reducible rfl
  rotate_left
  · simp only [Act.put, xset_a, xset_z, xset_s, i64_w, i32_w]
    rfl
  refine one_ (i := 1) (N := some 18) #[true, true, true, false, false, false, false, false] rfl rfl (one_of HT_.out (by kernel_rfl)) (by decide) (fun K hK => ?_)
  refine callP_ Try.func32 (by kernel_rfl) rfl #[.pointer (some ⟨rb, 0, none⟩)] (by rfl) rfl rfl (by (try simp only [List.map_toArray, List.map_cons, List.map_nil]); first | done | rfl) ?_
  refine (row_where_any rb B L2 _ HN.out.rd HN.out.2.1).mono ?_
  rintro e w4 (⟨hcut, rfl, ho⟩ | ⟨a4, b4, c4, d4, L4, hL, rfl, hl⟩)
  · have e8 : c = 8 := HC.out.symm.trans (by first | (unfold cLab; exact if_pos hcut) | (show cLab _ _ = 8; unfold cLab; exact if_pos hcut))
    refine .inl ⟨_, rfl, ?_⟩
    subst e8
    exact ⟨rfl, rfl, HN.out.cut ho⟩
  have hby := HN.out.2.1
  rw [hL] at hby
  have HN' := Aside0.mk (HN.out.left hl hby.tail.tail.tail.tail)
  clear HN
  have HN := HN'
  clear HN'
  have HC' : Aside0 (cLab cGrants L4 = c) := ⟨by have h_ := HC.out; rw [hL] at h_; exact (cLab_ok _ _ _ _ _).symm.trans h_⟩
  clear HC
  have HC := HC'
  clear HC' hby hl hL
  refine .inr ⟨_, rfl, ?_⟩
  refine hK.out _ _ ((blk_cell HN.out.1.1 0).trans rfl) (fun hHeld => ?_)
  clear hK K
  refine norm_ (a' := ?_) ?_ ?_
  rotate_left
  · show Act.put _ (some 18) _ = _
    simp only [Act.put, xset_a, xset_z, xset_s, i64_w, i32_w]
    rfl
  refine one_ (i := 3) (N := some 20) #[true, true, true, true, false, false, false, false] rfl rfl (one_of HT_.out (by kernel_rfl)) (by decide) (fun K hK => ?_)
  refine callP_ Try.func32 (by kernel_rfl) rfl #[.pointer (some ⟨rb, 0, none⟩)] (by rfl) rfl rfl (by (try simp only [List.map_toArray, List.map_cons, List.map_nil]); first | done | rfl) ?_
  refine (row_where_any rb B L4 _ HN.out.rd HN.out.2.1).mono ?_
  rintro e w5 (⟨hcut, rfl, ho⟩ | ⟨a5, b5, c5, d5, L5, hL, rfl, hl⟩)
  · have e8 : c = 8 := HC.out.symm.trans (by first | (unfold cLab; exact if_pos hcut) | (show cLab _ _ = 8; unfold cLab; exact if_pos hcut))
    refine .inl ⟨_, rfl, ?_⟩
    subst e8
    exact ⟨rfl, rfl, HN.out.cut ho⟩
  have hby := HN.out.2.1
  rw [hL] at hby
  have HN' := Aside0.mk (HN.out.left hl hby.tail.tail.tail.tail)
  clear HN
  have HN := HN'
  clear HN'
  have HC' : Aside0 (cGrants L5 = c) := ⟨by have h_ := HC.out; rw [hL] at h_; exact (cLab_ok _ _ _ _ _).symm.trans h_⟩
  clear HC
  have HC := HC'
  clear HC' hby hl hL
  refine .inr ⟨_, rfl, ?_⟩
  refine hK.out _ _ ((blk_cell HN.out.1.1 0).trans rfl) (fun hHeld => ?_)
  clear hK K
  refine norm_ (a' := ?_) ?_ ?_
  rotate_left
  · show Act.put _ (some 20) _ = _
    simp only [Act.put, xset_a, xset_z, xset_s, i64_w, i32_w]
    rfl
  refine pure_ (i := 4) (N := some 21) (v := ?_) (a' := ?_) #[true, true, true, true, true, false, false, false] rfl rfl (any_of HT_.out (by kernel_rfl)) (fun _ _ _ h => h) (Or.inl ⟨by rfl, ?_⟩) ?_ ?_
  rotate_left
  · intro w'
    go_simp
    with_reducible rfl
  rotate_left
  · simp only [Act.put, xset_a, xset_z, xset_s, i64_w, i32_w]
    rfl
  refine one_ (i := 5) (N := none) #[true, true, true, true, true, true, false, false] rfl rfl (one_of HT_.out (by kernel_rfl)) (by decide) (fun K hK => ?_)
  have m2 : w5.cell? ⟨mb, 2, none⟩ = some (.int .i64 0) := (blk_cell HN.out.1.2.1 2).trans rfl
  have f2 : w5.frozen? ⟨mb, 2, none⟩ = false := blk_frozen HN.out.1.2.1 2
  have m3 : w5.cell? ⟨mb, 3, none⟩ = some (.int .i64 0) := (blk_cell HN.out.1.2.1 3).trans rfl
  have f3 : w5.frozen? ⟨mb, 3, none⟩ = false := blk_frozen HN.out.1.2.1 3
  have m4 : w5.cell? ⟨mb, 4, none⟩ = some (.int .i64 0) := (blk_cell HN.out.1.2.1 4).trans rfl
  have f4 : w5.frozen? ⟨mb, 4, none⟩ = false := blk_frozen HN.out.1.2.1 4
  have m5 : w5.cell? ⟨mb, 5, none⟩ = some (.int .i64 0) := (blk_cell HN.out.1.2.1 5).trans rfl
  have f5 : w5.frozen? ⟨mb, 5, none⟩ = false := blk_frozen HN.out.1.2.1 5
  have hnb := HN.out.1.2.2.2.2.2.2.2.2.2.2.1
  have hnc : mb ≠ rp := fun e => hnb e.symm
  with_reducible refine skip_ (w1 := ?_) ?_ rfl ?_ ?_
  rotate_left
  · rfl
  · go_simp
    rfl
  clear m2 f2 m3 f3 m4 f4 m5 f5
  clear hnb hnc
  have HN' := Aside0.mk (Nd.put (cs' := #[.string (strOfNums X1), .bool (x2 == 1), .int .i64 a4, .int .i64 b4, .int .i64 c4, .int .i64 d4, .slice none 0 0, .int .i64 0, .int .i64 0, .int .i64 0, .int .i64 0, .slice none 0 0, .int .i64 0, .int .i64 0, .int .i64 0, .int .i64 0]) (Nd.put (cs' := #[.string (strOfNums X1), .bool (x2 == 1), .int .i64 a4, .int .i64 b4, .int .i64 c4, .int .i64 0, .slice none 0 0, .int .i64 0, .int .i64 0, .int .i64 0, .int .i64 0, .slice none 0 0, .int .i64 0, .int .i64 0, .int .i64 0, .int .i64 0]) (Nd.put (cs' := #[.string (strOfNums X1), .bool (x2 == 1), .int .i64 a4, .int .i64 b4, .int .i64 0, .int .i64 0, .slice none 0 0, .int .i64 0, .int .i64 0, .int .i64 0, .int .i64 0, .slice none 0 0, .int .i64 0, .int .i64 0, .int .i64 0, .int .i64 0]) (Nd.put (cs' := #[.string (strOfNums X1), .bool (x2 == 1), .int .i64 a4, .int .i64 0, .int .i64 0, .int .i64 0, .slice none 0 0, .int .i64 0, .int .i64 0, .int .i64 0, .int .i64 0, .slice none 0 0, .int .i64 0, .int .i64 0, .int .i64 0, .int .i64 0]) (HN.out) 2 (.int .i64 a4) rfl) 3 (.int .i64 b4) rfl) 4 (.int .i64 c4) rfl) 5 (.int .i64 d4) rfl)
  clear HN
  have HN := HN'
  clear HN'
  refine hK.out _ _ ((blk_cell HN.out.1.1 0).trans rfl) (fun hHeld => ?_)
  clear hK K
  generalize World.setCell (World.setCell (World.setCell (World.setCell w5 ⟨mb, 2, none⟩ (.int .i64 a4)) ⟨mb, 3, none⟩ (.int .i64 b4)) ⟨mb, 4, none⟩ (.int .i64 c4)) ⟨mb, 5, none⟩ (.int .i64 d4) = w6 at HN hHeld ⊢
  refine pure_ (i := 6) (N := some 22) (v := ?_) (a' := ?_) #[true, true, true, true, true, true, true, false] rfl rfl (any_of HT_.out (by kernel_rfl)) (fun _ _ _ h => h) (Or.inl ⟨by rfl, ?_⟩) ?_ ?_
  rotate_left
  · intro w'
    go_simp
    with_reducible rfl
  rotate_left
  · simp only [Act.put, xset_a, xset_z, xset_s, i64_w, i32_w]
    rfl
  refine one_ (i := 7) (N := none) #[true, true, true, true, true, true, true, true] rfl rfl (one_of HT_.out (by kernel_rfl)) (by decide) (fun K hK => ?_)
  have m12 : w6.cell? ⟨mb, 12, none⟩ = some (.int .i64 0) := (blk_cell HN.out.1.2.1 12).trans rfl
  have f12 : w6.frozen? ⟨mb, 12, none⟩ = false := blk_frozen HN.out.1.2.1 12
  have m13 : w6.cell? ⟨mb, 13, none⟩ = some (.int .i64 0) := (blk_cell HN.out.1.2.1 13).trans rfl
  have f13 : w6.frozen? ⟨mb, 13, none⟩ = false := blk_frozen HN.out.1.2.1 13
  have m14 : w6.cell? ⟨mb, 14, none⟩ = some (.int .i64 0) := (blk_cell HN.out.1.2.1 14).trans rfl
  have f14 : w6.frozen? ⟨mb, 14, none⟩ = false := blk_frozen HN.out.1.2.1 14
  have m15 : w6.cell? ⟨mb, 15, none⟩ = some (.int .i64 0) := (blk_cell HN.out.1.2.1 15).trans rfl
  have f15 : w6.frozen? ⟨mb, 15, none⟩ = false := blk_frozen HN.out.1.2.1 15
  have hnb := HN.out.1.2.2.2.2.2.2.2.2.2.2.1
  have hnc : mb ≠ rp := fun e => hnb e.symm
  with_reducible refine skip_ (w1 := ?_) ?_ rfl ?_ ?_
  rotate_left
  · rfl
  · go_simp
    rfl
  clear m12 f12 m13 f13 m14 f14 m15 f15
  clear hnb hnc
  have HN' := Aside0.mk (Nd.put (cs' := #[.string (strOfNums X1), .bool (x2 == 1), .int .i64 a4, .int .i64 b4, .int .i64 c4, .int .i64 d4, .slice none 0 0, .int .i64 0, .int .i64 0, .int .i64 0, .int .i64 0, .slice none 0 0, .int .i64 a5, .int .i64 b5, .int .i64 c5, .int .i64 d5]) (Nd.put (cs' := #[.string (strOfNums X1), .bool (x2 == 1), .int .i64 a4, .int .i64 b4, .int .i64 c4, .int .i64 d4, .slice none 0 0, .int .i64 0, .int .i64 0, .int .i64 0, .int .i64 0, .slice none 0 0, .int .i64 a5, .int .i64 b5, .int .i64 c5, .int .i64 0]) (Nd.put (cs' := #[.string (strOfNums X1), .bool (x2 == 1), .int .i64 a4, .int .i64 b4, .int .i64 c4, .int .i64 d4, .slice none 0 0, .int .i64 0, .int .i64 0, .int .i64 0, .int .i64 0, .slice none 0 0, .int .i64 a5, .int .i64 b5, .int .i64 0, .int .i64 0]) (Nd.put (cs' := #[.string (strOfNums X1), .bool (x2 == 1), .int .i64 a4, .int .i64 b4, .int .i64 c4, .int .i64 d4, .slice none 0 0, .int .i64 0, .int .i64 0, .int .i64 0, .int .i64 0, .slice none 0 0, .int .i64 a5, .int .i64 0, .int .i64 0, .int .i64 0]) (HN.out) 12 (.int .i64 a5) rfl) 13 (.int .i64 b5) rfl) 14 (.int .i64 c5) rfl) 15 (.int .i64 d5) rfl)
  clear HN
  have HN := HN'
  clear HN'
  refine hK.out _ _ ((blk_cell HN.out.1.1 0).trans rfl) (fun hHeld => ?_)
  clear hK K
  generalize World.setCell (World.setCell (World.setCell (World.setCell w6 ⟨mb, 12, none⟩ (.int .i64 a5)) ⟨mb, 13, none⟩ (.int .i64 b5)) ⟨mb, 14, none⟩ (.int .i64 c5)) ⟨mb, 15, none⟩ (.int .i64 d5) = w7 at HN hHeld ⊢
  refine done_ (done_of HT_.out (by kernel_rfl)) ?_
  have p_ : w7.cell? ⟨rp, 0, none⟩ = some (.pointer (some ⟨rb, 0, none⟩)) := (blk_cell HN.out.1.1 0).trans rfl
  go_wp2_with fail
  clear p_
  refine (row_one_any rb B L5 _ HN.out.rd HN.out.2.1).mono ?_
  rintro e w8 (⟨hcut, rfl, ho⟩ | ⟨x8, L8, hL, hx8, rfl, hl⟩)
  · have e8 : c = 8 := HC.out.symm.trans (by rw [hcut]; rfl)
    subst e8
    exact ⟨rfl, rfl, HN.out.cut ho⟩
  have hby := HN.out.2.1
  rw [hL] at hby
  have HN' := Aside0.mk (HN.out.left hl hby.tail)
  clear HN
  have HN := HN'
  clear HN'
  have HC' : Aside0 (cAcl x8.toNat L8 = c) := ⟨by have h_ := HC.out; rw [hL] at h_; exact h_⟩
  clear HC
  have HC := HC'
  clear HC' hby hl hL
  go_wp2_with fail
  go_loopw [3] (fun sl wr => ∃ (y : Int) (v6 : Value) (l6 : List S35) (L : List Int), sl = .int .i64 y ∧ (0 ≤ y ∧ l6.length + y < 512 ∧ y < 256) ∧ Aside0 (cAcl y.toNat L = c) ∧ Aside0 (Nd w0 wr rp mb rb B N #[.string (strOfNums X1), .bool (x2 == 1), .int .i64 a4, .int .i64 b4, .int .i64 c4, .int .i64 d4, v6, .int .i64 0, .int .i64 0, .int .i64 0, .int .i64 0, .slice none 0 0, .int .i64 a5, .int .i64 b5, .int .i64 c5, .int .i64 d5] v6 (.slice none 0 0) l6 ([] : List Int) L)) (fun sl _ => (intOf sl).toNat)
  case atStart => exact ⟨x8, _, [], _, rfl, ⟨hx8.1, (by have := hx8.2; simp only [List.length_nil]; omega), hx8.2⟩, HC, HN⟩
  case round =>
    clear HN HC
    obtain ⟨y, v6, l6, L, rfl, ⟨hy0, hyl, hy1⟩, HC, HN⟩ := hrel
    by_cases hy : 0 < y
    · have t1 : decide (0 < y) = true := decide_eq_true hy
      have HW : Aside0 (wrap64 (y - 1) = y - 1) := ⟨w64_ (by omega) (by omega)⟩
      have HC' : Aside0 (cStr (cOne fun _ r => cAcl (y - 1).toNat r) L = c) := ⟨by have h_ := HC.out; rw [show y.toNat = (y - 1).toNat + 1 by omega] at h_; exact h_⟩
      clear HC
      have HC := HC'
      clear HC'
      have p_ : wr.cell? ⟨rp, 0, none⟩ = some (.pointer (some ⟨rb, 0, none⟩)) := (blk_cell HN.out.1.1 0).trans rfl
      go_wp2_with fail
      refine (row_str_any rb B L _ HN.out.rd HN.out.2.1).mono ?_
      rintro e w9 (⟨hcut, rfl, ho⟩ | ⟨X9, L9, hL, rfl, hl⟩)
      · have e8 : c = 8 := HC.out.symm.trans (cStr_cut hcut)
        subst e8
        exact ⟨rfl, rfl, HN.out.cut ho⟩
      have hby := HN.out.2.1
      rw [hL] at hby
      have HN' := Aside0.mk (HN.out.left hl hby.tail.right)
      clear HN
      have HN := HN'
      clear HN'
      have HC' : Aside0 ((cOne fun _ r => cAcl (y - 1).toNat r) L9 = c) := ⟨by have h_ := HC.out; rw [hL] at h_; exact (cStr_ok _ _).symm.trans h_⟩
      clear HC
      have HC := HC'
      clear HC' hby hl hL
      clear p_
      go_wp2_with fail
      refine start_ (n := 10) (S := fun w' => w'.cell? ⟨rp, 0, none⟩ = some (.pointer (some ⟨rb, 0, none⟩)) ∧ w'.cell? ⟨mb, 6, none⟩ = some (v6)) (ds := [9]) #[false, false, false, false, false, false, false, false, false, false] (by kernel_rfl) rfl rfl ⟨(blk_cell HN.out.drew.1.1 0).trans rfl, (blk_cell HN.out.drew.1.2.1 6).trans rfl⟩ (fun hHeld => ?_)
      refine with_tabW parse_tab10 parse_bits10 (fun HT_ HW_ => ?_)
      have HN' := Aside0.mk (HN.out.drew)
      clear HN
      have HN := HN'
      clear HN'
      try clear p_
      generalize World.drew _ = w10 at HN hHeld ⊢
      refine pure_ (i := 0) (N := some 31) (v := ?_) (a' := ?_) #[true, false, false, false, false, false, false, false, false, false] rfl rfl (any_of HT_.out (by kernel_rfl)) (fun _ _ _ h => h) (Or.inl ⟨by rfl, ?_⟩) ?_ ?_
      rotate_left
      · intro w'
        go_simp
        with_reducible rfl
      rotate_left
      · simp only [Act.put, xset_a, xset_z, xset_s, i64_w, i32_w]
        rfl
      refine take_ (i := 1) (N := some 32) (v := ?_) (a' := ?_) #[true, true, false, false, false, false, false, false, false, false] rfl rfl (take_ofW HT_.out HW_.out (by kernel_rfl)) (fun _ _ _ h => h) (Or.inl ⟨by rfl, ?_⟩) hHeld ?_ ?_
      rotate_left
      · rintro w' ⟨s0, s1⟩
        go_simp
        with_reducible rfl
      rotate_left
      · simp only [Act.put, xset_a, xset_z, xset_s, i64_w, i32_w]
        rfl
      refine pure_ (i := 2) (N := some 33) (v := ?_) (a' := ?_) #[true, true, true, false, false, false, false, false, false, false] rfl rfl (any_of HT_.out (by kernel_rfl)) (fun _ _ _ h => h) (Or.inl ⟨by rfl, ?_⟩) ?_ ?_
      rotate_left
      · intro w'
        go_simp
        with_reducible rfl
      rotate_left
      · simp only [Act.put, xset_a, xset_z, xset_s, i64_w, i32_w]
        rfl
      refine take_ (i := 3) (N := some 34) (v := ?_) (a' := ?_) #[true, true, true, true, false, false, false, false, false, false] rfl rfl (take_ofW HT_.out HW_.out (by kernel_rfl)) (fun _ _ _ h => h) (Or.inl ⟨by rfl, ?_⟩) hHeld ?_ ?_
      rotate_left
      · rintro w' ⟨s0, s1⟩
        go_simp
        with_reducible rfl
      rotate_left
      · simp only [Act.put, xset_a, xset_z, xset_s, i64_w, i32_w]
        rfl
      refine one_ (i := 4) (N := some 35) #[true, true, true, true, true, false, false, false, false, false] rfl rfl (one_of HT_.out (by kernel_rfl)) (by decide) (fun K hK => ?_)
      refine callP_ Try.func36 (by kernel_rfl) rfl #[.pointer (some ⟨rb, 0, none⟩)] (by rfl) rfl rfl (by (try simp only [List.map_toArray, List.map_cons, List.map_nil]); first | done | rfl) ?_
      refine (row_one_any rb B L9 _ HN.out.rd HN.out.2.1).mono ?_
      rintro e w11 (⟨hcut, rfl, ho⟩ | ⟨x11, L11, hL, hx11, rfl, hl⟩)
      · have e8 : c = 8 := HC.out.symm.trans (by rw [hcut]; rfl)
        refine .inl ⟨_, rfl, ?_⟩
        subst e8
        exact ⟨rfl, rfl, HN.out.cut ho⟩
      have hby := HN.out.2.1
      rw [hL] at hby
      have HN' := Aside0.mk (HN.out.left hl hby.tail)
      clear HN
      have HN := HN'
      clear HN'
      have HC' : Aside0 (cAcl (y - 1).toNat L11 = c) := ⟨by have h_ := HC.out; rw [hL] at h_; exact h_⟩
      clear HC
      have HC := HC'
      clear HC' hby hl hL
      refine .inr ⟨_, rfl, ?_⟩
      refine hK.out _ _ ⟨(blk_cell HN.out.1.1 0).trans rfl, (blk_cell HN.out.1.2.1 6).trans rfl⟩ (fun hHeld => ?_)
      clear hK K
      refine norm_ (a' := ?_) ?_ ?_
      rotate_left
      · show Act.put _ (some 35) _ = _
        simp only [Act.put, xset_a, xset_z, xset_s, i64_w, i32_w]
        rfl
      refine pure_ (i := 5) (N := some 36) (v := ?_) (a' := ?_) #[true, true, true, true, true, true, false, false, false, false] rfl rfl (any_of HT_.out (by kernel_rfl)) (fun _ _ _ h => h) (Or.inl ⟨by rfl, ?_⟩) ?_ ?_
      rotate_left
      · intro w'
        go_simp
        with_reducible rfl
      rotate_left
      · simp only [Act.put, xset_a, xset_z, xset_s, i64_w, i32_w]
        rfl
      refine one_ (i := 6) (N := some 37) #[true, true, true, true, true, true, true, false, false, false] rfl rfl (one_of HT_.out (by kernel_rfl)) (by decide) (fun K hK => ?_)
      refine value_ (w1 := ?_) (v := ?_) (by rfl) rfl ?_ ?_
      rotate_left 2
      · go_simp
        constructor
        · rfl
        · rfl
      refine hK.out _ _ ⟨(blk_cell (HN.out.below (below_alloc (Below.refl _ _) _)).1.1 0).trans rfl, (blk_cell (HN.out.below (below_alloc (Below.refl _ _) _)).1.2.1 6).trans rfl⟩ (fun hHeld => ?_)
      clear hK K
      refine norm_ (a' := ?_) ?_ ?_
      rotate_left
      · show Act.put _ (some 37) _ = _
        simp only [Act.put, xset_a, xset_z, xset_s, i64_w, i32_w]
        rfl
      refine one_ (i := 7) (N := some 38) #[true, true, true, true, true, true, true, true, false, false] rfl rfl (one_of HT_.out (by kernel_rfl)) (by decide) (fun K hK => ?_)
      refine Kd.R_append_step k35 (w0 := w0) w0.heap.size (by rfl) (.tmp 32) (.tmp 37) 24 35 (.agg #[(.string ⟨#[]⟩), (.int .i64 0)]) 24 rfl Try.underlying24 info35 rfl (by decide) (by omega) v6 l6 (⟨strOfNums X9, x11⟩ : S35) [.string (strOfNums X9), .int .i64 x11] (fun _ => True) (fun _ => False) rfl rfl (k35_mkM _ _ _ (⟨strOfNums X9, x11⟩ : S35)) (fun _ hk => hk.elim) (fun _ _ => trivial) HN.out.2.2.2.1 HN.out.bl HN.out.bl.size (by omega) ?_
      intro vn_ w12 ho hb hg hat
      obtain ⟨an6, nn6, cn6, rfl⟩ := R_isSlice ho
      have HN' := Aside0.mk (Nd.grown6 HN.out ho hb hg)
      clear HN
      have HN := HN'
      clear HN'
      clear ho hb hg hat
      refine hK.out _ _ ⟨(blk_cell HN.out.1.1 0).trans rfl, (blk_cell HN.out.1.2.1 6).trans rfl⟩ (fun hHeld => ?_)
      clear hK K
      refine norm_ (a' := ?_) ?_ ?_
      rotate_left
      · show Act.put _ (some 38) _ = _
        simp only [Act.put, xset_a, xset_z, xset_s, i64_w, i32_w]
        rfl
      refine pure_ (i := 8) (N := some 39) (v := ?_) (a' := ?_) #[true, true, true, true, true, true, true, true, true, false] rfl rfl (any_of HT_.out (by kernel_rfl)) (fun _ _ _ h => h) (Or.inl ⟨by rfl, ?_⟩) ?_ ?_
      rotate_left
      · intro w'
        go_simp
        with_reducible rfl
      rotate_left
      · simp only [Act.put, xset_a, xset_z, xset_s, i64_w, i32_w]
        rfl
      refine last_ (i := 9) (N := none) #[true, true, true, true, true, true, true, true, true, true] rfl rfl (one_of HT_.out (by kernel_rfl)) (by decide) (fun K hK => ?_)
      have m6 : w12.cell? ⟨mb, 6, none⟩ = some (v6) := (blk_cell HN.out.1.2.1 6).trans rfl
      have f6 : w12.frozen? ⟨mb, 6, none⟩ = false := blk_frozen HN.out.1.2.1 6
      have hnb := HN.out.1.2.2.2.2.2.2.2.2.2.2.1
      have hnc : mb ≠ rp := fun e => hnb e.symm
      with_reducible refine skip_ (w1 := ?_) ?_ rfl ?_ ?_
      rotate_left
      · rfl
      · go_simp
        rfl
      clear m6 f6
      clear hnb hnc
      have HN' := Aside0.mk (Nd.put (cs' := #[.string (strOfNums X1), .bool (x2 == 1), .int .i64 a4, .int .i64 b4, .int .i64 c4, .int .i64 d4, (.slice an6 nn6 cn6), .int .i64 0, .int .i64 0, .int .i64 0, .int .i64 0, .slice none 0 0, .int .i64 a5, .int .i64 b5, .int .i64 c5, .int .i64 d5]) (HN.out) 6 ((.slice an6 nn6 cn6)) rfl)
      clear HN
      have HN := HN'
      clear HN'
      refine hK.out _ _ ?_
      clear hK K
      refine done_ (done_of HT_.out (by kernel_rfl)) ?_
      go_wp2
      go_roundw
      case rel => exact ⟨y - 1, _, _, _, rfl, ⟨by omega, by rw [List.length_append, List.length_singleton]; omega, by omega⟩, HC, HN⟩
      case measure => exact isa_less hy
    · have t1 : decide (0 < y) = false := decide_eq_false hy
      have HC' : Aside0 (cTail L = c) := ⟨by have h_ := HC.out; rw [show y.toNat = 0 by omega] at h_; exact h_⟩
      clear HC
      have HC := HC'
      clear HC'
      go_wp2_with fail
      refine start_ (n := 10) (S := fun w' => w'.cell? ⟨rp, 0, none⟩ = some (.pointer (some ⟨rb, 0, none⟩))) (ds := []) #[false, false, false, false, false, false, false, false, false, false] (by kernel_rfl) rfl rfl ((blk_cell HN.out.drew.1.1 0).trans rfl) (fun hHeld => ?_)
      refine with_tabW parse_tab11 parse_bits11 (fun HT_ HW_ => ?_)
      have HN' := Aside0.mk (HN.out.drew)
      clear HN
      have HN := HN'
      clear HN'
      try clear p_
      generalize World.drew _ = w13 at HN hHeld ⊢
      refine take_ (i := 0) (N := some 40) (v := ?_) (a' := ?_) #[true, false, false, false, false, false, false, false, false, false] rfl rfl (take_ofW HT_.out HW_.out (by kernel_rfl)) (fun _ _ _ h => h) (Or.inl ⟨by rfl, ?_⟩) hHeld ?_ ?_
      rotate_left
      · rintro w' s0
        go_simp
        with_reducible rfl
      rotate_left
      · simp only [Act.put, xset_a, xset_z, xset_s, i64_w, i32_w]
        rfl
      refine take_ (i := 2) (N := some 42) (v := ?_) (a' := ?_) #[true, false, true, false, false, false, false, false, false, false] rfl rfl (take_ofW HT_.out HW_.out (by kernel_rfl)) (fun _ _ _ h => h) (Or.inl ⟨by rfl, ?_⟩) hHeld ?_ ?_
      rotate_left
      · rintro w' s0
        go_simp
        with_reducible rfl
      rotate_left
      · simp only [Act.put, xset_a, xset_z, xset_s, i64_w, i32_w]
        rfl
      refine one_ (i := 1) (N := some 41) #[true, true, true, false, false, false, false, false, false, false] rfl rfl (one_of HT_.out (by kernel_rfl)) (by decide) (fun K hK => ?_)
      refine callP_ Try.func36 (by kernel_rfl) rfl #[.pointer (some ⟨rb, 0, none⟩)] (by rfl) rfl rfl (by (try simp only [List.map_toArray, List.map_cons, List.map_nil]); first | done | rfl) ?_
      refine (row_one_any rb B L _ HN.out.rd HN.out.2.1).mono ?_
      rintro e w14 (⟨hcut, rfl, ho⟩ | ⟨x14, L14, hL, hx14, rfl, hl⟩)
      · have e8 : c = 8 := HC.out.symm.trans (by rw [hcut]; rfl)
        refine .inl ⟨_, rfl, ?_⟩
        subst e8
        exact ⟨rfl, rfl, HN.out.cut ho⟩
      have hby := HN.out.2.1
      rw [hL] at hby
      have HN' := Aside0.mk (HN.out.left hl hby.tail)
      clear HN
      have HN := HN'
      clear HN'
      have HC' : Aside0 ((cOne fun _ => cOne fun _ => cOne fun _ => cNum) L14 = c) := ⟨by have h_ := HC.out; rw [hL] at h_; exact h_⟩
      clear HC
      have HC := HC'
      clear HC' hby hl hL
      refine .inr ⟨_, rfl, ?_⟩
      refine hK.out _ _ ((blk_cell HN.out.1.1 0).trans rfl) (fun hHeld => ?_)
      clear hK K
      refine norm_ (a' := ?_) ?_ ?_
      rotate_left
      · show Act.put _ (some 41) _ = _
        simp only [Act.put, xset_a, xset_z, xset_s, i64_w, i32_w]
        rfl
      refine one_ (i := 3) (N := some 43) #[true, true, true, true, false, false, false, false, false, false] rfl rfl (one_of HT_.out (by kernel_rfl)) (by decide) (fun K hK => ?_)
      refine callP_ Try.func36 (by kernel_rfl) rfl #[.pointer (some ⟨rb, 0, none⟩)] (by rfl) rfl rfl (by (try simp only [List.map_toArray, List.map_cons, List.map_nil]); first | done | rfl) ?_
      refine (row_one_any rb B L14 _ HN.out.rd HN.out.2.1).mono ?_
      rintro e w15 (⟨hcut, rfl, ho⟩ | ⟨x15, L15, hL, hx15, rfl, hl⟩)
      · have e8 : c = 8 := HC.out.symm.trans (by rw [hcut]; rfl)
        refine .inl ⟨_, rfl, ?_⟩
        subst e8
        exact ⟨rfl, rfl, HN.out.cut ho⟩
      have hby := HN.out.2.1
      rw [hL] at hby
      have HN' := Aside0.mk (HN.out.left hl hby.tail)
      clear HN
      have HN := HN'
      clear HN'
      have HC' : Aside0 ((cOne fun _ => cOne fun _ => cNum) L15 = c) := ⟨by have h_ := HC.out; rw [hL] at h_; exact h_⟩
      clear HC
      have HC := HC'
      clear HC' hby hl hL
      refine .inr ⟨_, rfl, ?_⟩
      refine hK.out _ _ ((blk_cell HN.out.1.1 0).trans rfl) (fun hHeld => ?_)
      clear hK K
      refine norm_ (a' := ?_) ?_ ?_
      rotate_left
      · show Act.put _ (some 43) _ = _
        simp only [Act.put, xset_a, xset_z, xset_s, i64_w, i32_w]
        rfl
      refine pure_ (i := 4) (N := some 44) (v := ?_) (a' := ?_) #[true, true, true, true, true, false, false, false, false, false] rfl rfl (any_of HT_.out (by kernel_rfl)) (fun _ _ _ h => h) (Or.inl ⟨by rfl, ?_⟩) ?_ ?_
      rotate_left
      · intro w'
        go_simp
        with_reducible rfl
      rotate_left
      · simp only [Act.put, xset_a, xset_z, xset_s, i64_w, i32_w]
        rfl
      refine pure_ (i := 5) (N := some 45) (v := ?_) (a' := ?_) #[true, true, true, true, true, true, false, false, false, false] rfl rfl (any_of HT_.out (by kernel_rfl)) (fun _ _ _ h => h) (Or.inl ⟨by rfl, ?_⟩) ?_ ?_
      rotate_left
      · intro w'
        go_simp
        with_reducible rfl
      rotate_left
      · simp only [Act.put, xset_a, xset_z, xset_s, i64_w, i32_w]
        rfl
      refine one_ (i := 6) (N := none) #[true, true, true, true, true, true, true, false, false, false] rfl rfl (one_of HT_.out (by kernel_rfl)) (by decide) (fun K hK => ?_)
      have m7 : w15.cell? ⟨mb, 7, none⟩ = some (.int .i64 0) := (blk_cell HN.out.1.2.1 7).trans rfl
      have f7 : w15.frozen? ⟨mb, 7, none⟩ = false := blk_frozen HN.out.1.2.1 7
      have hnb := HN.out.1.2.2.2.2.2.2.2.2.2.2.1
      have hnc : mb ≠ rp := fun e => hnb e.symm
      with_reducible refine skip_ (w1 := ?_) ?_ rfl ?_ ?_
      rotate_left
      · rfl
      · go_simp
        rfl
      clear m7 f7
      clear hnb hnc
      have HN' := Aside0.mk (Nd.put (cs' := #[.string (strOfNums X1), .bool (x2 == 1), .int .i64 a4, .int .i64 b4, .int .i64 c4, .int .i64 d4, v6, .int .i64 x14, .int .i64 0, .int .i64 0, .int .i64 0, .slice none 0 0, .int .i64 a5, .int .i64 b5, .int .i64 c5, .int .i64 d5]) (HN.out) 7 (.int .i64 x14) rfl)
      clear HN
      have HN := HN'
      clear HN'
      refine hK.out _ _ ((blk_cell HN.out.1.1 0).trans rfl) (fun hHeld => ?_)
      clear hK K
      generalize World.setCell w15 ⟨mb, 7, none⟩ (.int .i64 x14) = w16 at HN hHeld ⊢
      refine pure_ (i := 7) (N := some 46) (v := ?_) (a' := ?_) #[true, true, true, true, true, true, true, true, false, false] rfl rfl (any_of HT_.out (by kernel_rfl)) (fun _ _ _ h => h) (Or.inl ⟨by rfl, ?_⟩) ?_ ?_
      rotate_left
      · intro w'
        go_simp
        with_reducible rfl
      rotate_left
      · simp only [Act.put, xset_a, xset_z, xset_s, i64_w, i32_w]
        rfl
      refine pure_ (i := 8) (N := some 47) (v := ?_) (a' := ?_) #[true, true, true, true, true, true, true, true, true, false] rfl rfl (any_of HT_.out (by kernel_rfl)) (fun _ _ _ h => h) (Or.inl ⟨by rfl, ?_⟩) ?_ ?_
      rotate_left
      · intro w'
        go_simp
        with_reducible rfl
      rotate_left
      · simp only [Act.put, xset_a, xset_z, xset_s, i64_w, i32_w]
        rfl
      refine one_ (i := 9) (N := none) #[true, true, true, true, true, true, true, true, true, true] rfl rfl (one_of HT_.out (by kernel_rfl)) (by decide) (fun K hK => ?_)
      have m8 : w16.cell? ⟨mb, 8, none⟩ = some (.int .i64 0) := (blk_cell HN.out.1.2.1 8).trans rfl
      have f8 : w16.frozen? ⟨mb, 8, none⟩ = false := blk_frozen HN.out.1.2.1 8
      have hnb := HN.out.1.2.2.2.2.2.2.2.2.2.2.1
      have hnc : mb ≠ rp := fun e => hnb e.symm
      with_reducible refine skip_ (w1 := ?_) ?_ rfl ?_ ?_
      rotate_left
      · rfl
      · go_simp
        rfl
      clear m8 f8
      clear hnb hnc
      have HN' := Aside0.mk (Nd.put (cs' := #[.string (strOfNums X1), .bool (x2 == 1), .int .i64 a4, .int .i64 b4, .int .i64 c4, .int .i64 d4, v6, .int .i64 x14, .int .i64 x15, .int .i64 0, .int .i64 0, .slice none 0 0, .int .i64 a5, .int .i64 b5, .int .i64 c5, .int .i64 d5]) (HN.out) 8 (.int .i64 x15) rfl)
      clear HN
      have HN := HN'
      clear HN'
      refine hK.out _ _ ((blk_cell HN.out.1.1 0).trans rfl) (fun hHeld => ?_)
      clear hK K
      generalize World.setCell w16 ⟨mb, 8, none⟩ (.int .i64 x15) = w17 at HN hHeld ⊢
      refine done_ (done_of HT_.out (by kernel_rfl)) ?_
      go_wp2_with fail
      refine start_ (n := 10) (S := fun w' => w'.cell? ⟨rp, 0, none⟩ = some (.pointer (some ⟨rb, 0, none⟩))) (ds := []) #[false, false, false, false, false, false, false, false, false, false] (by kernel_rfl) rfl rfl ((blk_cell HN.out.drew.1.1 0).trans rfl) (fun hHeld => ?_)
      refine with_tabW parse_tab12 parse_bits12 (fun HT_ HW_ => ?_)
      have HN' := Aside0.mk (HN.out.drew)
      clear HN
      have HN := HN'
      clear HN'
      try clear p_
      generalize World.drew _ = w18 at HN hHeld ⊢
      refine take_ (i := 0) (N := some 48) (v := ?_) (a' := ?_) #[true, false, false, false, false, false, false, false, false, false] rfl rfl (take_ofW HT_.out HW_.out (by kernel_rfl)) (fun _ _ _ h => h) (Or.inl ⟨by rfl, ?_⟩) hHeld ?_ ?_
      rotate_left
      · rintro w' s0
        go_simp
        with_reducible rfl
      rotate_left
      · simp only [Act.put, xset_a, xset_z, xset_s, i64_w, i32_w]
        rfl
      refine take_ (i := 2) (N := some 50) (v := ?_) (a' := ?_) #[true, false, true, false, false, false, false, false, false, false] rfl rfl (take_ofW HT_.out HW_.out (by kernel_rfl)) (fun _ _ _ h => h) (Or.inl ⟨by rfl, ?_⟩) hHeld ?_ ?_
      rotate_left
      · rintro w' s0
        go_simp
        with_reducible rfl
      rotate_left
      · simp only [Act.put, xset_a, xset_z, xset_s, i64_w, i32_w]
        rfl
      refine one_ (i := 1) (N := some 49) #[true, true, true, false, false, false, false, false, false, false] rfl rfl (one_of HT_.out (by kernel_rfl)) (by decide) (fun K hK => ?_)
      refine callP_ Try.func36 (by kernel_rfl) rfl #[.pointer (some ⟨rb, 0, none⟩)] (by rfl) rfl rfl (by (try simp only [List.map_toArray, List.map_cons, List.map_nil]); first | done | rfl) ?_
      refine (row_one_any rb B L15 _ HN.out.rd HN.out.2.1).mono ?_
      rintro e w19 (⟨hcut, rfl, ho⟩ | ⟨x19, L19, hL, hx19, rfl, hl⟩)
      · have e8 : c = 8 := HC.out.symm.trans (by rw [hcut]; rfl)
        refine .inl ⟨_, rfl, ?_⟩
        subst e8
        exact ⟨rfl, rfl, HN.out.cut ho⟩
      have hby := HN.out.2.1
      rw [hL] at hby
      have HN' := Aside0.mk (HN.out.left hl hby.tail)
      clear HN
      have HN := HN'
      clear HN'
      have HC' : Aside0 ((cOne fun _ => cNum) L19 = c) := ⟨by have h_ := HC.out; rw [hL] at h_; exact h_⟩
      clear HC
      have HC := HC'
      clear HC' hby hl hL
      refine .inr ⟨_, rfl, ?_⟩
      refine hK.out _ _ ((blk_cell HN.out.1.1 0).trans rfl) (fun hHeld => ?_)
      clear hK K
      refine norm_ (a' := ?_) ?_ ?_
      rotate_left
      · show Act.put _ (some 49) _ = _
        simp only [Act.put, xset_a, xset_z, xset_s, i64_w, i32_w]
        rfl
      refine one_ (i := 3) (N := some 51) #[true, true, true, true, false, false, false, false, false, false] rfl rfl (one_of HT_.out (by kernel_rfl)) (by decide) (fun K hK => ?_)
      refine callP_ Try.func36 (by kernel_rfl) rfl #[.pointer (some ⟨rb, 0, none⟩)] (by rfl) rfl rfl (by (try simp only [List.map_toArray, List.map_cons, List.map_nil]); first | done | rfl) ?_
      refine (row_one_any rb B L19 _ HN.out.rd HN.out.2.1).mono ?_
      rintro e w20 (⟨hcut, rfl, ho⟩ | ⟨x20, L20, hL, hx20, rfl, hl⟩)
      · have e8 : c = 8 := HC.out.symm.trans (by rw [hcut]; rfl)
        refine .inl ⟨_, rfl, ?_⟩
        subst e8
        exact ⟨rfl, rfl, HN.out.cut ho⟩
      have hby := HN.out.2.1
      rw [hL] at hby
      have HN' := Aside0.mk (HN.out.left hl hby.tail)
      clear HN
      have HN := HN'
      clear HN'
      have HC' : Aside0 (cNum L20 = c) := ⟨by have h_ := HC.out; rw [hL] at h_; exact h_⟩
      clear HC
      have HC := HC'
      clear HC' hby hl hL
      refine .inr ⟨_, rfl, ?_⟩
      refine hK.out _ _ ((blk_cell HN.out.1.1 0).trans rfl) (fun hHeld => ?_)
      clear hK K
      refine norm_ (a' := ?_) ?_ ?_
      rotate_left
      · show Act.put _ (some 51) _ = _
        simp only [Act.put, xset_a, xset_z, xset_s, i64_w, i32_w]
        rfl
      refine pure_ (i := 4) (N := some 52) (v := ?_) (a' := ?_) #[true, true, true, true, true, false, false, false, false, false] rfl rfl (any_of HT_.out (by kernel_rfl)) (fun _ _ _ h => h) (Or.inl ⟨by rfl, ?_⟩) ?_ ?_
      rotate_left
      · intro w'
        go_simp
        with_reducible rfl
      rotate_left
      · simp only [Act.put, xset_a, xset_z, xset_s, i64_w, i32_w]
        rfl
      refine pure_ (i := 5) (N := some 53) (v := ?_) (a' := ?_) #[true, true, true, true, true, true, false, false, false, false] rfl rfl (any_of HT_.out (by kernel_rfl)) (fun _ _ _ h => h) (Or.inl ⟨by rfl, ?_⟩) ?_ ?_
      rotate_left
      · intro w'
        go_simp
        with_reducible rfl
      rotate_left
      · simp only [Act.put, xset_a, xset_z, xset_s, i64_w, i32_w]
        rfl
      refine one_ (i := 6) (N := none) #[true, true, true, true, true, true, true, false, false, false] rfl rfl (one_of HT_.out (by kernel_rfl)) (by decide) (fun K hK => ?_)
      have m9 : w20.cell? ⟨mb, 9, none⟩ = some (.int .i64 0) := (blk_cell HN.out.1.2.1 9).trans rfl
      have f9 : w20.frozen? ⟨mb, 9, none⟩ = false := blk_frozen HN.out.1.2.1 9
      have hnb := HN.out.1.2.2.2.2.2.2.2.2.2.2.1
      have hnc : mb ≠ rp := fun e => hnb e.symm
      with_reducible refine skip_ (w1 := ?_) ?_ rfl ?_ ?_
      rotate_left
      · rfl
      · go_simp
        rfl
      clear m9 f9
      clear hnb hnc
      have HN' := Aside0.mk (Nd.put (cs' := #[.string (strOfNums X1), .bool (x2 == 1), .int .i64 a4, .int .i64 b4, .int .i64 c4, .int .i64 d4, v6, .int .i64 x14, .int .i64 x15, .int .i64 x19, .int .i64 0, .slice none 0 0, .int .i64 a5, .int .i64 b5, .int .i64 c5, .int .i64 d5]) (HN.out) 9 (.int .i64 x19) rfl)
      clear HN
      have HN := HN'
      clear HN'
      refine hK.out _ _ ((blk_cell HN.out.1.1 0).trans rfl) (fun hHeld => ?_)
      clear hK K
      generalize World.setCell w20 ⟨mb, 9, none⟩ (.int .i64 x19) = w21 at HN hHeld ⊢
      refine pure_ (i := 7) (N := some 54) (v := ?_) (a' := ?_) #[true, true, true, true, true, true, true, true, false, false] rfl rfl (any_of HT_.out (by kernel_rfl)) (fun _ _ _ h => h) (Or.inl ⟨by rfl, ?_⟩) ?_ ?_
      rotate_left
      · intro w'
        go_simp
        with_reducible rfl
      rotate_left
      · simp only [Act.put, xset_a, xset_z, xset_s, i64_w, i32_w]
        rfl
      refine pure_ (i := 8) (N := some 55) (v := ?_) (a' := ?_) #[true, true, true, true, true, true, true, true, true, false] rfl rfl (any_of HT_.out (by kernel_rfl)) (fun _ _ _ h => h) (Or.inl ⟨by rfl, ?_⟩) ?_ ?_
      rotate_left
      · intro w'
        go_simp
        with_reducible rfl
      rotate_left
      · simp only [Act.put, xset_a, xset_z, xset_s, i64_w, i32_w]
        rfl
      refine one_ (i := 9) (N := none) #[true, true, true, true, true, true, true, true, true, true] rfl rfl (one_of HT_.out (by kernel_rfl)) (by decide) (fun K hK => ?_)
      have m10 : w21.cell? ⟨mb, 10, none⟩ = some (.int .i64 0) := (blk_cell HN.out.1.2.1 10).trans rfl
      have f10 : w21.frozen? ⟨mb, 10, none⟩ = false := blk_frozen HN.out.1.2.1 10
      have hnb := HN.out.1.2.2.2.2.2.2.2.2.2.2.1
      have hnc : mb ≠ rp := fun e => hnb e.symm
      with_reducible refine skip_ (w1 := ?_) ?_ rfl ?_ ?_
      rotate_left
      · rfl
      · go_simp
        rfl
      clear m10 f10
      clear hnb hnc
      have HN' := Aside0.mk (Nd.put (cs' := #[.string (strOfNums X1), .bool (x2 == 1), .int .i64 a4, .int .i64 b4, .int .i64 c4, .int .i64 d4, v6, .int .i64 x14, .int .i64 x15, .int .i64 x19, .int .i64 x20, .slice none 0 0, .int .i64 a5, .int .i64 b5, .int .i64 c5, .int .i64 d5]) (HN.out) 10 (.int .i64 x20) rfl)
      clear HN
      have HN := HN'
      clear HN'
      refine hK.out _ _ ((blk_cell HN.out.1.1 0).trans rfl) (fun hHeld => ?_)
      clear hK K
      generalize World.setCell w21 ⟨mb, 10, none⟩ (.int .i64 x20) = w22 at HN hHeld ⊢
      refine done_ (done_of HT_.out (by kernel_rfl)) ?_
      have p_ : w22.cell? ⟨rp, 0, none⟩ = some (.pointer (some ⟨rb, 0, none⟩)) := (blk_cell HN.out.1.1 0).trans rfl
      go_wp2_with fail
      clear p_
      refine (row_one_any rb B L20 _ HN.out.rd HN.out.2.1).mono ?_
      rintro e w23 (⟨hcut, rfl, ho⟩ | ⟨x23, L23, hL, hx23, rfl, hl⟩)
      · have e8 : c = 8 := HC.out.symm.trans (by rw [hcut]; rfl)
        subst e8
        exact ⟨rfl, rfl, HN.out.cut ho⟩
      have hby := HN.out.2.1
      rw [hL] at hby
      have HN' := Aside0.mk (HN.out.left hl hby.tail)
      clear HN
      have HN := HN'
      clear HN'
      have HC' : Aside0 (cWords x23.toNat L23 = c) := ⟨by have h_ := HC.out; rw [hL] at h_; exact h_⟩
      clear HC
      have HC := HC'
      clear HC' hby hl hL
      go_wp2_with fail
      go_loopw [5] (fun sl wr => ∃ (y : Int) (v11 : Value) (l11 : List Int) (L : List Int), sl = .int .i64 y ∧ (0 ≤ y ∧ l11.length + y < 512 ∧ y < 256) ∧ Aside0 (cWords y.toNat L = c) ∧ Aside0 (Nd w0 wr rp mb rb B N #[.string (strOfNums X1), .bool (x2 == 1), .int .i64 a4, .int .i64 b4, .int .i64 c4, .int .i64 d4, v6, .int .i64 x14, .int .i64 x15, .int .i64 x19, .int .i64 x20, v11, .int .i64 a5, .int .i64 b5, .int .i64 c5, .int .i64 d5] v6 v11 l6 l11 L)) (fun sl _ => (intOf sl).toNat)
      case atStart => exact ⟨x23, _, [], _, rfl, ⟨hx23.1, (by have := hx23.2; simp only [List.length_nil]; omega), hx23.2⟩, HC, HN⟩
      case round =>
        clear t1 hy hyl hy0 hy1
        clear HN HC
        obtain ⟨y, v11, l11, L, rfl, ⟨hy0, hyl, hy1⟩, HC, HN⟩ := hrel
        by_cases hy : 0 < y
        · have t1 : decide (0 < y) = true := decide_eq_true hy
          have HW : Aside0 (wrap64 (y - 1) = y - 1) := ⟨w64_ (by omega) (by omega)⟩
          have HC' : Aside0 (cWords ((y - 1).toNat + 1) L = c) := ⟨by have h_ := HC.out; rw [show y.toNat = (y - 1).toNat + 1 by omega] at h_; exact h_⟩
          clear HC
          have HC := HC'
          clear HC'
          go_wp2_with fail
          refine start_ (n := 8) (S := fun w' => w'.cell? ⟨rp, 0, none⟩ = some (.pointer (some ⟨rb, 0, none⟩)) ∧ w'.cell? ⟨mb, 11, none⟩ = some (v11)) (ds := [7]) #[false, false, false, false, false, false, false, false] (by kernel_rfl) rfl rfl ⟨(blk_cell HN.out.drew.1.1 0).trans rfl, (blk_cell HN.out.drew.1.2.1 11).trans rfl⟩ (fun hHeld => ?_)
          refine with_tabW parse_tab16 parse_bits16 (fun HT_ HW_ => ?_)
          have HN' := Aside0.mk (HN.out.drew)
          clear HN
          have HN := HN'
          clear HN'
          try clear p_
          generalize World.drew _ = w24 at HN hHeld ⊢
          refine pure_ (i := 0) (N := some 62) (v := ?_) (a' := ?_) #[true, false, false, false, false, false, false, false] rfl rfl (any_of HT_.out (by kernel_rfl)) (fun _ _ _ h => h) (Or.inl ⟨by rfl, ?_⟩) ?_ ?_
          rotate_left
          · intro w'
            go_simp
            with_reducible rfl
          rotate_left
          · simp only [Act.put, xset_a, xset_z, xset_s, i64_w, i32_w]
            rfl
          refine take_ (i := 1) (N := some 63) (v := ?_) (a' := ?_) #[true, true, false, false, false, false, false, false] rfl rfl (take_ofW HT_.out HW_.out (by kernel_rfl)) (fun _ _ _ h => h) (Or.inl ⟨by rfl, ?_⟩) hHeld ?_ ?_
          rotate_left
          · rintro w' ⟨s0, s1⟩
            go_simp
            with_reducible rfl
          rotate_left
          · simp only [Act.put, xset_a, xset_z, xset_s, i64_w, i32_w]
            rfl
          refine take_ (i := 2) (N := some 64) (v := ?_) (a' := ?_) #[true, true, true, false, false, false, false, false] rfl rfl (take_ofW HT_.out HW_.out (by kernel_rfl)) (fun _ _ _ h => h) (Or.inl ⟨by rfl, ?_⟩) hHeld ?_ ?_
          rotate_left
          · rintro w' ⟨s0, s1⟩
            go_simp
            with_reducible rfl
          rotate_left
          · simp only [Act.put, xset_a, xset_z, xset_s, i64_w, i32_w]
            rfl
          refine one_ (i := 3) (N := some 65) #[true, true, true, true, false, false, false, false] rfl rfl (one_of HT_.out (by kernel_rfl)) (by decide) (fun K hK => ?_)
          refine callP_ Try.func35 (by kernel_rfl) rfl #[.pointer (some ⟨rb, 0, none⟩)] (by rfl) rfl rfl (by (try simp only [List.map_toArray, List.map_cons, List.map_nil]); first | done | rfl) ?_
          refine (row_long_any rb B L _ HN.out.rd HN.out.2.1).mono ?_
          rintro e w25 (⟨hcut, rfl, ho⟩ | ⟨A25, L25, y25, hL, hA25, rfl, hl⟩)
          · have e8 : c = 8 := HC.out.symm.trans (by simp only [cWords]; exact if_pos hcut)
            refine .inl ⟨_, rfl, ?_⟩
            subst e8
            exact ⟨rfl, rfl, HN.out.cut ho⟩
          have hby := HN.out.2.1
          rw [hL] at hby
          have HN' := Aside0.mk (HN.out.left hl hby.right)
          clear HN
          have HN := HN'
          clear HN'
          have HC' : Aside0 (cWords (y - 1).toNat L25 = c) := ⟨by have h_ := HC.out; rw [hL] at h_; exact (cWords_ok _ _ _ hA25).symm.trans h_⟩
          clear HC
          have HC := HC'
          clear HC' hby hl hL
          refine .inr ⟨_, rfl, ?_⟩
          refine hK.out _ _ ⟨(blk_cell HN.out.1.1 0).trans rfl, (blk_cell HN.out.1.2.1 11).trans rfl⟩ (fun hHeld => ?_)
          clear hK K
          refine norm_ (a' := ?_) ?_ ?_
          rotate_left
          · show Act.put _ (some 65) _ = _
            simp only [Act.put, xset_a, xset_z, xset_s, i64_w, i32_w]
            rfl
          refine one_ (i := 4) (N := some 66) #[true, true, true, true, true, false, false, false] rfl rfl (one_of HT_.out (by kernel_rfl)) (by decide) (fun K hK => ?_)
          refine value_ (w1 := ?_) (v := ?_) (by rfl) rfl ?_ ?_
          rotate_left 2
          · go_simp
            constructor
            · rfl
            · rfl
          refine hK.out _ _ ⟨(blk_cell (HN.out.below (below_alloc (Below.refl _ _) _)).1.1 0).trans rfl, (blk_cell (HN.out.below (below_alloc (Below.refl _ _) _)).1.2.1 11).trans rfl⟩ (fun hHeld => ?_)
          clear hK K
          refine norm_ (a' := ?_) ?_ ?_
          rotate_left
          · show Act.put _ (some 66) _ = _
            simp only [Act.put, xset_a, xset_z, xset_s, i64_w, i32_w]
            rfl
          refine one_ (i := 5) (N := some 67) #[true, true, true, true, true, true, false, false] rfl rfl (one_of HT_.out (by kernel_rfl)) (by decide) (fun K hK => ?_)
          refine Kd.R_append_step (Kd.int .i64) (w0 := w0) w0.heap.size (by rfl) (.tmp 63) (.tmp 66) 27 2 (.int .i64 0) 8 rfl Try.underlying27 info_i64 rfl (by decide) (by omega) v11 l11 y25 [.int .i64 y25] (fun _ => True) (fun _ => False) rfl rfl (rfl) (fun _ hk => hk.elim) (fun _ _ => trivial) HN.out.2.2.2.2 HN.out.bl HN.out.bl.size (by omega) ?_
          intro vn_ w26 ho hb hg hat
          obtain ⟨an11, nn11, cn11, rfl⟩ := R_isSlice ho
          have HN' := Aside0.mk (Nd.grown11 HN.out ho hb hg)
          clear HN
          have HN := HN'
          clear HN'
          clear ho hb hg hat
          refine hK.out _ _ ⟨(blk_cell HN.out.1.1 0).trans rfl, (blk_cell HN.out.1.2.1 11).trans rfl⟩ (fun hHeld => ?_)
          clear hK K
          refine norm_ (a' := ?_) ?_ ?_
          rotate_left
          · show Act.put _ (some 67) _ = _
            simp only [Act.put, xset_a, xset_z, xset_s, i64_w, i32_w]
            rfl
          refine pure_ (i := 6) (N := some 68) (v := ?_) (a' := ?_) #[true, true, true, true, true, true, true, false] rfl rfl (any_of HT_.out (by kernel_rfl)) (fun _ _ _ h => h) (Or.inl ⟨by rfl, ?_⟩) ?_ ?_
          rotate_left
          · intro w'
            go_simp
            with_reducible rfl
          rotate_left
          · simp only [Act.put, xset_a, xset_z, xset_s, i64_w, i32_w]
            rfl
          refine last_ (i := 7) (N := none) #[true, true, true, true, true, true, true, true] rfl rfl (one_of HT_.out (by kernel_rfl)) (by decide) (fun K hK => ?_)
          have m11 : w26.cell? ⟨mb, 11, none⟩ = some (v11) := (blk_cell HN.out.1.2.1 11).trans rfl
          have f11 : w26.frozen? ⟨mb, 11, none⟩ = false := blk_frozen HN.out.1.2.1 11
          have hnb := HN.out.1.2.2.2.2.2.2.2.2.2.2.1
          have hnc : mb ≠ rp := fun e => hnb e.symm
          with_reducible refine skip_ (w1 := ?_) ?_ rfl ?_ ?_
          rotate_left
          · rfl
          · go_simp
            rfl
          clear m11 f11
          clear hnb hnc
          have HN' := Aside0.mk (Nd.put (cs' := #[.string (strOfNums X1), .bool (x2 == 1), .int .i64 a4, .int .i64 b4, .int .i64 c4, .int .i64 d4, v6, .int .i64 x14, .int .i64 x15, .int .i64 x19, .int .i64 x20, (.slice an11 nn11 cn11), .int .i64 a5, .int .i64 b5, .int .i64 c5, .int .i64 d5]) (HN.out) 11 ((.slice an11 nn11 cn11)) rfl)
          clear HN
          have HN := HN'
          clear HN'
          refine hK.out _ _ ?_
          clear hK K
          refine done_ (done_of HT_.out (by kernel_rfl)) ?_
          go_wp2
          go_roundw
          case rel => exact ⟨y - 1, _, _, _, rfl, ⟨by omega, by rw [List.length_append, List.length_singleton]; omega, by omega⟩, HC, HN⟩
          case measure => exact isa_less hy
        · have t1 : decide (0 < y) = false := decide_eq_false hy
          have hE : cEnd L = c := by
            have h_ := HC.out
            rw [show y.toNat = 0 by omega] at h_
            exact h_
          obtain ⟨x_, r_, hxr⟩ : ∃ x_ r_, L = x_ :: r_ := by
            rcases L with _ | ⟨x_, r_⟩
            · exact absurd hE.symm HC0.out
            · exact ⟨x_, r_, rfl⟩
          subst hxr
          have e9 : c = 9 := hE.symm
          subst e9
          clear HC hE
          have p_ : wr.cell? ⟨rp, 0, none⟩ = some (.pointer (some ⟨rb, 0, none⟩)) := (blk_cell HN.out.1.1 0).trans rfl
          go_wp2_with fail
          refine (row_end_more rb B x_ r_ _ HN.out.rd).mono ?_
          rintro e w9 ⟨rfl, rfl⟩
          exact ⟨rfl, rfl, HN.out.cut (Off.refl _ _)⟩
end Go.Proofs.Ytophnhmlknbmeaa.X
