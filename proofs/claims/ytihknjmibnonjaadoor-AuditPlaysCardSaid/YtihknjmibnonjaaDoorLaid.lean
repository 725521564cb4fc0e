/- What the tables of the Go library hold: as the row lays it; it stands while nothing old turns. -/
import Derived.Test.YtihknjmibnonjaaDoorProg
import Derived.Lib.SmallJoins
import Derived.Lib.LaidTab
import Derived.Lib.ItoaNum
import Derived.Lib.LaidU8
import Derived.Lib.LaidIn
import Derived.Test.YtihknjmibnonjaaDoorRows
namespace Go.Proofs.YtihknjmibnonjaaDoor.X
open Go.RowKit
/-- internal/strconv.uint64pow10 holds the powers of ten. -/
def Laid (w : World) : Prop := Lib.TabIs Tryd.prog w "internal/strconv.uint64pow10" .u64 Lib.pow10Tab
theorem pow10_at : ∃ g, Tryd.prog.globalNamed "internal/strconv.uint64pow10" = some g := Option.isSome_iff_exists.1 (by kernel_rfl)
theorem Laid.lt {w : World} (h : Laid w) {g : Nat} (hg : Tryd.prog.globalNamed "internal/strconv.uint64pow10" = some g) : g < w.heap.size := by
  have h2 := Lib.TabIs.cell h hg 0 (by decide)
  exact World.block_lt_of_cell? _ _ h2
theorem Laid.below {w w' : World} (h : Laid w) (hb : Below w.heap.size w w') : Laid w' := by
  obtain ⟨g, hg⟩ := pow10_at
  exact Go.Joins.tab_stays hg h hb (Nat.le_refl _)
theorem tabIs_of_reads {P : Program} {W : World} {name : String} {k : IntKind} {zs : List Int} {g : Nat} {t e : TypeId} {n : Nat}
    (hg : P.globalNamed name = some g) (hty : (P.globals[g]?).map (·.type) = some t) (ht : P.underlying t = some (.array n e)) (he : P.underlying e = some (.int k)) (hce : P.cellsOf e = 1) (hct : P.cellsOf t = n)
    (h : Lib.VarReads P W name (Lib.tabData k zs)) : Lib.TabIs P W name k zs := by
  obtain ⟨g', t', cs, fuel, p, hg', ht', hvar, hd⟩ := h
  obtain rfl := Option.some.inj (hg.symm.trans hg')
  obtain rfl := Option.some.inj (hty.symm.trans ht')
  unfold Lib.TabIs
  rw [hvar, ← Lib.cells_of_tab ht he hce hct hd]
/-- Out of what a row lays. -/
theorem Laid.of_laid {W : World} {l : List (String × DataW Unit)} (h : laidMet Tryd.prog l W) (hm : ("internal/strconv.uint64pow10", (Rows.laid_internal_strconv_uint64pow10 : DataW Unit)) ∈ l) : Laid W := by
  have h1 := Lib.laidMet.reads h hm
  have e : (Rows.laid_internal_strconv_uint64pow10 : DataW Unit) = Lib.tabData .u64 Lib.pow10Tab := by kernel_rfl
  rw [e] at h1
  exact tabIs_of_reads (g := (Tryd.prog.globalNamed "internal/strconv.uint64pow10").getD 0) (t := 131) (e := 38) (n := 20) (by kernel_rfl) (by kernel_rfl) Tryd.underlying131 Tryd.underlying38 (by kernel_rfl) (by kernel_rfl) h1
/-- The cells of a table that a row lays. -/
def cellsOfData : DataW Unit → List Value
  | .lit (.int k n) => [.int k n]
  | .agg parts => cellsOfAll parts
  | _ => []
where cellsOfAll : List (DataW Unit) → List Value
  | [] => []
  | d :: r => cellsOfData d ++ cellsOfAll r
noncomputable def putTab (h : Array Obj) (n : String) (d : DataW Unit) : Array Obj := h.modify ((Tryd.prog.globalNamed n).getD 0) fun
  | .cells _ t frozen => .cells (cellsOfData d).toArray t frozen
  | o => o
/-- A world in which what a row lays stands. -/
noncomputable def laidWorld (os : Os) (l : List (String × DataW Unit)) : World :=
  let w0 := World.holding Tryd.prog os ⟨#[], #[], []⟩
  { w0 with heap := l.foldl (fun h x => putTab h x.1 x.2) w0.heap }
end Go.Proofs.YtihknjmibnonjaaDoor.X
