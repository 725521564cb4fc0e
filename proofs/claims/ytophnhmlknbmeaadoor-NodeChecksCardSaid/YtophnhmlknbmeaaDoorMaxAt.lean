/- How long a text may be that the library's search takes at once: some number, whatever; it stands while nothing old turns. -/
import Derived.Test.YtophnhmlknbmeaaDoorProg
import Derived.Below
import Derived.Shelf.Vars
import Derived.KernelRfl
namespace Go.Proofs.YtophnhmlknbmeaaDoor.X
open Go.RowKit
def MaxAt (w : World) : Prop := ∃ m : Int, w.cell? ⟨0, 0, none⟩ = some (.int .i64 m)
theorem MaxAt.below {w w' : World} (h : MaxAt w) (hb : Below w.heap.size w w') : MaxAt w' := by
  obtain ⟨m, hm⟩ := h
  exact ⟨m, (hb.cell (World.block_lt_of_cell? w _ hm)).trans hm⟩
/-- Out of the world's shape. -/
theorem MaxAt.of_shape {W : World} (hsh : W.ShapedOpen Tryd.prog) : MaxAt W :=
  cell_of_shapedOpen_int (g := 0) (t := 3) (zero := #[.int .i64 0]) (k := .i64) hsh (of_decide_eq_true (by kernel_rfl)) (by kernel_rfl) rfl (by kernel_rfl) (by kernel_rfl) Tryd.underlying3
end Go.Proofs.YtophnhmlknbmeaaDoor.X
