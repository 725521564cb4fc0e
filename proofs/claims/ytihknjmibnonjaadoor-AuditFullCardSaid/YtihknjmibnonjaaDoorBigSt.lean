/- A struct of many cells stored into its block: at once, into a world that is named anew. -/
import Derived.Test.YtihknjmibnonjaaDoorWMore
import Derived.Laws.Tables
import Derived.Laws.CopyOwn
namespace Go.Proofs.YtihknjmibnonjaaDoor.More
open Go.RowKit Go.Proofs.YtihknjmibnonjaaDoorW.PrintWords
section
variable {P : Program} {ops : Array Oper} {rest : List Oper} {o : Oper} {a : Act} {Q : Exit → Act → World → Prop} {w : World}
theorem bigstore_ (hgd : o.guard = none) (ty : TypeId) (x y : Operand) (ho : o.op = .store ty x y)
    (g : Nat) (cells : Array Value) (hx : a.eval x = .pointer (some ⟨g, 0, none⟩)) (hy : a.eval y = .agg cells)
    (t : TypeId) (old : Array Value) (hg : w.heap[g]? = some (.cells old t (0, 0))) (hi : (P.info? ty).map (·.size) = some cells.size)
    (hold : old.size = cells.size) (h1 : cells.toList.all (·.oneCell') = true)
    (h : ∀ w1, w1.heap[g]? = some (.cells cells t (0, 0)) → KeepBut w w1 g none → (∀ j q, w.heap[j]? = some q → j ≠ g → w1.heap[j]? = some q) → (∀ B w0, Below B w0 w → B ≤ g → Below B w0 w1) →
      wpList P ops Q rest (a.put o.dst undef) w1) : wpList P ops Q (o :: rest) a w :=
  wpList_store_row hgd ty x y ho g cells hx hy t old hg hi hold (by rw [← Array.all_toList]; exact h1) (h _ (setRow_heap w g old cells t _ hg) ⟨by rw [size_setRow]; exact Nat.le_refl _, fun i _ hne _ => setRow_other w g i cells hne⟩ (fun j q hj hne => (setRow_other w g j cells hne).trans hj) (fun B w0 hb hB => below_setRow hb hB cells))
end
end Go.Proofs.YtihknjmibnonjaaDoor.More
