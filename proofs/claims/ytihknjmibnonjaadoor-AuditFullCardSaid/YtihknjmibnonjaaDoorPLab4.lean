/- Labels in plain numbers. -/
import Derived.Test.YtihknjmibnonjaaDoorF9
import Derived.Test.YtihknjmibnonjaaDoorTxt
namespace Go.Proofs.YtihknjmibnonjaaDoor.Pure
open Go.RowKit Go.Proofs.YtihknjmibnonjaaDoor.X Go.Proofs.YtihknjmibnonjaaDoorW.PrintWords Go.Proofs.YtihknjmibnonjaaDoorW.PrintLast Go.Proofs.YtihknjmibnonjaaDoor.Lib Go.Proofs.YtihknjmibnonjaaDoorW.PrintMore

theorem good4_f (a b c d : Int) : donjonlaw4_Good.f a b c d = some (a % 4, b % 256, c % 4, d % 256) := by
  unfold donjonlaw4_Good.f donjonlaw4_within.f
  obtain ⟨r1, e1, _, _, h1⟩ := within_small (a := a) (n := 4) (by omega) (by omega)
  obtain ⟨r2, e2, _, _, h2⟩ := within_small (a := b) (n := 256) (by omega) (by omega)
  obtain ⟨r3, e3, _, _, h3⟩ := within_small (a := c) (n := 4) (by omega) (by omega)
  obtain ⟨r4, e4, _, _, h4⟩ := within_small (a := d) (n := 256) (by omega) (by omega)
  rw [e1, e2, e3, e4, h1, h2, h3, h4]
  rfl
/-- A label such as may be. -/
structure Lab (s c i d : Int) : Prop where
  s0 : 0 ≤ s
  s1 : s < 4
  c0 : 0 ≤ c
  c1 : c < 256
  i0 : 0 ≤ i
  i1 : i < 4
  d0 : 0 ≤ d
  d1 : d < 256
theorem lab_good (a b c d : Int) : Lab (a % 4) (b % 256) (c % 4) (d % 256) := ⟨by omega, by omega, by omega, by omega, by omega, by omega, by omega, by omega⟩
end Go.Proofs.YtihknjmibnonjaaDoor.Pure
