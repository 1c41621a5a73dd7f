/- A region that draws its order, by what holds between its operations: one obligation for each operation. -/
import Derived.Test.YtmmonhgfnmeieaaGreatDoorMine
-- mini
namespace Go.ZPWords
open Go Go.RowKit Go.ZPLast Go.ZPMore
/-- Two calls (c, d), two boxes (a, b; g, h), two stores of what the calls tell (p, q). -/
structure R2 where
  c : Bool
  d : Bool
  a : Bool
  b : Bool
  p : Bool
  q : Bool
  g : Nat
  h : Nat
section
variable {W w w' : World} {t : TypeId} {x0 x1 y0 y1 z0 z1 : Value} {c d a b p q : Bool} {g h : Nat}
end
end Go.ZPWords
