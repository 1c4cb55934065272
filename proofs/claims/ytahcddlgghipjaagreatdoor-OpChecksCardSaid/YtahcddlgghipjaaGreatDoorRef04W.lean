/-
  The reference of layer 4, writing: Num, Number, Text, Bool, Ident, Name; Short and Few of layer 1's helpers.
  Conditions: texts are shorter than 2^40 bytes.
-/
import Derived.Test.YtahcddlgghipjaaGreatDoorPackIn2
import Derived.Test.YtahcddlgghipjaaGreatDoorPackOut
import Derived.Deep.RegionHeld3
import Derived.Deep.DrawnRows
namespace Go.Proofs.YtahcddlgghipjaaGreatDoor
open Go.RowKit
attribute [local go_sem ↓] Go.wp_at_zero Go.wp_at_succ

/-- An own slice in a variable: a step in which it became another one, and nothing else has turned. -/
structure VStep (w : World) (A : Option Addr) (w' : World) (A' : Option Addr) : Prop where
  fr : Fr (fun k => rowOf A = some k) w w'
  row : ∀ k, rowOf A' = some k → rowOf A = some k ∨ w.heap.size ≤ k

end Go.Proofs.YtahcddlgghipjaaGreatDoor
