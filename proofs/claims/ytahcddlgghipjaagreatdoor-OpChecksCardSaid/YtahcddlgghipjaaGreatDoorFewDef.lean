/-
  All lists of an operation are at most so long. Plain Lean; no condition.
-/
import Derived.Test.YtahcddlgghipjaaGreatDoorOpMem
namespace Go.Proofs.YtahcddlgghipjaaGreatDoor
namespace Oq
/-- All lists of an operation are at most so long, and what lies in them is short. -/
structure Few (k : Nat) (o : Op) : Prop where
  past : o.past.length ≤ k
  path : o.path.length ≤ k
  refs : o.refs.length ≤ k
  guards : o.guards.length ≤ k
  boxes : o.boxes.length ≤ k
  hist : o.hist.length ≤ k
  nodes : ∀ y ∈ o.path, y.xs.length ≤ 20
  body : o.body.length ≤ 300
  seals : ∀ y ∈ o.hist, y.y.length ≤ 300
end Oq
end Go.Proofs.YtahcddlgghipjaaGreatDoor
