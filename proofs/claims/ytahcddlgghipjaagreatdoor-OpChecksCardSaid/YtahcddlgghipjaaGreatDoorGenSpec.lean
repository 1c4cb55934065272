/-
  The references' generator of operations, as plain functions on lists of numbers; an operation of which one thing is another one.
  Plain Lean; no program; no condition.
-/
import Derived.Test.YtahcddlgghipjaaGreatDoorOpMem
namespace Go.Proofs.YtahcddlgghipjaaGreatDoor
namespace Oq

/-- The number at a place, below so many; behind the last one 0. -/
def nx (L : List Int) (i : Nat) (m : Int) : Int := match L[i]? with
  | some x => around x 1000000007 % m
  | none => 0
theorem nx_bd (L : List Int) (i : Nat) {m : Int} (h : 1 ≤ m) : 0 ≤ nx L i m ∧ nx L i m < m := by
  unfold nx
  split
  · exact ⟨Int.emod_nonneg _ (by omega), Int.emod_lt_of_pos _ (by omega)⟩
  · omega

def gId (L : List Int) (i : Nat) : Id := ⟨1 + nx L i 6, 1 + nx L (i + 1) 9, (nx L (i + 2) 1000000).toNat⟩
def gBx (L : List Int) (i : Nat) : Bx := ⟨(1 + nx L i 1000).toNat, (1 + nx L (i + 1) 1000).toNat, (nx L (i + 2) 1000).toNat, (nx L (i + 3) 1000).toNat⟩
def gBxs (n : Nat) (L : List Int) (i : Nat) : List Bx := (List.range n).map fun k => gBx L (i + 4 * k)
def gByte (L : List Int) (i : Nat) : UInt8 := UInt8.ofNat (nx L i 256).toNat
def gBytes (n : Nat) (L : List Int) (i : Nat) : List UInt8 := (List.range n).map fun k => gByte L (i + k)
def gRefs (n : Nat) (L : List Int) (i : Nat) : List Nat := (List.range n).map fun k => (nx L (i + k) 1000).toNat
theorem snoc_map {α : Type} (f : Nat → α) (n : Nat) : (List.range (n + 1)).map f = (List.range n).map f ++ [f n] := by
  rw [List.range_succ, List.map_append]; rfl
theorem gBxs_len (n : Nat) (L : List Int) (i : Nat) : (gBxs n L i).length = n := by simp [gBxs]
theorem gBytes_len (n : Nat) (L : List Int) (i : Nat) : (gBytes n L i).length = n := by simp [gBytes]
theorem gRefs_len (n : Nat) (L : List Int) (i : Nat) : (gRefs n L i).length = n := by simp [gRefs]

/-- Is a name among some? -/
def Id.eq (a b : Id) : Bool := a.b == b.b && (a.s == b.s && a.u == b.u)
theorem Id.eq_iff (a b : Id) : Id.eq a b = true ↔ a = b := by
  cases a; cases b
  simp [Id.eq]
def hasId (l : List Id) (x : Id) : Bool := l.any (fun y => Id.eq y x)
def Id.less (a b : Id) : Bool := if a.b = b.b then if a.s = b.s then decide (a.u < b.u) else decide (a.s < b.s) else decide (a.b < b.b)

/-- Parents, after k rounds, from place i on. -/
def gPast (L : List Int) (i : Nat) : Nat → List Id
  | 0 => []
  | k + 1 => if hasId (gPast L i k) (gId L (i + 3 * k)) then gPast L i k else gPast L i k ++ [gId L (i + 3 * k)]
/-- One name more among sorted ones, behind all that it is not Less than: from the end on. -/
def insAt (x : Id) (l : List Id) : Nat → Nat
  | 0 => 0
  | k + 1 => match l[k]? with
    | some y => if Id.less x y then insAt x l k else k + 1
    | none => k + 1
def ins (l : List Id) (x : Id) : List Id := l.take (insAt x l l.length) ++ [x] ++ l.drop (insAt x l l.length)
def sortIds : List Id → List Id := List.foldl ins []

def gNd (L : List Int) (i : Nat) : Nd := ⟨(1 + nx L i 1000).toNat, gBxs (nx L (i + 1) 3).toNat L (i + 2)⟩
def gNdEnd (L : List Int) (i : Nat) : Nat := i + 2 + 4 * (nx L (i + 1) 3).toNat
/-- The path, after k rounds, and the place. -/
def gPath (L : List Int) (i : Nat) : Nat → List Nd × Nat
  | 0 => ([], i)
  | k + 1 => ((gPath L i k).1 ++ [gNd L (gPath L i k).2], gNdEnd L (gPath L i k).2)
def gSl (L : List Int) (i : Nat) : Sl := ⟨gId L i, gBytes (8 + nx L (i + 3) 5).toNat L (i + 4)⟩
def gSlEnd (L : List Int) (i : Nat) : Nat := i + 4 + (8 + nx L (i + 3) 5).toNat
def gHist (L : List Int) (i : Nat) : Nat → List Sl × Nat
  | 0 => ([], i)
  | k + 1 => ((gHist L i k).1 ++ [gSl L (gHist L i k).2], gSlEnd L (gHist L i k).2)
/-- The guards, after k rounds. -/
def gGuards (L : List Int) (i : Nat) : Nat → List Int
  | 0 => []
  | k + 1 => if nx L (i + k) 2 = 0 ∨ (k = 5 ∧ (gGuards L i k).length = 0) then gGuards L i k ++ [(k + 1 : Int)] else gGuards L i k

def commit (k : Int) : Bool := k == 1 || k == 2 || k == 3 || k == 4 || k == 13

/-- The phases. -/
def g1 (L : List Int) : Op := { Op.zero with kind := 1 + nx L 0 13, by_ := 1 + nx L 1 6, sq := 1 + nx L 2 20, at_ := nx L 3 500 }
def g2 (L : List Int) (p : Op × Nat) : Op × Nat :=
  if p.1.kind = 1 then p else ({ p.1 with past := sortIds (gPast L (p.2 + 1) (1 + nx L p.2 3).toNat) }, p.2 + 1 + 3 * (1 + nx L p.2 3).toNat)
def g3 (L : List Int) (p : Op × Nat) : Op × Nat :=
  if commit p.1.kind then ({ p.1 with path := (gPath L (p.2 + 1) (1 + nx L p.2 3).toNat).1 }, (gPath L (p.2 + 1) (1 + nx L p.2 3).toNat).2) else p
def g4 (L : List Int) (p : Op × Nat) : Op × Nat :=
  let i := p.2
  let o := p.1
  if o.kind = 1 then ({ o with need := nx L i 21 }, i + 1)
  else if o.kind = 2 then ({ o with dev := 1 + nx L i 12, role := 1 + nx L (i + 1) 3 }, i + 2)
  else if o.kind = 3 then (if nx L i 7 = 0 then ({ o with dev := 0, mem := 1 + nx L (i + 1) 8 }, i + 2) else ({ o with dev := nx L i 7 }, i + 1))
  else if o.kind = 5 then ({ o with mem := 1 + nx L i 8, role := 1 + nx L (i + 1) 3 }, i + 2)
  else if o.kind = 6 then
    let nb := (8 + nx L (i + 4) 9).toNat
    let nr := (nx L (i + 5 + nb) 3).toNat
    ({ o with epoch := gId L i, n := nx L (i + 3) 5, body := gBytes nb L (i + 5), refs := gRefs nr L (i + 6 + nb) }, i + 6 + nb + nr)
  else if o.kind = 7 then
    let nb := (1 + nx L (i + 3) 4).toNat
    ({ o with of := gId L i, body := gBytes nb L (i + 4) }, i + 4 + nb)
  else if o.kind = 9 then
    let gs := gGuards L i 6
    ({ o with guards := gs, need := 1 + nx L (i + 6) gs.length, wait := nx L (i + 7) 50, pub := (1 + nx L (i + 8) 1000).toNat, boxes := gBxs gs.length L (i + 9) }, i + 9 + 4 * gs.length)
  else if o.kind = 10 then
    let nb := (1 + nx L (i + 3) 6).toNat
    ({ o with of := gId L i, boxes := gBxs nb L (i + 4) }, i + 4 + 4 * nb)
  else if o.kind = 11 then ({ o with of := gId L i, dev := 1 + nx L (i + 3) 12, boxes := gBxs 1 L (i + 4) }, i + 8)
  else if o.kind = 13 then ({ o with of := gId L i, dev := 1 + nx L (i + 3) 12, old := 1 + nx L (i + 4) 12 }, i + 5)
  else ({ o with of := (if o.kind = 8 ∨ o.kind = 12 then gId L i else o.of) }, if o.kind = 8 ∨ o.kind = 12 then i + 3 else i)
def g5 (L : List Int) (p : Op × Nat) : Op × Nat :=
  if p.1.kind = 2 ∨ p.1.kind = 13 then ({ p.1 with hist := (gHist L (p.2 + 1) (nx L p.2 3).toNat).1 }, (gHist L (p.2 + 1) (nx L p.2 3).toNat).2) else p
/-- An operation that may be, made of numbers. -/
def gen (L : List Int) : Op := (g5 L (g4 L (g3 L (g2 L (g1 L, 4))))).1
end Oq
end Go.Proofs.YtahcddlgghipjaaGreatDoor
