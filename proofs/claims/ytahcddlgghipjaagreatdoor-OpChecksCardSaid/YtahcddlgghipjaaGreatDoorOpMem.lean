/-
  Operations in memory: slices that read (SlAt), nodes, sealed ones, operations (OpL).
  Plain theorems over the model's worlds; no condition.
-/
import Derived.Test.YtahcddlgghipjaaGreatDoorOpSpec
namespace Go.Proofs.YtahcddlgghipjaaGreatDoor
open Go.RowKit
namespace Oq

/-- A slice that reads as these cells. -/
def SlAt (w : World) (B size : Nat) (A : Option Addr) (n c : Nat) (xs : List Value) : Prop := Rd w B size A n xs ∧ n ≤ c ∧ c ≤ 9223372036854775807

section
variable {S : Nat → Prop} {w w' : World} {B B' size n c : Nat} {A : Option Addr} {xs : List Value}
theorem SlAt.fr (h : SlAt w B size A n c xs) (hf : Fr S w w') (hs : ∀ k, k < B → ¬ S k) : SlAt w' B size A n c xs := ⟨h.1.fr hf hs, h.2⟩
theorem SlAt.mono (h : SlAt w B size A n c xs) (hB : B ≤ B') : SlAt w B' size A n c xs := ⟨h.1.mono hB, h.2⟩
theorem SlAt.nil (w : World) (B size : Nat) : SlAt w B size none 0 0 [] := ⟨Rd.nil _ _ _ _, by omega, by omega⟩
theorem SlAt.rd (h : SlAt w B size A n c xs) : Rd w B size A n xs := h.1
end

def Uv (n : Nat) : Value := .int .u64 (n : Int)
def Iv (n : Int) : Value := .int .i64 n
def Id.cells (i : Id) : List Value := [.int .i64 i.b, .int .i64 i.s, .int .u64 (i.u : Int)]
def Bx.cells (x : Bx) : List Value := [.int .u64 (x.t : Int), .int .u64 (x.e : Int), .int .u64 (x.y : Int), .int .u64 (x.g : Int)]
/-- A node, and where its boxes lie. -/
structure NdL where
  p : Nat
  A : Option Addr
  c : Nat
  xs : List Bx
def NdL.nd (x : NdL) : Nd := ⟨x.p, x.xs⟩
def NdL.cells (x : NdL) : List Value := [.int .u64 (x.p : Int), .slice x.A x.xs.length x.c]
def NdL.at (w : World) (B : Nat) (x : NdL) : Prop := SlAt w B 4 x.A x.xs.length x.c (x.xs.flatMap Bx.cells)
structure SlL where
  f : Id
  A : Option Addr
  c : Nat
  y : List UInt8
def SlL.sl (x : SlL) : Sl := ⟨x.f, x.y⟩
def SlL.cells (x : SlL) : List Value := [.int .i64 x.f.b, .int .i64 x.f.s, .int .u64 (x.f.u : Int), .slice x.A x.y.length x.c]
def SlL.at (w : World) (B : Nat) (x : SlL) : Prop := SlAt w B 1 x.A x.y.length x.c (x.y.map Bv)

/-- An operation, and where its lists lie. -/
structure OpL where
  by_ : Int
  sq : Int
  kind : Int
  at_ : Int
  pastA : Option Addr
  pastC : Nat
  past : List Id
  dev : Int
  old : Int
  mem : Int
  role : Int
  pathA : Option Addr
  pathC : Nat
  path : List NdL
  epoch : Id
  n : Int
  bodyA : Option Addr
  bodyC : Nat
  body : List UInt8
  refsA : Option Addr
  refsC : Nat
  refs : List Nat
  of : Id
  guardsA : Option Addr
  guardsC : Nat
  guards : List Int
  need : Int
  wait : Int
  boxesA : Option Addr
  boxesC : Nat
  boxes : List Bx
  pub : Nat
  histA : Option Addr
  histC : Nat
  hist : List SlL
  r : Nat
  s : Nat

def OpL.op (x : OpL) : Op :=
  { by_ := x.by_, sq := x.sq, kind := x.kind, at_ := x.at_, past := x.past, dev := x.dev, old := x.old, mem := x.mem, role := x.role, path := x.path.map NdL.nd, epoch := x.epoch, n := x.n, body := x.body, refs := x.refs, of := x.of,
    guards := x.guards, need := x.need, wait := x.wait, boxes := x.boxes, pub := x.pub, hist := x.hist.map SlL.sl, r := x.r, s := x.s }
def OpL.cells (x : OpL) : Array Value :=
  #[.int .i64 x.by_, .int .i64 x.sq, .int .i64 x.kind, .int .i64 x.at_, .slice x.pastA x.past.length x.pastC, .int .i64 x.dev, .int .i64 x.old, .int .i64 x.mem, .int .i64 x.role, .slice x.pathA x.path.length x.pathC,
    .int .i64 x.epoch.b, .int .i64 x.epoch.s, .int .u64 (x.epoch.u : Int), .int .i64 x.n, .slice x.bodyA x.body.length x.bodyC, .slice x.refsA x.refs.length x.refsC, .int .i64 x.of.b, .int .i64 x.of.s, .int .u64 (x.of.u : Int),
    .slice x.guardsA x.guards.length x.guardsC, .int .i64 x.need, .int .i64 x.wait, .slice x.boxesA x.boxes.length x.boxesC, .int .u64 (x.pub : Int), .slice x.histA x.hist.length x.histC, .int .u64 (x.r : Int), .int .u64 (x.s : Int)]
structure OpL.at (w : World) (B : Nat) (x : OpL) : Prop where
  past : SlAt w B 3 x.pastA x.past.length x.pastC (x.past.flatMap Id.cells)
  path : SlAt w B 2 x.pathA x.path.length x.pathC (x.path.flatMap NdL.cells)
  nodes : ∀ y ∈ x.path, y.at w B
  body : SlAt w B 1 x.bodyA x.body.length x.bodyC (x.body.map Bv)
  refs : SlAt w B 1 x.refsA x.refs.length x.refsC (x.refs.map Uv)
  guards : SlAt w B 1 x.guardsA x.guards.length x.guardsC (x.guards.map Iv)
  boxes : SlAt w B 4 x.boxesA x.boxes.length x.boxesC (x.boxes.flatMap Bx.cells)
  hist : SlAt w B 4 x.histA x.hist.length x.histC (x.hist.flatMap SlL.cells)
  seals : ∀ y ∈ x.hist, y.at w B

section
variable {S : Nat → Prop} {w w' : World} {B B' : Nat}
theorem NdL.at.fr {x : NdL} (h : x.at w B) (hf : Fr S w w') (hs : ∀ k, k < B → ¬ S k) : x.at w' B := SlAt.fr h hf hs
theorem NdL.at.mono {x : NdL} (h : x.at w B) (hB : B ≤ B') : x.at w B' := SlAt.mono h hB
theorem SlL.at.fr {x : SlL} (h : x.at w B) (hf : Fr S w w') (hs : ∀ k, k < B → ¬ S k) : x.at w' B := SlAt.fr h hf hs
theorem SlL.at.mono {x : SlL} (h : x.at w B) (hB : B ≤ B') : x.at w B' := SlAt.mono h hB
theorem OpL.at.fr {x : OpL} (h : x.at w B) (hf : Fr S w w') (hs : ∀ k, k < B → ¬ S k) : x.at w' B where
  past := h.past.fr hf hs
  path := h.path.fr hf hs
  nodes y hy := (h.nodes y hy).fr hf hs
  body := h.body.fr hf hs
  refs := h.refs.fr hf hs
  guards := h.guards.fr hf hs
  boxes := h.boxes.fr hf hs
  hist := h.hist.fr hf hs
  seals y hy := (h.seals y hy).fr hf hs
theorem OpL.at.mono {x : OpL} (h : x.at w B) (hB : B ≤ B') : x.at w B' where
  past := h.past.mono hB
  path := h.path.mono hB
  nodes y hy := (h.nodes y hy).mono hB
  body := h.body.mono hB
  refs := h.refs.mono hB
  guards := h.guards.mono hB
  boxes := h.boxes.mono hB
  hist := h.hist.mono hB
  seals y hy := (h.seals y hy).mono hB
end

/-- Read by its form: numbers of their kinds, lists not too long. -/
structure Op.ok (o : Op) : Prop where
  by_ : I64 o.by_
  sq : I64 o.sq
  kind : I64 o.kind
  at_ : I64 o.at_
  past : o.past.length ≤ 1000 ∧ ∀ x ∈ o.past, x.ok
  dev : I64 o.dev
  old : I64 o.old
  mem : I64 o.mem
  role : I64 o.role
  path : o.path.length ≤ 1000 ∧ ∀ x ∈ o.path, x.ok
  epoch : o.epoch.ok
  n : I64 o.n
  body : o.body.length ≤ 1000000
  refs : o.refs.length ≤ 1000 ∧ ∀ x ∈ o.refs, U64 x
  of : o.of.ok
  guards : o.guards.length ≤ 1000 ∧ ∀ x ∈ o.guards, I64 x
  need : I64 o.need
  wait : I64 o.wait
  boxes : o.boxes.length ≤ 1000 ∧ ∀ x ∈ o.boxes, x.ok
  pub : U64 o.pub
  hist : o.hist.length ≤ 1000 ∧ ∀ x ∈ o.hist, x.f.ok ∧ x.y.length ≤ 1000000
  r : U64 o.r
  s : U64 o.s

/-- The bytes without the signature. -/
def Op.bare (o : Op) : List UInt8 :=
  Pk.int o.by_ ++ Pk.int o.sq ++ Pk.int o.kind ++ Pk.int o.at_ ++ lst Id.bytes o.past ++ Pk.int o.dev ++ Pk.int o.old ++ Pk.int o.mem ++ Pk.int o.role ++ lst Nd.bytes o.path ++ o.epoch.bytes ++ Pk.int o.n ++ Pk.text o.body ++
    lst Pk.num o.refs ++ o.of.bytes ++ lst Pk.int o.guards ++ Pk.int o.need ++ Pk.int o.wait ++ lst Bx.bytes o.boxes ++ Pk.num o.pub ++ lst Sl.bytes o.hist
def Op.put (o : Op) : List UInt8 := o.bare ++ Pk.num o.r ++ Pk.num o.s

/-- The nothing. -/
def Op.zero : Op :=
  { by_ := 0, sq := 0, kind := 0, at_ := 0, past := [], dev := 0, old := 0, mem := 0, role := 0, path := [], epoch := ⟨0, 0, 0⟩, n := 0, body := [], refs := [], of := ⟨0, 0, 0⟩, guards := [], need := 0, wait := 0, boxes := [], pub := 0, hist := [], r := 0, s := 0 }
end Oq
end Go.Proofs.YtahcddlgghipjaaGreatDoor
