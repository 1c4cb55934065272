/-
  op.Get: its post, and what closes its walk.
  Plain theorems; no condition.
-/
import Derived.Test.YtahcddlgghipjaaGreatDoorOpGet3
namespace Go.Proofs.YtahcddlgghipjaaGreatDoor
open Go.RowKit
namespace Oq

/-- An operation whose lists all lie in rows from base on, that may be written. -/
structure OpL.own (w : World) (base : Nat) (x : OpL) : Prop where
  past : RowAt w base 27 3 x.pastA x.past.length x.pastC (x.past.flatMap Id.cells)
  path : RowAt w base 55 2 x.pathA x.path.length x.pathC (x.path.flatMap NdL.cells)
  nodes : ∀ y ∈ x.path, RowAt w base 60 4 y.A y.xs.length y.c (y.xs.flatMap Bx.cells)
  body : RowAt w base 5 1 x.bodyA x.body.length x.bodyC (x.body.map Bv)
  refs : RowAt w base 25 1 x.refsA x.refs.length x.refsC (x.refs.map Uv)
  guards : RowAt w base 3 1 x.guardsA x.guards.length x.guardsC (x.guards.map Iv)
  boxes : RowAt w base 60 4 x.boxesA x.boxes.length x.boxesC (x.boxes.flatMap Bx.cells)
  hist : RowAt w base 58 4 x.histA x.hist.length x.histC (x.hist.flatMap SlL.cells)
  seals : ∀ y ∈ x.hist, RowAt w base 5 1 y.A y.y.length y.c (y.y.map Bv)
theorem OpL.own.at {w : World} {base : Nat} {x : OpL} (h : x.own w base) : x.at w w.heap.size where
  past := h.past.sl
  path := h.path.sl
  nodes y hy := (h.nodes y hy).sl
  body := h.body.sl
  refs := h.refs.sl
  guards := h.guards.sl
  boxes := h.boxes.sl
  hist := h.hist.sl
  seals y hy := (h.seals y hy).sl
theorem RowAt.nil (w : World) (base : Nat) (t : TypeId) (size : Nat) : RowAt w base t size none 0 0 [] := ⟨SlAt.nil _ _ _, .inl rfl⟩

theorem RowAt.res {w w' : World} {base size n c r : Nat} {t t' : TypeId} {A : Option Addr} {xs : List Value} {cs : Array Value} (h : RowAt w base t size A n c xs) (hf : Fr (One r) w w') (hr : Blk w r t' cs) (ht : t ≠ t') : RowAt w' base t size A n c xs :=
  h.fr hf (fun h0 k hk e => h.ne hr ht h0 k hk e)
theorem get_eq0 {bs : List UInt8} {o : Op} {a : Nat} {e E : Int} (h : rdOp bs 0 0 = (o, a, e)) (hE : Pk.endE bs a e = E) (h0 : E = 0) : get bs = (o, 0) := by
  unfold get
  rw [h]
  show (if Pk.endE bs a e ≠ 0 then _ else _) = _
  rw [hE, h0]
  rfl
theorem get_eq1 {bs : List UInt8} {o : Op} {a : Nat} {e E : Int} (h : rdOp bs 0 0 = (o, a, e)) (hE : Pk.endE bs a e = E) (h0 : E ≠ 0) : get bs = (Op.zero, E) := by
  unfold get
  rw [h]
  show (if Pk.endE bs a e ≠ 0 then (Op.zero, Pk.endE bs a e) else _) = _
  rw [hE, if_pos h0]

/-- The operation of nothing. -/
def OpL.zero : OpL :=
  { by_ := 0, sq := 0, kind := 0, at_ := 0, pastA := none, pastC := 0, past := [], dev := 0, old := 0, mem := 0, role := 0, pathA := none, pathC := 0, path := [], epoch := ⟨0, 0, 0⟩, n := 0, bodyA := none, bodyC := 0, body := [], refsA := none, refsC := 0, refs := [], of := ⟨0, 0, 0⟩, guardsA := none, guardsC := 0, guards := [], need := 0, wait := 0, boxesA := none, boxesC := 0, boxes := [], pub := 0, histA := none, histC := 0, hist := [], r := 0, s := 0 }
theorem OpL.zero_op : OpL.zero.op = Op.zero := rfl
theorem OpL.zero_own (w : World) (base : Nat) : OpL.zero.own w base where
  past := RowAt.nil _ _ _ _
  path := RowAt.nil _ _ _ _
  nodes y hy := by cases hy
  body := RowAt.nil _ _ _ _
  refs := RowAt.nil _ _ _ _
  guards := RowAt.nil _ _ _ _
  boxes := RowAt.nil _ _ _ _
  hist := RowAt.nil _ _ _ _
  seals y hy := by cases hy

/-- What op.Get answers. -/
def GetPost (bs : List UInt8) (w : World) (r : Ending) (w' : World) : Prop :=
  ∃ x : OpL, x.op = (get bs).1 ∧ r = .returned (.tuple #[.agg x.cells, .int .i64 (get bs).2]) ∧ x.own w' w.heap.size ∧ Fr Non w w'

theorem results_blk2 {P : Program} {fn : Func} {p q : Tmp} {ty t : TypeId} {d : TypeDesc} {cs : Array Value} {g : Nat} {tmps : Array Value} {w : World} (h : fn.results = #[.cell p ty, .tmp q])
    (ha : tmps.getD p undef = .pointer (some ⟨g, 0, none⟩)) (hb : Blk w g t cs) (hd : (match d with | .struct _ | .array _ _ => true | _ => false) = true) (hu : P.underlying ty = some d)
    (hi : (P.info? ty).map (·.size) = some cs.size) : (results fn tmps).run P w = .ok (.tuple #[.agg cs, tmps.getD q undef]) w := by
  have hl : (loadVar ty ⟨g, 0, none⟩).run P w = .ok (.agg cs) w := run_loadVar_row (P := P) w g t ty cs (0, 0) d hb hu (by cases d <;> first | rfl | exact hd) hi
  unfold results
  rw [h]
  have ha' : tmps[p]?.getD undef = .pointer (some ⟨g, 0, none⟩) := by simpa using ha
  simp [asAddr, ha', hl]
theorem ret_blk2 {P : Program} {fn : Func} {R : Ending → World → Prop} {p q : Tmp} {ty t : TypeId} {d : TypeDesc} {cs : Array Value} {g : Nat} {a : Act} {w : World} (h : fn.results = #[.cell p ty, .tmp q])
    (ha : a.tmps.getD p undef = .pointer (some ⟨g, 0, none⟩)) (hb : Blk w g t cs) (hd : (match d with | .struct _ | .array _ _ => true | _ => false) = true) (hu : P.underlying ty = some d)
    (hi : (P.info? ty).map (·.size) = some cs.size) (hdef : a.defers = []) (hR : R (.returned (.tuple #[.agg cs, a.tmps.getD q undef])) w) : bodyPost P fn R .ret a w :=
  bodyPost_ret (results_blk2 h ha hb hd hu hi) hdef hR
end Oq
end Go.Proofs.YtahcddlgghipjaaGreatDoor
