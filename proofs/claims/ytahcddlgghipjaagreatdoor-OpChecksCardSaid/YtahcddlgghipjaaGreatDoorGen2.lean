/-
  The generator's state: an operation in its block, the source of numbers; what the steps do to it.
  Plain theorems over the model's worlds; no condition.
-/
import Derived.Test.YtahcddlgghipjaaGreatDoorOpSort
import Derived.Test.YtahcddlgghipjaaGreatDoorOpChk
import Derived.Test.YtahcddlgghipjaaGreatDoorOpGetPost
namespace Go.Proofs.YtahcddlgghipjaaGreatDoor
open Go.RowKit
attribute [local go_sem ↓] Go.wp_at_zero Go.wp_at_succ
namespace Oq

theorem RowAt.keepT {S : Nat → Prop} {w w' : World} {base size n c : Nat} {t : TypeId} {A : Option Addr} {xs : List Value} (h : RowAt w base t size A n c xs) (hf : Fr S w w') (hS : ∀ k cs fr, w.heap[k]? = some (.cells cs t fr) → ¬ S k) : RowAt w' base t size A n c xs := by
  refine h.fr hf (fun h0 k hk e => ?_)
  rcases h.2 with hn | ⟨k', cs', fr', rfl, _, hb', _⟩
  · exact h0 hn
  · injection hk with hk
    subst hk
    exact hS _ _ _ hb' e
/-- All rows of an operation but those of a type are kept. -/
def Types (S : Nat → Prop) (w : World) (P : TypeId → Prop) : Prop := ∀ k cs t fr, w.heap[k]? = some (.cells cs t fr) → S k → P t
theorem Types.not {S : Nat → Prop} {w : World} {P : TypeId → Prop} {t : TypeId} (h : Types S w P) (ht : ¬ P t) : ∀ k cs fr, w.heap[k]? = some (.cells cs t fr) → ¬ S k := fun k cs fr hk e => ht (h k cs t fr hk e)
/-- The types of blocks that are no rows of an operation. -/
def Far (t : TypeId) : Prop := t = 35 ∨ t = 48
theorem Types.one {w : World} {g : Nat} {t : TypeId} {cs : Array Value} (h : Blk w g t cs) : Types (One g) w (fun t' => t' = t) := fun k cs' t' fr hk e => by
  have e' : k = g := e
  subst e'
  unfold Blk at h
  rw [hk] at h
  injection h with h
  injection h with _ h _
theorem Types.row {w : World} {base size n c : Nat} {t : TypeId} {A : Option Addr} {xs : List Value} (h : Own w base t size A n c xs) : Types (fun k => rowOf A = some k) w (fun t' => t' = t) := fun k cs' t' fr hk e => by
  rcases h.2 with ⟨hv, _⟩ | ⟨g, cap, cur, hv, _, hg, _⟩
  · injection hv with hA _ _
    subst hA
    cases e
  · injection hv with hA _ _
    subst hA
    injection e with e
    subst e
    rw [hk] at hg
    injection hg with hg
    injection hg with _ h _
theorem Types.mono {S : Nat → Prop} {w : World} {P Q : TypeId → Prop} (h : Types S w P) (hp : ∀ t, P t → Q t) : Types S w Q := fun k cs t fr hk e => hp t (h k cs t fr hk e)
theorem OpL.own.keep {S : Nat → Prop} {w w' : World} {base : Nat} {x : OpL} (h : x.own w base) (hf : Fr S w w') (hS : Types S w Far) : x.own w' base where
  past := h.past.keepT hf (hS.not (by unfold Far; decide))
  path := h.path.keepT hf (hS.not (by unfold Far; decide))
  nodes y hy := (h.nodes y hy).keepT hf (hS.not (by unfold Far; decide))
  body := h.body.keepT hf (hS.not (by unfold Far; decide))
  refs := h.refs.keepT hf (hS.not (by unfold Far; decide))
  guards := h.guards.keepT hf (hS.not (by unfold Far; decide))
  boxes := h.boxes.keepT hf (hS.not (by unfold Far; decide))
  hist := h.hist.keepT hf (hS.not (by unfold Far; decide))
  seals y hy := (h.seals y hy).keepT hf (hS.not (by unfold Far; decide))

/-- The state: the operation's block, its source, its rows; all that is touched lies behind what was there at w0. -/
structure Gs (w0 w : World) (B g go : Nat) (L : List Int) (i : Nat) (x : OpL) : Prop where
  blk : Blk w go 35 x.cells
  tk : Tk w B g L i
  own : x.own w B
  lo : w0.heap.size ≤ B ∧ g < go
  fr : Fr Non w0 w
section
variable {S : Nat → Prop} {w0 w w' : World} {B g go i i' : Nat} {L : List Int} {x : OpL}
theorem Gs.step (h : Gs w0 w B g go L i x) (hf : Fr S w w') (ht : Tk w' B g L i') (hS : Types S w Far) (hn : ¬ S go) (hl : ∀ k, S k → w0.heap.size ≤ k) : Gs w0 w' B g go L i' x :=
  ⟨h.blk.fr hf hn, ht, h.own.keep hf hS, h.lo, h.fr.trans hf (fun k hk e => absurd hk (by have := hl k e; omega))⟩
theorem Gs.one (h : Gs w0 w B g go L i x) (hf : Fr (One g) w w') (ht : Tk w' B g L i') : Gs w0 w' B g go L i' x := by
  have htk := h.tk
  obtain ⟨_, _, hb, _⟩ := htk
  have hlo := h.lo
  have hB := h.tk.le
  exact h.step hf ht ((Types.one hb).mono (fun t e => .inr e)) (by unfold One; omega) (fun k e => by have e' : k = g := e; omega)
theorem Gs.non (h : Gs w0 w B g go L i x) (hf : Fr Non w w') : Gs w0 w' B g go L i x :=
  h.step hf (h.tk.fr hf (fun e => e) (fun _ _ e => e)) (fun _ _ _ _ _ e => e.elim) (fun e => e) (fun _ e => e.elim)
theorem Gs.alloc (h : Gs w0 w B g go L i x) (o : Obj) : Gs w0 (w.alloc o) B g go L i x := h.non ((Fr.refl _ _).alloc o)
theorem Gs.drew (h : Gs w0 w B g go L i x) : Gs w0 w.drew B g go L i x := h.non ((Fr.refl _ _).drew)
theorem Gs.drewN (h : Gs w0 w B g go L i x) (n : Nat) : Gs w0 (w.drewN n) B g go L i x := h.non ((Fr.refl _ _).drewN n)
/-- A store into the operation's block. -/
theorem Gs.put (h : Gs w0 w B g go L i x) (j : Nat) (v : Value) (y : OpL) (hy : y.cells = x.cells.setIfInBounds j v) (ho : x.own (w.setCell ⟨go, j, none⟩ v) B → y.own (w.setCell ⟨go, j, none⟩ v) B) : Gs w0 (w.setCell ⟨go, j, none⟩ v) B g go L i y := by
  have hlo := h.lo
  have hf := (Fr.refl (One go) w).setOne j v
  have hB := h.tk.le
  exact ⟨hy ▸ h.blk.set j v, h.tk.fr hf (by unfold One; omega) (fun k hk e => by have e' : k = go := e; omega), ho (h.own.keep hf ((Types.one h.blk).mono (fun t e => .inl e))), h.lo, h.fr.trans hf (fun k hk e => absurd hk (by have e' : k = go := e; omega))⟩
theorem Gs.dev (h : Gs w0 w B g go L i x) (v : Int) : Gs w0 (w.setCell ⟨go, 5, none⟩ (.int .i64 v)) B g go L i { x with dev := v } := h.put 5 _ _ rfl (fun o => ⟨o.past, o.path, o.nodes, o.body, o.refs, o.guards, o.boxes, o.hist, o.seals⟩)
theorem Gs.old (h : Gs w0 w B g go L i x) (v : Int) : Gs w0 (w.setCell ⟨go, 6, none⟩ (.int .i64 v)) B g go L i { x with old := v } := h.put 6 _ _ rfl (fun o => ⟨o.past, o.path, o.nodes, o.body, o.refs, o.guards, o.boxes, o.hist, o.seals⟩)
theorem Gs.mem (h : Gs w0 w B g go L i x) (v : Int) : Gs w0 (w.setCell ⟨go, 7, none⟩ (.int .i64 v)) B g go L i { x with mem := v } := h.put 7 _ _ rfl (fun o => ⟨o.past, o.path, o.nodes, o.body, o.refs, o.guards, o.boxes, o.hist, o.seals⟩)
theorem Gs.role (h : Gs w0 w B g go L i x) (v : Int) : Gs w0 (w.setCell ⟨go, 8, none⟩ (.int .i64 v)) B g go L i { x with role := v } := h.put 8 _ _ rfl (fun o => ⟨o.past, o.path, o.nodes, o.body, o.refs, o.guards, o.boxes, o.hist, o.seals⟩)
theorem Gs.n (h : Gs w0 w B g go L i x) (v : Int) : Gs w0 (w.setCell ⟨go, 13, none⟩ (.int .i64 v)) B g go L i { x with n := v } := h.put 13 _ _ rfl (fun o => ⟨o.past, o.path, o.nodes, o.body, o.refs, o.guards, o.boxes, o.hist, o.seals⟩)
theorem Gs.need (h : Gs w0 w B g go L i x) (v : Int) : Gs w0 (w.setCell ⟨go, 20, none⟩ (.int .i64 v)) B g go L i { x with need := v } := h.put 20 _ _ rfl (fun o => ⟨o.past, o.path, o.nodes, o.body, o.refs, o.guards, o.boxes, o.hist, o.seals⟩)
theorem Gs.wait (h : Gs w0 w B g go L i x) (v : Int) : Gs w0 (w.setCell ⟨go, 21, none⟩ (.int .i64 v)) B g go L i { x with wait := v } := h.put 21 _ _ rfl (fun o => ⟨o.past, o.path, o.nodes, o.body, o.refs, o.guards, o.boxes, o.hist, o.seals⟩)
theorem Gs.by_ (h : Gs w0 w B g go L i x) (v : Int) : Gs w0 (w.setCell ⟨go, 0, none⟩ (.int .i64 v)) B g go L i { x with by_ := v } := h.put 0 _ _ rfl (fun o => ⟨o.past, o.path, o.nodes, o.body, o.refs, o.guards, o.boxes, o.hist, o.seals⟩)
theorem Gs.sq (h : Gs w0 w B g go L i x) (v : Int) : Gs w0 (w.setCell ⟨go, 1, none⟩ (.int .i64 v)) B g go L i { x with sq := v } := h.put 1 _ _ rfl (fun o => ⟨o.past, o.path, o.nodes, o.body, o.refs, o.guards, o.boxes, o.hist, o.seals⟩)
theorem Gs.kind (h : Gs w0 w B g go L i x) (v : Int) : Gs w0 (w.setCell ⟨go, 2, none⟩ (.int .i64 v)) B g go L i { x with kind := v } := h.put 2 _ _ rfl (fun o => ⟨o.past, o.path, o.nodes, o.body, o.refs, o.guards, o.boxes, o.hist, o.seals⟩)
theorem Gs.at_ (h : Gs w0 w B g go L i x) (v : Int) : Gs w0 (w.setCell ⟨go, 3, none⟩ (.int .i64 v)) B g go L i { x with at_ := v } := h.put 3 _ _ rfl (fun o => ⟨o.past, o.path, o.nodes, o.body, o.refs, o.guards, o.boxes, o.hist, o.seals⟩)
theorem Gs.pub (h : Gs w0 w B g go L i x) (v : Nat) : Gs w0 (w.setCell ⟨go, 23, none⟩ (.int .u64 (v : Int))) B g go L i { x with pub := v } := h.put 23 _ _ rfl (fun o => ⟨o.past, o.path, o.nodes, o.body, o.refs, o.guards, o.boxes, o.hist, o.seals⟩)
theorem Gs.epoch (h : Gs w0 w B g go L i x) (y : Id) : Gs w0 (((w.setCell ⟨go, 10, none⟩ (.int .i64 y.b)).setCell ⟨go, 11, none⟩ (.int .i64 y.s)).setCell ⟨go, 12, none⟩ (.int .u64 (y.u : Int))) B g go L i { x with epoch := y } :=
  ((h.put 10 (.int .i64 y.b) { x with epoch := ⟨y.b, x.epoch.s, x.epoch.u⟩ } rfl (fun o => ⟨o.past, o.path, o.nodes, o.body, o.refs, o.guards, o.boxes, o.hist, o.seals⟩)).put 11 (.int .i64 y.s) { x with epoch := ⟨y.b, y.s, x.epoch.u⟩ } rfl (fun o => ⟨o.past, o.path, o.nodes, o.body, o.refs, o.guards, o.boxes, o.hist, o.seals⟩)).put 12 (.int .u64 (y.u : Int)) { x with epoch := y } rfl (fun o => ⟨o.past, o.path, o.nodes, o.body, o.refs, o.guards, o.boxes, o.hist, o.seals⟩)
theorem Gs.of (h : Gs w0 w B g go L i x) (y : Id) : Gs w0 (((w.setCell ⟨go, 16, none⟩ (.int .i64 y.b)).setCell ⟨go, 17, none⟩ (.int .i64 y.s)).setCell ⟨go, 18, none⟩ (.int .u64 (y.u : Int))) B g go L i { x with of := y } :=
  ((h.put 16 (.int .i64 y.b) { x with of := ⟨y.b, x.of.s, x.of.u⟩ } rfl (fun o => ⟨o.past, o.path, o.nodes, o.body, o.refs, o.guards, o.boxes, o.hist, o.seals⟩)).put 17 (.int .i64 y.s) { x with of := ⟨y.b, y.s, x.of.u⟩ } rfl (fun o => ⟨o.past, o.path, o.nodes, o.body, o.refs, o.guards, o.boxes, o.hist, o.seals⟩)).put 18 (.int .u64 (y.u : Int)) { x with of := y } rfl (fun o => ⟨o.past, o.path, o.nodes, o.body, o.refs, o.guards, o.boxes, o.hist, o.seals⟩)
theorem Gs.past (h : Gs w0 w B g go L i x) (l : List Id) (A : Option Addr) (n c : Nat) (hl : l.length = n) (hr : RowAt w B 27 3 A n c (l.flatMap Id.cells)) : Gs w0 (w.setCell ⟨go, 4, none⟩ (.slice A n c)) B g go L i { x with pastA := A, pastC := c, past := l } := by
  subst hl
  have hf := (Fr.refl (One go) w).setOne 4 (.slice A l.length c)
  have ht := Types.one h.blk
  exact h.put 4 _ _ rfl (fun o => ⟨hr.keepT hf (ht.not (by decide)), o.path, o.nodes, o.body, o.refs, o.guards, o.boxes, o.hist, o.seals⟩)
theorem Gs.body (h : Gs w0 w B g go L i x) (l : List UInt8) (A : Option Addr) (n c : Nat) (hl : l.length = n) (hr : RowAt w B 5 1 A n c (l.map Bv)) : Gs w0 (w.setCell ⟨go, 14, none⟩ (.slice A n c)) B g go L i { x with bodyA := A, bodyC := c, body := l } := by
  subst hl
  have hf := (Fr.refl (One go) w).setOne 14 (.slice A l.length c)
  have ht := Types.one h.blk
  exact h.put 14 _ _ rfl (fun o => ⟨o.past, o.path, o.nodes, hr.keepT hf (ht.not (by decide)), o.refs, o.guards, o.boxes, o.hist, o.seals⟩)
theorem Gs.refs (h : Gs w0 w B g go L i x) (l : List Nat) (A : Option Addr) (n c : Nat) (hl : l.length = n) (hr : RowAt w B 25 1 A n c (l.map Uv)) : Gs w0 (w.setCell ⟨go, 15, none⟩ (.slice A n c)) B g go L i { x with refsA := A, refsC := c, refs := l } := by
  subst hl
  have hf := (Fr.refl (One go) w).setOne 15 (.slice A l.length c)
  have ht := Types.one h.blk
  exact h.put 15 _ _ rfl (fun o => ⟨o.past, o.path, o.nodes, o.body, hr.keepT hf (ht.not (by decide)), o.guards, o.boxes, o.hist, o.seals⟩)
theorem Gs.guards (h : Gs w0 w B g go L i x) (l : List Int) (A : Option Addr) (n c : Nat) (hl : l.length = n) (hr : RowAt w B 3 1 A n c (l.map Iv)) : Gs w0 (w.setCell ⟨go, 19, none⟩ (.slice A n c)) B g go L i { x with guardsA := A, guardsC := c, guards := l } := by
  subst hl
  have hf := (Fr.refl (One go) w).setOne 19 (.slice A l.length c)
  have ht := Types.one h.blk
  exact h.put 19 _ _ rfl (fun o => ⟨o.past, o.path, o.nodes, o.body, o.refs, hr.keepT hf (ht.not (by decide)), o.boxes, o.hist, o.seals⟩)
theorem Gs.boxes (h : Gs w0 w B g go L i x) (l : List Bx) (A : Option Addr) (n c : Nat) (hl : l.length = n) (hr : RowAt w B 60 4 A n c (l.flatMap Bx.cells)) : Gs w0 (w.setCell ⟨go, 22, none⟩ (.slice A n c)) B g go L i { x with boxesA := A, boxesC := c, boxes := l } := by
  subst hl
  have hf := (Fr.refl (One go) w).setOne 22 (.slice A l.length c)
  have ht := Types.one h.blk
  exact h.put 22 _ _ rfl (fun o => ⟨o.past, o.path, o.nodes, o.body, o.refs, o.guards, hr.keepT hf (ht.not (by decide)), o.hist, o.seals⟩)
theorem Gs.path (h : Gs w0 w B g go L i x) (l : List NdL) (A : Option Addr) (n c : Nat) (hl : l.length = n) (hr : RowAt w B 55 2 A n c (l.flatMap NdL.cells)) (hn : ∀ y ∈ l, RowAt w B 60 4 y.A y.xs.length y.c (y.xs.flatMap Bx.cells)) : Gs w0 (w.setCell ⟨go, 9, none⟩ (.slice A n c)) B g go L i { x with pathA := A, pathC := c, path := l } := by
  subst hl
  have hf := (Fr.refl (One go) w).setOne 9 (.slice A l.length c)
  have ht := Types.one h.blk
  exact h.put 9 _ _ rfl (fun o => ⟨o.past, hr.keepT hf (ht.not (by decide)), fun y hy => (hn y hy).keepT hf (ht.not (by decide)), o.body, o.refs, o.guards, o.boxes, o.hist, o.seals⟩)
theorem Gs.hist (h : Gs w0 w B g go L i x) (l : List SlL) (A : Option Addr) (n c : Nat) (hl : l.length = n) (hr : RowAt w B 58 4 A n c (l.flatMap SlL.cells)) (hn : ∀ y ∈ l, RowAt w B 5 1 y.A y.y.length y.c (y.y.map Bv)) : Gs w0 (w.setCell ⟨go, 24, none⟩ (.slice A n c)) B g go L i { x with histA := A, histC := c, hist := l } := by
  subst hl
  have hf := (Fr.refl (One go) w).setOne 24 (.slice A l.length c)
  have ht := Types.one h.blk
  exact h.put 24 _ _ rfl (fun o => ⟨o.past, o.path, o.nodes, o.body, o.refs, o.guards, o.boxes, hr.keepT hf (ht.not (by decide)), fun y hy => (hn y hy).keepT hf (ht.not (by decide))⟩)
/-- .. and the store of what it answered. -/
theorem Gs.past_app {w2 : World} (h : Gs w0 w B g go L i x) {n0 c0 : Nat} {A0 : Option Addr} {v0 : List Value} (own1 : Own w B 27 3 A0 n0 c0 v0) (hf : Fr (fun k => rowOf A0 = some k) w w2) (l : List Id) (A : Option Addr) (n c : Nat) (hl : l.length = n) (own2 : Own w2 B 27 3 A n c (l.flatMap Id.cells)) : Gs w0 (w2.setCell ⟨go, 4, none⟩ (.slice A n c)) B g go L i { x with pastA := A, pastC := c, past := l } := by
  subst hl
  have hlo := h.lo
  have hB := h.tk.le
  have ht := Types.row own1
  have hrow : ∀ k, rowOf A0 = some k → B ≤ k := fun k hk => (own1.row k hk).1
  have hgo : ¬ rowOf A0 = some go := own1.ne h.blk (by decide)
  have htk := h.tk
  obtain ⟨_, _, hbt, _⟩ := htk
  have hg : ¬ rowOf A0 = some g := own1.ne hbt (by decide)
  have hb2 := h.blk.fr hf hgo
  have hbs : ∀ k, k < B → ¬ rowOf A0 = some k := fun k hk e => by have := hrow k e; omega
  have hf2 := (Fr.refl (One go) w2).setOne 4 (.slice A l.length c)
  have ht2 := Types.one hb2
  have hr := RowAt.of_own own2
  exact ⟨hb2.set 4 _, (h.tk.fr hf hg hbs).fr hf2 (by unfold One; omega) (fun k hk e => by have e' : k = go := e; omega), ⟨hr.keepT hf2 (ht2.not (by decide)), (h.own.path.keepT hf (ht.not (by decide))).keepT hf2 (ht2.not (by decide)), fun y hy => ((h.own.nodes y hy).keepT hf (ht.not (by decide))).keepT hf2 (ht2.not (by decide)), (h.own.body.keepT hf (ht.not (by decide))).keepT hf2 (ht2.not (by decide)), (h.own.refs.keepT hf (ht.not (by decide))).keepT hf2 (ht2.not (by decide)), (h.own.guards.keepT hf (ht.not (by decide))).keepT hf2 (ht2.not (by decide)), (h.own.boxes.keepT hf (ht.not (by decide))).keepT hf2 (ht2.not (by decide)), (h.own.hist.keepT hf (ht.not (by decide))).keepT hf2 (ht2.not (by decide)), fun y hy => ((h.own.seals y hy).keepT hf (ht.not (by decide))).keepT hf2 (ht2.not (by decide))⟩, h.lo, (h.fr.trans hf (fun k hk e => absurd hk (by have := hrow k e; omega))).trans hf2 (fun k hk e => absurd hk (by have e' : k = go := e; omega))⟩
/-- .. and the store of what it answered. -/
theorem Gs.path_app {w2 : World} (h : Gs w0 w B g go L i x) {n0 c0 : Nat} {A0 : Option Addr} {v0 : List Value} (own1 : Own w B 55 2 A0 n0 c0 v0) (hf : Fr (fun k => rowOf A0 = some k) w w2) (l : List NdL) (A : Option Addr) (n c : Nat) (hl : l.length = n) (own2 : Own w2 B 55 2 A n c (l.flatMap NdL.cells)) (hn : ∀ y ∈ l, RowAt w B 60 4 y.A y.xs.length y.c (y.xs.flatMap Bx.cells)) : Gs w0 (w2.setCell ⟨go, 9, none⟩ (.slice A n c)) B g go L i { x with pathA := A, pathC := c, path := l } := by
  subst hl
  have hlo := h.lo
  have hB := h.tk.le
  have ht := Types.row own1
  have hrow : ∀ k, rowOf A0 = some k → B ≤ k := fun k hk => (own1.row k hk).1
  have hgo : ¬ rowOf A0 = some go := own1.ne h.blk (by decide)
  have htk := h.tk
  obtain ⟨_, _, hbt, _⟩ := htk
  have hg : ¬ rowOf A0 = some g := own1.ne hbt (by decide)
  have hb2 := h.blk.fr hf hgo
  have hbs : ∀ k, k < B → ¬ rowOf A0 = some k := fun k hk e => by have := hrow k e; omega
  have hf2 := (Fr.refl (One go) w2).setOne 9 (.slice A l.length c)
  have ht2 := Types.one hb2
  have hr := RowAt.of_own own2
  exact ⟨hb2.set 9 _, (h.tk.fr hf hg hbs).fr hf2 (by unfold One; omega) (fun k hk e => by have e' : k = go := e; omega), ⟨(h.own.past.keepT hf (ht.not (by decide))).keepT hf2 (ht2.not (by decide)), hr.keepT hf2 (ht2.not (by decide)), fun y hy => ((hn y hy).keepT hf (ht.not (by decide))).keepT hf2 (ht2.not (by decide)), (h.own.body.keepT hf (ht.not (by decide))).keepT hf2 (ht2.not (by decide)), (h.own.refs.keepT hf (ht.not (by decide))).keepT hf2 (ht2.not (by decide)), (h.own.guards.keepT hf (ht.not (by decide))).keepT hf2 (ht2.not (by decide)), (h.own.boxes.keepT hf (ht.not (by decide))).keepT hf2 (ht2.not (by decide)), (h.own.hist.keepT hf (ht.not (by decide))).keepT hf2 (ht2.not (by decide)), fun y hy => ((h.own.seals y hy).keepT hf (ht.not (by decide))).keepT hf2 (ht2.not (by decide))⟩, h.lo, (h.fr.trans hf (fun k hk e => absurd hk (by have := hrow k e; omega))).trans hf2 (fun k hk e => absurd hk (by have e' : k = go := e; omega))⟩
/-- .. and the store of what it answered. -/
theorem Gs.refs_app {w2 : World} (h : Gs w0 w B g go L i x) {n0 c0 : Nat} {A0 : Option Addr} {v0 : List Value} (own1 : Own w B 25 1 A0 n0 c0 v0) (hf : Fr (fun k => rowOf A0 = some k) w w2) (l : List Nat) (A : Option Addr) (n c : Nat) (hl : l.length = n) (own2 : Own w2 B 25 1 A n c (l.map Uv)) : Gs w0 (w2.setCell ⟨go, 15, none⟩ (.slice A n c)) B g go L i { x with refsA := A, refsC := c, refs := l } := by
  subst hl
  have hlo := h.lo
  have hB := h.tk.le
  have ht := Types.row own1
  have hrow : ∀ k, rowOf A0 = some k → B ≤ k := fun k hk => (own1.row k hk).1
  have hgo : ¬ rowOf A0 = some go := own1.ne h.blk (by decide)
  have htk := h.tk
  obtain ⟨_, _, hbt, _⟩ := htk
  have hg : ¬ rowOf A0 = some g := own1.ne hbt (by decide)
  have hb2 := h.blk.fr hf hgo
  have hbs : ∀ k, k < B → ¬ rowOf A0 = some k := fun k hk e => by have := hrow k e; omega
  have hf2 := (Fr.refl (One go) w2).setOne 15 (.slice A l.length c)
  have ht2 := Types.one hb2
  have hr := RowAt.of_own own2
  exact ⟨hb2.set 15 _, (h.tk.fr hf hg hbs).fr hf2 (by unfold One; omega) (fun k hk e => by have e' : k = go := e; omega), ⟨(h.own.past.keepT hf (ht.not (by decide))).keepT hf2 (ht2.not (by decide)), (h.own.path.keepT hf (ht.not (by decide))).keepT hf2 (ht2.not (by decide)), fun y hy => ((h.own.nodes y hy).keepT hf (ht.not (by decide))).keepT hf2 (ht2.not (by decide)), (h.own.body.keepT hf (ht.not (by decide))).keepT hf2 (ht2.not (by decide)), hr.keepT hf2 (ht2.not (by decide)), (h.own.guards.keepT hf (ht.not (by decide))).keepT hf2 (ht2.not (by decide)), (h.own.boxes.keepT hf (ht.not (by decide))).keepT hf2 (ht2.not (by decide)), (h.own.hist.keepT hf (ht.not (by decide))).keepT hf2 (ht2.not (by decide)), fun y hy => ((h.own.seals y hy).keepT hf (ht.not (by decide))).keepT hf2 (ht2.not (by decide))⟩, h.lo, (h.fr.trans hf (fun k hk e => absurd hk (by have := hrow k e; omega))).trans hf2 (fun k hk e => absurd hk (by have e' : k = go := e; omega))⟩
/-- .. and the store of what it answered. -/
theorem Gs.guards_app {w2 : World} (h : Gs w0 w B g go L i x) {n0 c0 : Nat} {A0 : Option Addr} {v0 : List Value} (own1 : Own w B 3 1 A0 n0 c0 v0) (hf : Fr (fun k => rowOf A0 = some k) w w2) (l : List Int) (A : Option Addr) (n c : Nat) (hl : l.length = n) (own2 : Own w2 B 3 1 A n c (l.map Iv)) : Gs w0 (w2.setCell ⟨go, 19, none⟩ (.slice A n c)) B g go L i { x with guardsA := A, guardsC := c, guards := l } := by
  subst hl
  have hlo := h.lo
  have hB := h.tk.le
  have ht := Types.row own1
  have hrow : ∀ k, rowOf A0 = some k → B ≤ k := fun k hk => (own1.row k hk).1
  have hgo : ¬ rowOf A0 = some go := own1.ne h.blk (by decide)
  have htk := h.tk
  obtain ⟨_, _, hbt, _⟩ := htk
  have hg : ¬ rowOf A0 = some g := own1.ne hbt (by decide)
  have hb2 := h.blk.fr hf hgo
  have hbs : ∀ k, k < B → ¬ rowOf A0 = some k := fun k hk e => by have := hrow k e; omega
  have hf2 := (Fr.refl (One go) w2).setOne 19 (.slice A l.length c)
  have ht2 := Types.one hb2
  have hr := RowAt.of_own own2
  exact ⟨hb2.set 19 _, (h.tk.fr hf hg hbs).fr hf2 (by unfold One; omega) (fun k hk e => by have e' : k = go := e; omega), ⟨(h.own.past.keepT hf (ht.not (by decide))).keepT hf2 (ht2.not (by decide)), (h.own.path.keepT hf (ht.not (by decide))).keepT hf2 (ht2.not (by decide)), fun y hy => ((h.own.nodes y hy).keepT hf (ht.not (by decide))).keepT hf2 (ht2.not (by decide)), (h.own.body.keepT hf (ht.not (by decide))).keepT hf2 (ht2.not (by decide)), (h.own.refs.keepT hf (ht.not (by decide))).keepT hf2 (ht2.not (by decide)), hr.keepT hf2 (ht2.not (by decide)), (h.own.boxes.keepT hf (ht.not (by decide))).keepT hf2 (ht2.not (by decide)), (h.own.hist.keepT hf (ht.not (by decide))).keepT hf2 (ht2.not (by decide)), fun y hy => ((h.own.seals y hy).keepT hf (ht.not (by decide))).keepT hf2 (ht2.not (by decide))⟩, h.lo, (h.fr.trans hf (fun k hk e => absurd hk (by have := hrow k e; omega))).trans hf2 (fun k hk e => absurd hk (by have e' : k = go := e; omega))⟩
/-- .. and the store of what it answered. -/
theorem Gs.hist_app {w2 : World} (h : Gs w0 w B g go L i x) {n0 c0 : Nat} {A0 : Option Addr} {v0 : List Value} (own1 : Own w B 58 4 A0 n0 c0 v0) (hf : Fr (fun k => rowOf A0 = some k) w w2) (l : List SlL) (A : Option Addr) (n c : Nat) (hl : l.length = n) (own2 : Own w2 B 58 4 A n c (l.flatMap SlL.cells)) (hn : ∀ y ∈ l, RowAt w B 5 1 y.A y.y.length y.c (y.y.map Bv)) : Gs w0 (w2.setCell ⟨go, 24, none⟩ (.slice A n c)) B g go L i { x with histA := A, histC := c, hist := l } := by
  subst hl
  have hlo := h.lo
  have hB := h.tk.le
  have ht := Types.row own1
  have hrow : ∀ k, rowOf A0 = some k → B ≤ k := fun k hk => (own1.row k hk).1
  have hgo : ¬ rowOf A0 = some go := own1.ne h.blk (by decide)
  have htk := h.tk
  obtain ⟨_, _, hbt, _⟩ := htk
  have hg : ¬ rowOf A0 = some g := own1.ne hbt (by decide)
  have hb2 := h.blk.fr hf hgo
  have hbs : ∀ k, k < B → ¬ rowOf A0 = some k := fun k hk e => by have := hrow k e; omega
  have hf2 := (Fr.refl (One go) w2).setOne 24 (.slice A l.length c)
  have ht2 := Types.one hb2
  have hr := RowAt.of_own own2
  exact ⟨hb2.set 24 _, (h.tk.fr hf hg hbs).fr hf2 (by unfold One; omega) (fun k hk e => by have e' : k = go := e; omega), ⟨(h.own.past.keepT hf (ht.not (by decide))).keepT hf2 (ht2.not (by decide)), (h.own.path.keepT hf (ht.not (by decide))).keepT hf2 (ht2.not (by decide)), fun y hy => ((h.own.nodes y hy).keepT hf (ht.not (by decide))).keepT hf2 (ht2.not (by decide)), (h.own.body.keepT hf (ht.not (by decide))).keepT hf2 (ht2.not (by decide)), (h.own.refs.keepT hf (ht.not (by decide))).keepT hf2 (ht2.not (by decide)), (h.own.guards.keepT hf (ht.not (by decide))).keepT hf2 (ht2.not (by decide)), (h.own.boxes.keepT hf (ht.not (by decide))).keepT hf2 (ht2.not (by decide)), hr.keepT hf2 (ht2.not (by decide)), fun y hy => ((hn y hy).keepT hf (ht.not (by decide))).keepT hf2 (ht2.not (by decide))⟩, h.lo, (h.fr.trans hf (fun k hk e => absurd hk (by have := hrow k e; omega))).trans hf2 (fun k hk e => absurd hk (by have e' : k = go := e; omega))⟩
end
end Oq
end Go.Proofs.YtahcddlgghipjaaGreatDoor
