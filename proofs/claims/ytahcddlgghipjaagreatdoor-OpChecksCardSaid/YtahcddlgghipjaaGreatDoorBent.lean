/-
  The references' operation of which one thing is another one (huddleref11.Bent): what it answers is an operation that reads by its form.
  Conditions: the operation reads by its form, its lists are not long.
-/
import Derived.Test.YtahcddlgghipjaaGreatDoorOpOk
import Derived.Test.YtahcddlgghipjaaGreatDoorOpGetPost
import Derived.Test.YtahcddlgghipjaaGreatDoorGen2
import Derived.Test.YtahcddlgghipjaaGreatDoorFewDef
import Derived.Deep.CutBlock
import Derived.Deep.DeepCutAuto
import Derived.Deep.RegionHeld3
namespace Go.Proofs.YtahcddlgghipjaaGreatDoor
open Go.RowKit
attribute [local go_sem ↓] Go.wp_at_zero Go.wp_at_succ
namespace Oq
attribute [local go_sem] Bool.not_false Bool.not_true

def Two (g k : Nat) : Prop := k = g ∨ k = g + 1
def BentPost (k : Nat) (w : World) (r : Ending) (w' : World) : Prop :=
  ∃ y : OpL, r = .returned (.agg y.cells) ∧ y.op.ok ∧ Few (k + 20) y.op ∧ y.at w' w'.heap.size ∧ Fr Non w w'
/-- Where the switch begins. -/
structure Bs (w wc : World) (k : Nat) (x : OpL) : Prop where
  blk : Blk wc w.heap.size 35 x.cells
  res : Blk wc (w.heap.size + 1) 35 OpL.zero.cells
  ok : x.op.ok
  few : Few k x.op
  at_ : x.at w w.heap.size
  fr : Fr Non w wc
  lt : w.heap.size + 2 < wc.heap.size
/-- Where it ends. -/
def Be (w wc : World) (k : Nat) : Prop :=
  ∃ y : OpL, Blk wc w.heap.size 35 y.cells ∧ Blk wc (w.heap.size + 1) 35 OpL.zero.cells ∧ y.op.ok ∧ Few (k + 20) y.op ∧ Fr Non w wc ∧ Hid (∀ wz, Fr (Two w.heap.size) wc wz → y.at wz wz.heap.size)
section
variable {w wc wd : World} {k : Nat} {x : OpL} {S : Nat → Prop}
theorem Bs.step (h : Bs w wc k x) (hf : Fr S wc wd) (hS : ∀ j, S j → w.heap.size + 1 < j) : Bs w wd k x where
  blk := h.blk.fr hf (fun e => by have := hS _ e; omega)
  res := h.res.fr hf (fun e => by have := hS _ e; omega)
  ok := h.ok
  few := h.few
  at_ := h.at_
  fr := h.fr.trans hf (fun j hj e => by have := hS _ e; omega)
  lt := Nat.lt_of_lt_of_le h.lt hf.size
theorem Bs.alloc (h : Bs w wc k x) (o : Obj) : Bs w (wc.alloc o) k x := h.step (S := Non) ((Fr.refl _ _).alloc o) (fun _ e => e.elim)
theorem Bs.drew (h : Bs w wc k x) : Bs w wc.drew k x := h.step (S := Non) ((Fr.refl _ _).drew) (fun _ e => e.elim)
theorem Bs.old (h : Bs w wc k x) {wz : World} (hz : Fr (Two w.heap.size) wc wz) : x.at wz wz.heap.size :=
  (h.at_.fr ((h.fr.mono (S' := Two w.heap.size) (fun _ _ e => e.elim)).trans hz (fun _ _ e => e)) (fun j hj e => by rcases e with e | e <;> omega)).mono (Nat.le_trans h.fr.size hz.size)
/-- One cell of the operation is another one. -/
theorem Bs.put (h : Bs w wc k x) (i : Nat) (v : Value) (y : OpL) (hy : x.cells.setIfInBounds i v = y.cells) (hok : y.op.ok) (hfew : Few (k + 20) y.op) (hat : ∀ wz, Fr (Two w.heap.size) wc wz → x.at wz wz.heap.size → y.at wz wz.heap.size) : Be w (wc.setCell ⟨w.heap.size, i, none⟩ v) k := by
  have hs : Fr (Two w.heap.size) wc (wc.setCell ⟨w.heap.size, i, none⟩ v) := (Fr.refl _ _).setCell (fun _ => .inl rfl) v
  refine ⟨y, (hy ▸ h.blk.set i v), h.res.far (by show w.heap.size + 1 ≠ w.heap.size; omega) v, hok, hfew, h.fr.setNew (by omega) i v, fun wz hz => ?_⟩
  have hz' := hs.trans hz (fun _ _ e => e)
  exact hat wz hz' (h.old hz')
theorem Few.more (h : Few k x.op) : Few (k + 20) x.op := ⟨by have := h.past; omega, by have := h.path; omega, by have := h.refs; omega, by have := h.guards; omega, by have := h.boxes; omega, by have := h.hist; omega, h.nodes, h.body, h.seals⟩
end
section
variable {w wc wd : World} {k : Nat} {x : OpL}
theorem Bs.set_by_ (h : Bs w wc k x) (n : Int) (hn : I64 n) : Be w (wc.setCell ⟨w.heap.size, 0, none⟩ (.int .i64 n)) k :=
  h.put 0 _ { x with by_ := n } rfl ⟨hn, h.ok.sq, h.ok.kind, h.ok.at_, h.ok.past, h.ok.dev, h.ok.old, h.ok.mem, h.ok.role, h.ok.path, h.ok.epoch, h.ok.n, h.ok.body, h.ok.refs, h.ok.of, h.ok.guards, h.ok.need, h.ok.wait, h.ok.boxes, h.ok.pub, h.ok.hist, h.ok.r, h.ok.s⟩ ⟨h.few.more.past, h.few.more.path, h.few.more.refs, h.few.more.guards, h.few.more.boxes, h.few.more.hist, h.few.more.nodes, h.few.more.body, h.few.more.seals⟩ (fun _ _ o => ⟨o.past, o.path, o.nodes, o.body, o.refs, o.guards, o.boxes, o.hist, o.seals⟩)
theorem Bs.set_sq (h : Bs w wc k x) (n : Int) (hn : I64 n) : Be w (wc.setCell ⟨w.heap.size, 1, none⟩ (.int .i64 n)) k :=
  h.put 1 _ { x with sq := n } rfl ⟨h.ok.by_, hn, h.ok.kind, h.ok.at_, h.ok.past, h.ok.dev, h.ok.old, h.ok.mem, h.ok.role, h.ok.path, h.ok.epoch, h.ok.n, h.ok.body, h.ok.refs, h.ok.of, h.ok.guards, h.ok.need, h.ok.wait, h.ok.boxes, h.ok.pub, h.ok.hist, h.ok.r, h.ok.s⟩ ⟨h.few.more.past, h.few.more.path, h.few.more.refs, h.few.more.guards, h.few.more.boxes, h.few.more.hist, h.few.more.nodes, h.few.more.body, h.few.more.seals⟩ (fun _ _ o => ⟨o.past, o.path, o.nodes, o.body, o.refs, o.guards, o.boxes, o.hist, o.seals⟩)
theorem Bs.set_kind (h : Bs w wc k x) (n : Int) (hn : I64 n) : Be w (wc.setCell ⟨w.heap.size, 2, none⟩ (.int .i64 n)) k :=
  h.put 2 _ { x with kind := n } rfl ⟨h.ok.by_, h.ok.sq, hn, h.ok.at_, h.ok.past, h.ok.dev, h.ok.old, h.ok.mem, h.ok.role, h.ok.path, h.ok.epoch, h.ok.n, h.ok.body, h.ok.refs, h.ok.of, h.ok.guards, h.ok.need, h.ok.wait, h.ok.boxes, h.ok.pub, h.ok.hist, h.ok.r, h.ok.s⟩ ⟨h.few.more.past, h.few.more.path, h.few.more.refs, h.few.more.guards, h.few.more.boxes, h.few.more.hist, h.few.more.nodes, h.few.more.body, h.few.more.seals⟩ (fun _ _ o => ⟨o.past, o.path, o.nodes, o.body, o.refs, o.guards, o.boxes, o.hist, o.seals⟩)
theorem Bs.set_at_ (h : Bs w wc k x) (n : Int) (hn : I64 n) : Be w (wc.setCell ⟨w.heap.size, 3, none⟩ (.int .i64 n)) k :=
  h.put 3 _ { x with at_ := n } rfl ⟨h.ok.by_, h.ok.sq, h.ok.kind, hn, h.ok.past, h.ok.dev, h.ok.old, h.ok.mem, h.ok.role, h.ok.path, h.ok.epoch, h.ok.n, h.ok.body, h.ok.refs, h.ok.of, h.ok.guards, h.ok.need, h.ok.wait, h.ok.boxes, h.ok.pub, h.ok.hist, h.ok.r, h.ok.s⟩ ⟨h.few.more.past, h.few.more.path, h.few.more.refs, h.few.more.guards, h.few.more.boxes, h.few.more.hist, h.few.more.nodes, h.few.more.body, h.few.more.seals⟩ (fun _ _ o => ⟨o.past, o.path, o.nodes, o.body, o.refs, o.guards, o.boxes, o.hist, o.seals⟩)
theorem Bs.set_dev (h : Bs w wc k x) (n : Int) (hn : I64 n) : Be w (wc.setCell ⟨w.heap.size, 5, none⟩ (.int .i64 n)) k :=
  h.put 5 _ { x with dev := n } rfl ⟨h.ok.by_, h.ok.sq, h.ok.kind, h.ok.at_, h.ok.past, hn, h.ok.old, h.ok.mem, h.ok.role, h.ok.path, h.ok.epoch, h.ok.n, h.ok.body, h.ok.refs, h.ok.of, h.ok.guards, h.ok.need, h.ok.wait, h.ok.boxes, h.ok.pub, h.ok.hist, h.ok.r, h.ok.s⟩ ⟨h.few.more.past, h.few.more.path, h.few.more.refs, h.few.more.guards, h.few.more.boxes, h.few.more.hist, h.few.more.nodes, h.few.more.body, h.few.more.seals⟩ (fun _ _ o => ⟨o.past, o.path, o.nodes, o.body, o.refs, o.guards, o.boxes, o.hist, o.seals⟩)
theorem Bs.set_old (h : Bs w wc k x) (n : Int) (hn : I64 n) : Be w (wc.setCell ⟨w.heap.size, 6, none⟩ (.int .i64 n)) k :=
  h.put 6 _ { x with old := n } rfl ⟨h.ok.by_, h.ok.sq, h.ok.kind, h.ok.at_, h.ok.past, h.ok.dev, hn, h.ok.mem, h.ok.role, h.ok.path, h.ok.epoch, h.ok.n, h.ok.body, h.ok.refs, h.ok.of, h.ok.guards, h.ok.need, h.ok.wait, h.ok.boxes, h.ok.pub, h.ok.hist, h.ok.r, h.ok.s⟩ ⟨h.few.more.past, h.few.more.path, h.few.more.refs, h.few.more.guards, h.few.more.boxes, h.few.more.hist, h.few.more.nodes, h.few.more.body, h.few.more.seals⟩ (fun _ _ o => ⟨o.past, o.path, o.nodes, o.body, o.refs, o.guards, o.boxes, o.hist, o.seals⟩)
theorem Bs.set_mem (h : Bs w wc k x) (n : Int) (hn : I64 n) : Be w (wc.setCell ⟨w.heap.size, 7, none⟩ (.int .i64 n)) k :=
  h.put 7 _ { x with mem := n } rfl ⟨h.ok.by_, h.ok.sq, h.ok.kind, h.ok.at_, h.ok.past, h.ok.dev, h.ok.old, hn, h.ok.role, h.ok.path, h.ok.epoch, h.ok.n, h.ok.body, h.ok.refs, h.ok.of, h.ok.guards, h.ok.need, h.ok.wait, h.ok.boxes, h.ok.pub, h.ok.hist, h.ok.r, h.ok.s⟩ ⟨h.few.more.past, h.few.more.path, h.few.more.refs, h.few.more.guards, h.few.more.boxes, h.few.more.hist, h.few.more.nodes, h.few.more.body, h.few.more.seals⟩ (fun _ _ o => ⟨o.past, o.path, o.nodes, o.body, o.refs, o.guards, o.boxes, o.hist, o.seals⟩)
theorem Bs.set_role (h : Bs w wc k x) (n : Int) (hn : I64 n) : Be w (wc.setCell ⟨w.heap.size, 8, none⟩ (.int .i64 n)) k :=
  h.put 8 _ { x with role := n } rfl ⟨h.ok.by_, h.ok.sq, h.ok.kind, h.ok.at_, h.ok.past, h.ok.dev, h.ok.old, h.ok.mem, hn, h.ok.path, h.ok.epoch, h.ok.n, h.ok.body, h.ok.refs, h.ok.of, h.ok.guards, h.ok.need, h.ok.wait, h.ok.boxes, h.ok.pub, h.ok.hist, h.ok.r, h.ok.s⟩ ⟨h.few.more.past, h.few.more.path, h.few.more.refs, h.few.more.guards, h.few.more.boxes, h.few.more.hist, h.few.more.nodes, h.few.more.body, h.few.more.seals⟩ (fun _ _ o => ⟨o.past, o.path, o.nodes, o.body, o.refs, o.guards, o.boxes, o.hist, o.seals⟩)
theorem Bs.set_n (h : Bs w wc k x) (n : Int) (hn : I64 n) : Be w (wc.setCell ⟨w.heap.size, 13, none⟩ (.int .i64 n)) k :=
  h.put 13 _ { x with n := n } rfl ⟨h.ok.by_, h.ok.sq, h.ok.kind, h.ok.at_, h.ok.past, h.ok.dev, h.ok.old, h.ok.mem, h.ok.role, h.ok.path, h.ok.epoch, hn, h.ok.body, h.ok.refs, h.ok.of, h.ok.guards, h.ok.need, h.ok.wait, h.ok.boxes, h.ok.pub, h.ok.hist, h.ok.r, h.ok.s⟩ ⟨h.few.more.past, h.few.more.path, h.few.more.refs, h.few.more.guards, h.few.more.boxes, h.few.more.hist, h.few.more.nodes, h.few.more.body, h.few.more.seals⟩ (fun _ _ o => ⟨o.past, o.path, o.nodes, o.body, o.refs, o.guards, o.boxes, o.hist, o.seals⟩)
theorem Bs.set_need (h : Bs w wc k x) (n : Int) (hn : I64 n) : Be w (wc.setCell ⟨w.heap.size, 20, none⟩ (.int .i64 n)) k :=
  h.put 20 _ { x with need := n } rfl ⟨h.ok.by_, h.ok.sq, h.ok.kind, h.ok.at_, h.ok.past, h.ok.dev, h.ok.old, h.ok.mem, h.ok.role, h.ok.path, h.ok.epoch, h.ok.n, h.ok.body, h.ok.refs, h.ok.of, h.ok.guards, hn, h.ok.wait, h.ok.boxes, h.ok.pub, h.ok.hist, h.ok.r, h.ok.s⟩ ⟨h.few.more.past, h.few.more.path, h.few.more.refs, h.few.more.guards, h.few.more.boxes, h.few.more.hist, h.few.more.nodes, h.few.more.body, h.few.more.seals⟩ (fun _ _ o => ⟨o.past, o.path, o.nodes, o.body, o.refs, o.guards, o.boxes, o.hist, o.seals⟩)
theorem Bs.set_wait (h : Bs w wc k x) (n : Int) (hn : I64 n) : Be w (wc.setCell ⟨w.heap.size, 21, none⟩ (.int .i64 n)) k :=
  h.put 21 _ { x with wait := n } rfl ⟨h.ok.by_, h.ok.sq, h.ok.kind, h.ok.at_, h.ok.past, h.ok.dev, h.ok.old, h.ok.mem, h.ok.role, h.ok.path, h.ok.epoch, h.ok.n, h.ok.body, h.ok.refs, h.ok.of, h.ok.guards, h.ok.need, hn, h.ok.boxes, h.ok.pub, h.ok.hist, h.ok.r, h.ok.s⟩ ⟨h.few.more.past, h.few.more.path, h.few.more.refs, h.few.more.guards, h.few.more.boxes, h.few.more.hist, h.few.more.nodes, h.few.more.body, h.few.more.seals⟩ (fun _ _ o => ⟨o.past, o.path, o.nodes, o.body, o.refs, o.guards, o.boxes, o.hist, o.seals⟩)
theorem Bs.set_pub (h : Bs w wc k x) (u : Nat) (hu : U64 u) : Be w (wc.setCell ⟨w.heap.size, 23, none⟩ (.int .u64 (u : Int))) k :=
  h.put 23 _ { x with pub := u } rfl ⟨h.ok.by_, h.ok.sq, h.ok.kind, h.ok.at_, h.ok.past, h.ok.dev, h.ok.old, h.ok.mem, h.ok.role, h.ok.path, h.ok.epoch, h.ok.n, h.ok.body, h.ok.refs, h.ok.of, h.ok.guards, h.ok.need, h.ok.wait, h.ok.boxes, hu, h.ok.hist, h.ok.r, h.ok.s⟩ ⟨h.few.more.past, h.few.more.path, h.few.more.refs, h.few.more.guards, h.few.more.boxes, h.few.more.hist, h.few.more.nodes, h.few.more.body, h.few.more.seals⟩ (fun _ _ o => ⟨o.past, o.path, o.nodes, o.body, o.refs, o.guards, o.boxes, o.hist, o.seals⟩)
theorem Bs.set_epoch (h : Bs w wc k x) (i : Id) (hi : i.ok) : Be w (((wc.setCell ⟨w.heap.size, 10, none⟩ (.int .i64 i.b)).setCell ⟨w.heap.size, 11, none⟩ (.int .i64 i.s)).setCell ⟨w.heap.size, 12, none⟩ (.int .u64 (i.u : Int))) k := by
  have h1 : Fr (Two w.heap.size) wc (((wc.setCell ⟨w.heap.size, 10, none⟩ (.int .i64 i.b)).setCell ⟨w.heap.size, 11, none⟩ (.int .i64 i.s)).setCell ⟨w.heap.size, 12, none⟩ (.int .u64 (i.u : Int))) := (((Fr.refl _ _).setCell (fun _ => .inl rfl) _).setCell (fun _ => .inl rfl) _).setCell (fun _ => .inl rfl) _
  have hg : w.heap.size + 1 ≠ w.heap.size := by omega
  refine ⟨{ x with epoch := i }, ((h.blk.set 10 _).set 11 _).set 12 _, ((h.res.far hg _).far hg _).far hg _, ⟨h.ok.by_, h.ok.sq, h.ok.kind, h.ok.at_, h.ok.past, h.ok.dev, h.ok.old, h.ok.mem, h.ok.role, h.ok.path, hi, h.ok.n, h.ok.body, h.ok.refs, h.ok.of, h.ok.guards, h.ok.need, h.ok.wait, h.ok.boxes, h.ok.pub, h.ok.hist, h.ok.r, h.ok.s⟩, ⟨h.few.more.past, h.few.more.path, h.few.more.refs, h.few.more.guards, h.few.more.boxes, h.few.more.hist, h.few.more.nodes, h.few.more.body, h.few.more.seals⟩, ((h.fr.setNew (Nat.le_refl _) _ _).setNew (Nat.le_refl _) _ _).setNew (Nat.le_refl _) _ _, fun wz hz => ?_⟩
  have o := h.old (h1.trans hz (fun _ _ e => e))
  exact ⟨o.past, o.path, o.nodes, o.body, o.refs, o.guards, o.boxes, o.hist, o.seals⟩
theorem Bs.set_of (h : Bs w wc k x) (i : Id) (hi : i.ok) : Be w (((wc.setCell ⟨w.heap.size, 16, none⟩ (.int .i64 i.b)).setCell ⟨w.heap.size, 17, none⟩ (.int .i64 i.s)).setCell ⟨w.heap.size, 18, none⟩ (.int .u64 (i.u : Int))) k := by
  have h1 : Fr (Two w.heap.size) wc (((wc.setCell ⟨w.heap.size, 16, none⟩ (.int .i64 i.b)).setCell ⟨w.heap.size, 17, none⟩ (.int .i64 i.s)).setCell ⟨w.heap.size, 18, none⟩ (.int .u64 (i.u : Int))) := (((Fr.refl _ _).setCell (fun _ => .inl rfl) _).setCell (fun _ => .inl rfl) _).setCell (fun _ => .inl rfl) _
  have hg : w.heap.size + 1 ≠ w.heap.size := by omega
  refine ⟨{ x with of := i }, ((h.blk.set 16 _).set 17 _).set 18 _, ((h.res.far hg _).far hg _).far hg _, ⟨h.ok.by_, h.ok.sq, h.ok.kind, h.ok.at_, h.ok.past, h.ok.dev, h.ok.old, h.ok.mem, h.ok.role, h.ok.path, h.ok.epoch, h.ok.n, h.ok.body, h.ok.refs, hi, h.ok.guards, h.ok.need, h.ok.wait, h.ok.boxes, h.ok.pub, h.ok.hist, h.ok.r, h.ok.s⟩, ⟨h.few.more.past, h.few.more.path, h.few.more.refs, h.few.more.guards, h.few.more.boxes, h.few.more.hist, h.few.more.nodes, h.few.more.body, h.few.more.seals⟩, ((h.fr.setNew (Nat.le_refl _) _ _).setNew (Nat.le_refl _) _ _).setNew (Nat.le_refl _) _ _, fun wz hz => ?_⟩
  have o := h.old (h1.trans hz (fun _ _ e => e))
  exact ⟨o.past, o.path, o.nodes, o.body, o.refs, o.guards, o.boxes, o.hist, o.seals⟩
theorem Bs.pastL (h : Bs w wc k x) (l : List Id) (A : Option Addr) (n c : Nat) (hl : l.length = n) (hn : l.length ≤ k + 20) (hk : k ≤ 900) (hok : ∀ y ∈ l, y.ok) (hat : ∀ wz, Fr (Two w.heap.size) wc wz → x.at wz wz.heap.size → SlAt wz wz.heap.size 3 A n c (l.flatMap Id.cells)) : Be w (wc.setCell ⟨w.heap.size, 4, none⟩ (.slice A n c)) k := by
  subst hl
  refine h.put 4 _ { x with pastA := A, pastC := c, past := l } rfl ⟨h.ok.by_, h.ok.sq, h.ok.kind, h.ok.at_, ⟨by show l.length ≤ 1000; omega, hok⟩, h.ok.dev, h.ok.old, h.ok.mem, h.ok.role, h.ok.path, h.ok.epoch, h.ok.n, h.ok.body, h.ok.refs, h.ok.of, h.ok.guards, h.ok.need, h.ok.wait, h.ok.boxes, h.ok.pub, h.ok.hist, h.ok.r, h.ok.s⟩ ⟨hn, h.few.more.path, h.few.more.refs, h.few.more.guards, h.few.more.boxes, h.few.more.hist, h.few.more.nodes, h.few.more.body, h.few.more.seals⟩ (fun wz hz o => ?_)
  have q := hat wz hz o
  exact ⟨q, o.path, o.nodes, o.body, o.refs, o.guards, o.boxes, o.hist, o.seals⟩
theorem Bs.pathL (h : Bs w wc k x) (l : List NdL) (A : Option Addr) (n c : Nat) (hl : l.length = n) (hn : l.length ≤ k + 20) (hk : k ≤ 900) (hok : ∀ y ∈ l, y.nd.ok ∧ y.xs.length ≤ 20) (hat : ∀ wz, Fr (Two w.heap.size) wc wz → x.at wz wz.heap.size → SlAt wz wz.heap.size 2 A n c (l.flatMap NdL.cells) ∧ ∀ y ∈ l, y.at wz wz.heap.size) : Be w (wc.setCell ⟨w.heap.size, 9, none⟩ (.slice A n c)) k := by
  subst hl
  refine h.put 9 _ { x with pathA := A, pathC := c, path := l } rfl ⟨h.ok.by_, h.ok.sq, h.ok.kind, h.ok.at_, h.ok.past, h.ok.dev, h.ok.old, h.ok.mem, h.ok.role, ⟨by show (l.map NdL.nd).length ≤ 1000; rw [List.length_map]; omega, fun y hy => by obtain ⟨z, hz, rfl⟩ := List.mem_map.1 hy; exact (hok z hz).1⟩, h.ok.epoch, h.ok.n, h.ok.body, h.ok.refs, h.ok.of, h.ok.guards, h.ok.need, h.ok.wait, h.ok.boxes, h.ok.pub, h.ok.hist, h.ok.r, h.ok.s⟩ ⟨h.few.more.past, (by show (l.map NdL.nd).length ≤ _; rw [List.length_map]; exact hn), h.few.more.refs, h.few.more.guards, h.few.more.boxes, h.few.more.hist, fun y hy => by obtain ⟨z, hz, rfl⟩ := List.mem_map.1 hy; exact (hok z hz).2, h.few.more.body, h.few.more.seals⟩ (fun wz hz o => ?_)
  have q := hat wz hz o
  exact ⟨o.past, q.1, q.2, o.body, o.refs, o.guards, o.boxes, o.hist, o.seals⟩
theorem Bs.bodyL (h : Bs w wc k x) (l : List UInt8) (A : Option Addr) (n c : Nat) (hl : l.length = n) (hn : l.length ≤ 300) (hat : ∀ wz, Fr (Two w.heap.size) wc wz → x.at wz wz.heap.size → SlAt wz wz.heap.size 1 A n c (l.map Bv)) : Be w (wc.setCell ⟨w.heap.size, 14, none⟩ (.slice A n c)) k := by
  subst hl
  refine h.put 14 _ { x with bodyA := A, bodyC := c, body := l } rfl ⟨h.ok.by_, h.ok.sq, h.ok.kind, h.ok.at_, h.ok.past, h.ok.dev, h.ok.old, h.ok.mem, h.ok.role, h.ok.path, h.ok.epoch, h.ok.n, (by show l.length ≤ 1000000; omega), h.ok.refs, h.ok.of, h.ok.guards, h.ok.need, h.ok.wait, h.ok.boxes, h.ok.pub, h.ok.hist, h.ok.r, h.ok.s⟩ ⟨h.few.more.past, h.few.more.path, h.few.more.refs, h.few.more.guards, h.few.more.boxes, h.few.more.hist, h.few.more.nodes, hn, h.few.more.seals⟩ (fun wz hz o => ?_)
  have q := hat wz hz o
  exact ⟨o.past, o.path, o.nodes, q, o.refs, o.guards, o.boxes, o.hist, o.seals⟩
theorem Bs.refsL (h : Bs w wc k x) (l : List Nat) (A : Option Addr) (n c : Nat) (hl : l.length = n) (hn : l.length ≤ k + 20) (hk : k ≤ 900) (hok : ∀ y ∈ l, U64 y) (hat : ∀ wz, Fr (Two w.heap.size) wc wz → x.at wz wz.heap.size → SlAt wz wz.heap.size 1 A n c (l.map Uv)) : Be w (wc.setCell ⟨w.heap.size, 15, none⟩ (.slice A n c)) k := by
  subst hl
  refine h.put 15 _ { x with refsA := A, refsC := c, refs := l } rfl ⟨h.ok.by_, h.ok.sq, h.ok.kind, h.ok.at_, h.ok.past, h.ok.dev, h.ok.old, h.ok.mem, h.ok.role, h.ok.path, h.ok.epoch, h.ok.n, h.ok.body, ⟨by show l.length ≤ 1000; omega, hok⟩, h.ok.of, h.ok.guards, h.ok.need, h.ok.wait, h.ok.boxes, h.ok.pub, h.ok.hist, h.ok.r, h.ok.s⟩ ⟨h.few.more.past, h.few.more.path, hn, h.few.more.guards, h.few.more.boxes, h.few.more.hist, h.few.more.nodes, h.few.more.body, h.few.more.seals⟩ (fun wz hz o => ?_)
  have q := hat wz hz o
  exact ⟨o.past, o.path, o.nodes, o.body, q, o.guards, o.boxes, o.hist, o.seals⟩
theorem Bs.guardsL (h : Bs w wc k x) (l : List Int) (A : Option Addr) (n c : Nat) (hl : l.length = n) (hn : l.length ≤ k + 20) (hk : k ≤ 900) (hok : ∀ y ∈ l, I64 y) (hat : ∀ wz, Fr (Two w.heap.size) wc wz → x.at wz wz.heap.size → SlAt wz wz.heap.size 1 A n c (l.map Iv)) : Be w (wc.setCell ⟨w.heap.size, 19, none⟩ (.slice A n c)) k := by
  subst hl
  refine h.put 19 _ { x with guardsA := A, guardsC := c, guards := l } rfl ⟨h.ok.by_, h.ok.sq, h.ok.kind, h.ok.at_, h.ok.past, h.ok.dev, h.ok.old, h.ok.mem, h.ok.role, h.ok.path, h.ok.epoch, h.ok.n, h.ok.body, h.ok.refs, h.ok.of, ⟨by show l.length ≤ 1000; omega, hok⟩, h.ok.need, h.ok.wait, h.ok.boxes, h.ok.pub, h.ok.hist, h.ok.r, h.ok.s⟩ ⟨h.few.more.past, h.few.more.path, h.few.more.refs, hn, h.few.more.boxes, h.few.more.hist, h.few.more.nodes, h.few.more.body, h.few.more.seals⟩ (fun wz hz o => ?_)
  have q := hat wz hz o
  exact ⟨o.past, o.path, o.nodes, o.body, o.refs, q, o.boxes, o.hist, o.seals⟩
theorem Bs.boxesL (h : Bs w wc k x) (l : List Bx) (A : Option Addr) (n c : Nat) (hl : l.length = n) (hn : l.length ≤ k + 20) (hk : k ≤ 900) (hok : ∀ y ∈ l, y.ok) (hat : ∀ wz, Fr (Two w.heap.size) wc wz → x.at wz wz.heap.size → SlAt wz wz.heap.size 4 A n c (l.flatMap Bx.cells)) : Be w (wc.setCell ⟨w.heap.size, 22, none⟩ (.slice A n c)) k := by
  subst hl
  refine h.put 22 _ { x with boxesA := A, boxesC := c, boxes := l } rfl ⟨h.ok.by_, h.ok.sq, h.ok.kind, h.ok.at_, h.ok.past, h.ok.dev, h.ok.old, h.ok.mem, h.ok.role, h.ok.path, h.ok.epoch, h.ok.n, h.ok.body, h.ok.refs, h.ok.of, h.ok.guards, h.ok.need, h.ok.wait, ⟨by show l.length ≤ 1000; omega, hok⟩, h.ok.pub, h.ok.hist, h.ok.r, h.ok.s⟩ ⟨h.few.more.past, h.few.more.path, h.few.more.refs, h.few.more.guards, hn, h.few.more.hist, h.few.more.nodes, h.few.more.body, h.few.more.seals⟩ (fun wz hz o => ?_)
  have q := hat wz hz o
  exact ⟨o.past, o.path, o.nodes, o.body, o.refs, o.guards, q, o.hist, o.seals⟩
theorem Bs.histL (h : Bs w wc k x) (l : List SlL) (A : Option Addr) (n c : Nat) (hl : l.length = n) (hn : l.length ≤ k + 20) (hk : k ≤ 900) (hok : ∀ y ∈ l, y.f.ok ∧ y.y.length ≤ 300) (hat : ∀ wz, Fr (Two w.heap.size) wc wz → x.at wz wz.heap.size → SlAt wz wz.heap.size 4 A n c (l.flatMap SlL.cells) ∧ ∀ y ∈ l, y.at wz wz.heap.size) : Be w (wc.setCell ⟨w.heap.size, 24, none⟩ (.slice A n c)) k := by
  subst hl
  refine h.put 24 _ { x with histA := A, histC := c, hist := l } rfl ⟨h.ok.by_, h.ok.sq, h.ok.kind, h.ok.at_, h.ok.past, h.ok.dev, h.ok.old, h.ok.mem, h.ok.role, h.ok.path, h.ok.epoch, h.ok.n, h.ok.body, h.ok.refs, h.ok.of, h.ok.guards, h.ok.need, h.ok.wait, h.ok.boxes, h.ok.pub, ⟨by show (l.map SlL.sl).length ≤ 1000; rw [List.length_map]; omega, fun y hy => by obtain ⟨z, hz, rfl⟩ := List.mem_map.1 hy; exact ⟨(hok z hz).1, Nat.le_trans (hok z hz).2 (by decide)⟩⟩, h.ok.r, h.ok.s⟩ ⟨h.few.more.past, h.few.more.path, h.few.more.refs, h.few.more.guards, h.few.more.boxes, (by show (l.map SlL.sl).length ≤ _; rw [List.length_map]; exact hn), h.few.more.nodes, h.few.more.body, fun y hy => by obtain ⟨z, hz, rfl⟩ := List.mem_map.1 hy; exact (hok z hz).2⟩ (fun wz hz o => ?_)
  have q := hat wz hz o
  exact ⟨o.past, o.path, o.nodes, o.body, o.refs, o.guards, o.boxes, q.1, q.2⟩
theorem own_sl {base g size n c : Nat} {t : TypeId} {A : Option Addr} {xs : List Value} (own : Own wc base t size A n c xs) (hb : g + 1 < base) {wz : World} (hz : Fr (Two g) wc wz) : SlAt wz wz.heap.size size A n c xs := by
  have o := own.fr hz (fun j hj e => by have := (own.row j hj).1; rcases e with e | e <;> omega)
  exact ⟨o.rd, o.cap⟩
theorem Own.litB (w : World) (t : TypeId) {size n : Nat} (l : List Value) (hl : l.length = n * size) (hn : n ≤ 9223372036854775807) : Own (w.alloc (.cells l.toArray t)) w.heap.size t size (some ⟨w.heap.size, 0, none⟩) n n l :=
  ⟨hl, .inr ⟨w.heap.size, n, l.toArray, rfl, Nat.le_refl _, heap_alloc_new w _, Nat.le_refl _, hn, by simpa using hl, by rw [← hl]; simp⟩⟩
theorem made_all (z : Array Value) (v : Value) (m : Nat) (h0 : 0 < z.size) (h : ∀ i, i < z.size → z[i]! = v) : (madeCells z m).toList = List.replicate m v := by
  unfold madeCells
  rw [Array.toList_map, List.eq_replicate_iff]
  refine ⟨by simp, fun u hu => ?_⟩
  obtain ⟨i, _, rfl⟩ := List.mem_map.1 hu
  exact h _ (Nat.mod_lt _ h0)
theorem rep_flat (n : Nat) (x : Bx) (v : Value) (h : x.cells = [v, v, v, v]) : (List.replicate n x).flatMap Bx.cells = List.replicate (n * 4) v := by
  induction n with
  | zero => rfl
  | succ n ih =>
    rw [List.replicate_succ, List.flatMap_cons, ih, h, show (n + 1) * 4 = n * 4 + 1 + 1 + 1 + 1 by omega, List.replicate_succ, List.replicate_succ, List.replicate_succ, List.replicate_succ]
    rfl
theorem rep_map {α : Type} (f : α → Value) (n : Nat) (x : α) : (List.replicate n x).map f = List.replicate n (f x) := by simp
/-- make([]T, n), at the operation. -/
theorem oper_mk {P : Program} {o : Oper} {a : Act} {K : Act → World → Prop} {Q : Exit → Act → World → Prop} {w : World} (l : Operand) (t : TypeId) (hop : o.op = Op.makeSlice t l l) {e : TypeId} {size bytes : Nat} {z : Value} (hT : SlT P t e z size bytes)
    {N : Int} {n : Nat} (hl : a.eval l = .int .i64 N) (hN : N = (n : Int)) (b2 : bytes * n ≤ 281474976710656) (b3 : n ≤ 9223372036854775807)
    (hK : ∀ w', Own w' w.heap.size e size (some ⟨w.heap.size, 0, none⟩) n n (madeCells z.cells (n * size)).toList → Fr Non w w' → K (a.put o.dst (.slice (some ⟨w.heap.size, 0, none⟩) n n)) w') : Oper.wp P o a w K Q := by
  obtain ⟨ht, hinfo, _, _⟩ := hT
  obtain ⟨i, hi, hz, hsize, hby⟩ := info_parts hinfo
  subst hN
  obtain ⟨w', hrun, r1, r2⟩ := run_make_full (P := P) (w := w) w.heap.size t e i z size ht hi hz hsize .i64 .i64 n (by rw [hby]; exact b2) (by unfold maxLen; exact b3) (Nat.le_refl _)
  have hf : Fr Non w w' := ⟨r2.os, r2.tape, r2.output, r2.size, fun j hj _ => r2.block j hj (fun e => by cases e)⟩
  have hk' := hK w' r1 hf
  unfold Oper.wp execOp
  simp only [hop, hl, hrun, Sem.run_bind, Result.andThen_ok, Sem.run_pure]
  exact hk'
theorem wpList_mk {P : Program} {ops : Array Oper} {rest : List Oper} {o : Oper} {a : Act} {Q : Exit → Act → World → Prop} {w : World} (hg : o.guard = none) (l : Operand) (t : TypeId) (hop : o.op = Op.makeSlice t l l) {e : TypeId} {size bytes : Nat} {z : Value} (hT : SlT P t e z size bytes)
    {N : Int} {n : Nat} (hl : a.eval l = .int .i64 N) (hN : N = (n : Int)) (b2 : bytes * n ≤ 281474976710656) (b3 : n ≤ 9223372036854775807)
    (hK : ∀ w', Own w' w.heap.size e size (some ⟨w.heap.size, 0, none⟩) n n (madeCells z.cells (n * size)).toList → Fr Non w w' → wpList P ops Q rest (a.put o.dst (.slice (some ⟨w.heap.size, 0, none⟩) n n)) w') : wpList P ops Q (o :: rest) a w :=
  wpList_plain hg fun _ hK' => oper_mk l t hop hT hl hN b2 b3 (fun w' h1 h2 => hK' _ _ (hK w' h1 h2))
end

theorem put_lit (l : List Value) (ds : List Deferred) (i : Nat) (v : Value) : (⟨l.toArray, ds⟩ : Act).put (some i) v = ⟨(l.set i v).toArray, ds⟩ := by simp [Act.put]
theorem want_pos {c : Prop} [Decidable c] {A B : Prop} (h : c) (ha : A) : if c then A else B := by rw [if_pos h]; exact ha
theorem past_fin {w w8 : World} {k : Nat} {x : OpL} {id : Id} {base np c8 : Nat} {A8 : Option Addr} (bs8 : Bs w w8 k x) (hid : id.ok) (hnp : Hid (x.past.length = np)) (hle : np ≤ k) (hk : k ≤ 900) (hb : w.heap.size + 2 < base)
    (own8 : Own w8 base 27 3 A8 (np + 1) c8 (x.past.flatMap Id.cells ++ [.int .i64 id.b, .int .i64 id.s, .int .u64 (id.u : Int)])) : Be w (w8.setCell ⟨w.heap.size, 4, none⟩ (.slice A8 (np + 1) c8)) k := by
  have own8' : Own w8 base 27 3 A8 (np + 1) c8 ((x.past ++ [id]).flatMap Id.cells) := by
    rw [List.flatMap_append, List.flatMap_cons, List.flatMap_nil, List.append_nil]
    exact own8
  have hl : (x.past ++ [id]).length = np + 1 := by rw [List.length_append, hnp.out]; rfl
  refine bs8.pastL (x.past ++ [id]) A8 (np + 1) c8 hl (by omega) hk ?_ (fun wz hz o => own_sl own8' (by omega) hz)
  intro y hy
  rcases List.mem_append.1 hy with hy | hy
  · exact bs8.ok.past.2 _ hy
  · rw [List.mem_singleton.1 hy]
    exact hid
theorem hist_fin {w w8 : World} {k fw : Nat} {x : OpL} {id : Id} {base mb base' np c8 : Nat} {A8 : Option Addr} (bs8 : Bs w w8 k x) (hid : id.ok) (hnp : Hid (x.hist.length = np)) (hle : np ≤ k) (hk : k ≤ 900) (hb : w.heap.size + 2 < base) (hb' : w.heap.size + 2 < base') (hfw : fw < 14)
    (own8 : Own w8 base 58 4 A8 (np + 1) c8 (x.hist.flatMap SlL.cells ++ [.int .i64 id.b, .int .i64 id.s, .int .u64 (id.u : Int), .slice (some ⟨mb, 0, none⟩) (200 + fw) (200 + fw)]))
    (mk : Own w8 base' 5 1 (some ⟨mb, 0, none⟩) (200 + fw) (200 + fw) (madeCells (Value.int .u8 0).cells ((200 + fw) * 1)).toList) : Be w (w8.setCell ⟨w.heap.size, 24, none⟩ (.slice A8 (np + 1) c8)) k := by
  have hlen : (List.replicate (200 + fw) (0 : UInt8)).length = 200 + fw := List.length_replicate ..
  have hnd : (⟨id, some ⟨mb, 0, none⟩, 200 + fw, List.replicate (200 + fw) (0 : UInt8)⟩ : SlL).cells = [.int .i64 id.b, .int .i64 id.s, .int .u64 (id.u : Int), .slice (some ⟨mb, 0, none⟩) (200 + fw) (200 + fw)] := by
    show [_, _, _, Value.slice _ (List.replicate (200 + fw) (0 : UInt8)).length _] = _; rw [hlen]
  have own8' : Own w8 base 58 4 A8 (np + 1) c8 ((x.hist ++ [(⟨id, some ⟨mb, 0, none⟩, 200 + fw, List.replicate (200 + fw) (0 : UInt8)⟩ : SlL)]).flatMap SlL.cells) := by
    rw [List.flatMap_append, List.flatMap_cons, List.flatMap_nil, List.append_nil, hnd]
    exact own8
  have mk' : Own w8 base' 5 1 (some ⟨mb, 0, none⟩) (200 + fw) (200 + fw) ((List.replicate (200 + fw) (0 : UInt8)).map Bv) := by
    rw [rep_map, ← made_all #[.int .u8 0] (Bv 0) (200 + fw) (by decide) (fun i hi => by have h4 : i < 1 := hi; have : i = 0 := (by omega); subst this; rfl)]
    rw [Nat.mul_one] at mk
    exact mk
  have hl : (x.hist ++ [(⟨id, some ⟨mb, 0, none⟩, 200 + fw, List.replicate (200 + fw) (0 : UInt8)⟩ : SlL)]).length = np + 1 := by rw [List.length_append, hnp.out]; rfl
  refine bs8.histL _ A8 (np + 1) c8 hl (by omega) hk ?_ (fun wz hz o => ⟨own_sl own8' (by omega) hz, ?_⟩)
  · intro y hy
    rcases List.mem_append.1 hy with hy | hy
    · exact ⟨(bs8.ok.hist.2 _ (List.mem_map_of_mem hy)).1, bs8.few.seals _ (List.mem_map_of_mem hy)⟩
    · rw [List.mem_singleton.1 hy]
      exact ⟨hid, by show (List.replicate (200 + fw) (0 : UInt8)).length ≤ _; rw [hlen]; omega⟩
  · intro y hy
    rcases List.mem_append.1 hy with hy | hy
    · exact o.seals y hy
    · rw [List.mem_singleton.1 hy]
      have q := own_sl mk' (by omega) hz
      have q' : SlAt wz wz.heap.size 1 (some ⟨mb, 0, none⟩) (List.replicate (200 + fw) (0 : UInt8)).length (200 + fw) ((List.replicate (200 + fw) (0 : UInt8)).map Bv) := by rw [hlen]; exact q
      exact q'
theorem one_path (l : List NdL) : ∀ v ∈ l.flatMap NdL.cells, v.oneCell' = true := by
  intro v hv
  obtain ⟨y, _, hy⟩ := List.mem_flatMap.1 hv
  simp [NdL.cells] at hy
  rcases hy with rfl | rfl <;> rfl
theorem one_guards (l : List Int) : ∀ v ∈ l.map Iv, v.oneCell' = true := by
  intro v hv
  obtain ⟨y, _, rfl⟩ := List.mem_map.1 hv
  rfl
theorem one_boxes (l : List Bx) : ∀ v ∈ l.flatMap Bx.cells, v.oneCell' = true := by
  intro v hv
  obtain ⟨y, _, hy⟩ := List.mem_flatMap.1 hv
  simp [Bx.cells] at hy
  rcases hy with rfl | rfl | rfl | rfl <;> rfl
theorem one_past (l : List Id) : ∀ v ∈ l.flatMap Id.cells, v.oneCell' = true := by
  intro v hv
  obtain ⟨y, _, hy⟩ := List.mem_flatMap.1 hv
  simp [Id.cells] at hy
  rcases hy with rfl | rfl | rfl <;> rfl
theorem one_hist (l : List SlL) : ∀ v ∈ l.flatMap SlL.cells, v.oneCell' = true := by
  intro v hv
  obtain ⟨y, _, hy⟩ := List.mem_flatMap.1 hv
  simp [SlL.cells] at hy
  rcases hy with rfl | rfl | rfl | rfl <;> rfl
theorem id_one {n : Int} (n0 : -9223372036854775808 ≤ n) (n1 : n ≤ 9223372036854775807) : (⟨n, 1, 1⟩ : Id).ok := ⟨⟨n0, n1⟩, ⟨by show (-9223372036854775808 : Int) ≤ 1; decide, by show (1 : Int) ≤ 9223372036854775807; decide⟩, by show (1 : Nat) < 18446744073709551616; decide⟩
set_option maxRecDepth 100000 in
set_option maxHeartbeats 80000000 in
theorem bent_any (k : Nat) (x : OpL) (how n : Int) (w : World) (hat : x.at w w.heap.size) (hok : x.op.ok) (hfew : Few k x.op) (hk : k ≤ 900) (h0 : -9223372036854775808 ≤ how) (h1 : how ≤ 9223372036854775807) (n0 : -9223372036854775808 ≤ n) (n1 : n ≤ 9223372036854775807) :
    Calls Tryz.prog 6 #[.agg x.cells, .int .i64 how, .int .i64 n] w (BentPost k w) := by
  obtain ⟨u, eu, hu⟩ : ∃ u : Nat, IntKind.u64.wrap n = (u : Int) ∧ U64 u := ⟨(IntKind.u64.wrap n).toNat, by rw [IntKind.wrap_u64]; omega, by show (IntKind.u64.wrap n).toNat < 18446744073709551616; rw [IntKind.wrap_u64]; omega⟩
  have b0 := ((Blk.new w 35 x.cells).alloc (.cells OpL.zero.cells 35))
  have b1 := Blk.new (w.alloc (.cells x.cells 35)) 35 OpL.zero.cells
  have hi : (Tryz.prog.info? 35).map (·.size) = some 27 := by kernel_rfl
  have hu' := Lib.hid hu
  clear hu
  go_enter Tryz.func6, Tryz.ntmps6
  go_upto_if 16 with (fail)
  go_cut [] (fun wc => ∃ id : Id, id.ok ∧ Bs w wc k x ∧ Blk wc (w.heap.size + 1 + 1) 27 #[.int .i64 id.b, .int .i64 id.s, .int .u64 (id.u : Int)])
  case first =>
    have fin : Hid (∀ id : Id, id.ok → ∃ id' : Id, id'.ok ∧ Bs w (((w.alloc (.cells x.cells 35)).alloc (.cells OpL.zero.cells 35)).alloc (.cells #[.int .i64 id.b, .int .i64 id.s, .int .u64 (id.u : Int)] 27)) k x ∧ Blk (((w.alloc (.cells x.cells 35)).alloc (.cells OpL.zero.cells 35)).alloc (.cells #[.int .i64 id.b, .int .i64 id.s, .int .u64 (id.u : Int)] 27)) (w.heap.size + 1 + 1) 27 #[.int .i64 id'.b, .int .i64 id'.s, .int .u64 (id'.u : Int)]) := by
      intro id hid
      have b2 := Blk.new ((w.alloc (.cells x.cells 35)).alloc (.cells OpL.zero.cells 35)) 27 #[.int .i64 id.b, .int .i64 id.s, .int .u64 (id.u : Int)]
      simp only [World.size_alloc] at b1 b2
      exact ⟨id, hid, ⟨b0.alloc _, b1.alloc _, hok, hfew, hat, (((Fr.refl Non w).alloc _).alloc _).alloc _, by simp only [World.size_alloc]; omega⟩, b2⟩
    clear b0 b1 hat hok hfew
    rcases Bool.eq_false_or_eq_true (n.tmod 2 == 0) with ht | ht
    · go_wp2_with (fail)
      go_meet
      exact fin.out ⟨1, n, u⟩ ⟨⟨by show (-9223372036854775808 : Int) ≤ 1; decide, by show (1 : Int) ≤ 9223372036854775807; decide⟩, ⟨n0, n1⟩, hu'.out⟩
    · go_wp2_with (fail)
      go_meet
      exact fin.out ⟨n, 1, 1⟩ (id_one n0 n1)
  case rest =>
  obtain ⟨id, hid, bs, hbi⟩ := hcut
  clear b0 b1 hat hok hfew
  generalize wc = w4 at *
  go_wp2_with (fail)
  refine (around_any n 14 _ n0 n1 (by omega) (by omega)).mono ?_
  rintro _ _ ⟨rfl, rfl⟩
  have hm := around_bd (n := n) (m := 14) (by omega)
  generalize around n 14 = few at hm ⊢
  go_wp2_with (fail)
  refine (around_any how 22 _ h0 h1 (by omega) (by omega)).mono ?_
  rintro _ _ ⟨rfl, rfl⟩
  have hw := around_bd (n := how) (m := 22) (by omega)
  generalize around how 22 = m at hw ⊢
  go_upto_block 0 with (fail)
  go_cut [] (fun wc => Be w wc k)
  case first =>
    obtain ⟨fw, rfl⟩ : ∃ fw : Nat, few = (fw : Int) := ⟨few.toNat, by omega⟩
    have hlt := bs.lt
    have hm22 : m = 0 ∨ m = 1 ∨ m = 2 ∨ m = 3 ∨ m = 4 ∨ m = 5 ∨ m = 6 ∨ m = 7 ∨ m = 8 ∨ m = 9 ∨ m = 10 ∨ m = 11 ∨ m = 12 ∨ m = 13 ∨ m = 14 ∨ m = 15 ∨ m = 16 ∨ m = 17 ∨ m = 18 ∨ m = 19 ∨ m = 20 ∨ m = 21 := by omega
    clear hw hi h0 h1
    rcases hm22 with rfl | rfl | rfl | rfl | rfl | rfl | rfl | rfl | rfl | rfl | rfl | rfl | rfl | rfl | rfl | rfl | rfl | rfl | rfl | rfl | rfl | rfl
    · as_aux_lemma =>
        have z0 : w4.cell? ⟨w.heap.size, 0, none⟩ = some _ := bs.blk.cell 0
        have q0 := bs.blk.frozen 0
        go_wp2_with (fail)
        go_meet
        exact bs.set_by_ n ⟨n0, n1⟩
    · as_aux_lemma =>
        have z1 : w4.cell? ⟨w.heap.size, 1, none⟩ = some _ := bs.blk.cell 1
        have q1 := bs.blk.frozen 1
        go_wp2_with (fail)
        go_meet
        exact bs.set_sq n ⟨n0, n1⟩
    · as_aux_lemma =>
        have z2 : w4.cell? ⟨w.heap.size, 2, none⟩ = some _ := bs.blk.cell 2
        have q2 := bs.blk.frozen 2
        go_wp2_with (fail)
        go_meet
        exact bs.set_kind n ⟨n0, n1⟩
    · as_aux_lemma =>
        have z3 : w4.cell? ⟨w.heap.size, 3, none⟩ = some _ := bs.blk.cell 3
        have q3 := bs.blk.frozen 3
        go_wp2_with (fail)
        go_meet
        exact bs.set_at_ n ⟨n0, n1⟩
    · as_aux_lemma =>
        have pa := bs.at_.fr bs.fr (fun _ _ e => e)
        obtain ⟨np, hnp⟩ := hid_ex x.past.length
        have z0 : w4.drew.cell? ⟨w.heap.size, 4, none⟩ = some (.slice x.pastA x.past.length x.pastC) := bs.blk.cell 4
        rw [hnp.out] at z0
        have hle : np ≤ k := by rw [← hnp.out]; exact bs.few.past
        have rd : Rd w4.drew w.heap.size 3 x.pastA np (x.past.flatMap Id.cells) := by rw [← hnp.out]; exact pa.past.1
        have hone := one_past x.past
        have bsd := bs.drew
        have hbd : Blk w4.drew (w.heap.size + 1 + 1) 27 #[.int .i64 id.b, .int .i64 id.s, .int .u64 (id.u : Int)] := hbi
        have hltd : w.heap.size + 2 < w4.drew.heap.size := hlt
        clear pa
        go_upto_region 17 with (fail)
        refine wp_region_held_drew (S := fun w' => Blk w' (w.heap.size + 1 + 1) 27 #[.int .i64 id.b, .int .i64 id.s, .int .u64 (id.u : Int)]) (by kernel_rfl) hbd (fun hHeld => ?_)
        clear hHeld
        generalize w4.drew = wd at bsd hbd z0 rd hltd ⊢
        refine wpAnyH_take (i := 1) (v := ?_) rfl (by kernel_rfl) (by kernel_rfl) (by kernel_rfl) (fun _ _ _ h => h) (Or.inl ⟨by kernel_rfl, ?_⟩) hbd ?_
        rotate_left
        focus (intro w' hSw; go_simp; (try with_reducible rfl))
        try simp only [put_lit, List.set]
        refine wpAnyH_take (i := 4) (v := ?_) rfl (by kernel_rfl) (by kernel_rfl) (by kernel_rfl) (fun _ _ _ h => h) (Or.inl ⟨by kernel_rfl, ?_⟩) hbd ?_
        rotate_left
        focus (intro w' hSw; have c0 : w'.cell? ⟨w.heap.size + 1 + 1, 0, none⟩ = some _ := Blk.cell hSw 0; have c1 : w'.cell? ⟨w.heap.size + 1 + 1, 1, none⟩ = some _ := Blk.cell hSw 1; have c2 : w'.cell? ⟨w.heap.size + 1 + 1, 2, none⟩ = some _ := Blk.cell hSw 2; go_simp; (try with_reducible rfl))
        try simp only [put_lit, List.set]
        refine wpAnyH_ready (rs := [0, 2, 5]) (by kernel_rfl) (by simp) (AllReadyH.cons rfl (fun K hK => ?_) (AllReadyH.cons rfl (fun K hK => ?_) (AllReadyH.cons rfl (fun K hK => ?_) AllReadyH.nil)))
        · skip
          refine want_pos (by kernel_rfl) ?_
          go_simp
          have nb1 := bsd.alloc (.cells #[] 27)
          have nh2 := Blk.alloc hbd (.cells #[] 27)
          have nz3 := cell_alloc z0 (.cells #[] 27)
          have nr4 := rd.alloc (.cells #[] 27)
          have ns5 : wd.heap.size ≤ (wd.alloc (.cells #[] 27)).heap.size := (by rw [World.size_alloc]; omega)
          have ne6 := (Own.litB wd 27 (size := 3) (n := 0) [] rfl (by omega)).lower (base' := wd.heap.size) (by first | assumption | exact Nat.le_refl _)
          refine hK.out _ _ nh2 (fun _ => ?_)
          clear hK K
          try simp only [put_lit, List.set]
          refine wpAnyH_ready (rs := [2, 5]) (by kernel_rfl) (by simp) (AllReadyH.cons rfl (fun K hK => ?_) (AllReadyH.cons rfl (fun K hK => ?_) AllReadyH.nil))
          · skip
            refine want_pos (by kernel_rfl) ?_
            have zl := nz3
            go_simp
            refine hK.out _ _ nh2 (fun _ => ?_)
            clear hK K
            try simp only [put_lit, List.set]
            refine wpAnyH_ready (rs := [3, 5]) (by kernel_rfl) (by simp) (AllReadyH.cons rfl (fun K hK => ?_) (AllReadyH.cons rfl (fun K hK => ?_) AllReadyH.nil))
            · skip
              refine step_app (base := wd.heap.size) (.tmp 54) (.tmp 56) 23 (by rfl) (by rfl) (by rfl) (by rfl) slId ne6 nr4 hone (by omega) (by omega) (by first | assumption | exact Nat.le_refl _) ?_
              intro A7 c8 v9 own10 fr11 hat12
              have nb13 := nb1.step fr11 (fun j e => (by have := (ne6.row j e).1; omega))
              have nh14 := Blk.fr nh2 fr11 (fun e => (by have := (ne6.row _ e).1; omega))
              have nr15 := nr4.fr fr11 (fun j hj e => (by have := (ne6.row j e).1; omega))
              rw [Nat.zero_add, List.nil_append] at own10
              have ns16 := Nat.le_trans (by first | assumption | exact Nat.le_refl _ : wd.heap.size ≤ (wd.alloc (.cells #[] 27)).heap.size) fr11.size
              refine hK.out _ _ nh14 (fun _ => ?_)
              clear hK K
              go_simp
              refine wpAnyH_ready (rs := [5]) (by kernel_rfl) (by simp) (AllReadyH.cons rfl (fun K hK => ?_) AllReadyH.nil)
              · skip
                refine want_pos (by kernel_rfl) ?_
                go_simp
                have nb17 := nb13.alloc (.cells #[.int .i64 id.b, .int .i64 id.s, .int .u64 (id.u : Int)] 27)
                have nh18 := Blk.alloc nh14 (.cells #[.int .i64 id.b, .int .i64 id.s, .int .u64 (id.u : Int)] 27)
                have nr19 := nr15.alloc (.cells #[.int .i64 id.b, .int .i64 id.s, .int .u64 (id.u : Int)] 27)
                have no20 := own10.alloc (.cells #[.int .i64 id.b, .int .i64 id.s, .int .u64 (id.u : Int)] 27)
                have ns21 : wd.heap.size ≤ (v9.alloc (.cells #[.int .i64 id.b, .int .i64 id.s, .int .u64 (id.u : Int)] 27)).heap.size := (by rw [World.size_alloc]; omega)
                have nl22 := Blk.new v9 27 #[.int .i64 id.b, .int .i64 id.s, .int .u64 (id.u : Int)]
                refine hK.out _ _ nh18 (fun _ => ?_)
                clear hK K
                try simp only [put_lit, List.set]
                refine wpAnyH_ready (rs := [6]) (by kernel_rfl) (by simp) (AllReadyH.cons rfl (fun K hK => ?_) AllReadyH.nil)
                · skip
                  refine step_app (base := wd.heap.size) (.tmp 57) (.tmp 59) 23 (by rfl) (by rfl) (by rfl) (by rfl) slId no20 (Rd.blk (n := 1) (size := 3) nl22 rfl) (by simp [Value.oneCell']) (by omega) (by omega) (by first | assumption | exact Nat.le_refl _) ?_
                  intro A23 c24 v25 own26 fr27 hat28
                  have nb29 := nb17.step fr27 (fun j e => (by have := (no20.row j e).1; omega))
                  have nh30 := Blk.fr nh18 fr27 (fun e => (by have := (no20.row _ e).1; omega))
                  have nr31 := nr19.fr fr27 (fun j hj e => (by have := (no20.row j e).1; omega))
                  have ns32 := Nat.le_trans (by first | assumption | exact Nat.le_refl _ : wd.heap.size ≤ (v9.alloc (.cells #[.int .i64 id.b, .int .i64 id.s, .int .u64 (id.u : Int)] 27)).heap.size) fr27.size
                  refine hK.out _ _ nh30 (fun _ => ?_)
                  clear hK K
                  go_simp
                  refine wpAnyH_take (i := 7) (v := ?_) rfl (by kernel_rfl) (by kernel_rfl) (by kernel_rfl) (fun _ _ _ h => h) (Or.inl ⟨by kernel_rfl, ?_⟩) nh30 ?_
                  rotate_left
                  focus (intro w' hSw; go_simp; (try with_reducible rfl))
                  try simp only [put_lit, List.set]
                  refine wpAnyH_ready (rs := [8]) (by kernel_rfl) (by simp) (AllReadyH.cons rfl (fun K hK => ?_) AllReadyH.nil)
                  · skip
                    refine want_pos (by kernel_rfl) ?_
                    have zs : v25.cell? ⟨w.heap.size, 4, none⟩ = some _ := nb29.blk.cell 4
                    have qs := nb29.blk.frozen 4
                    go_simp
                    refine hK.out _ _ (Blk.far nh30 (by show w.heap.size + 1 + 1 ≠ w.heap.size; omega) _) (fun _ => ?_)
                    clear hK K
                    try simp only [put_lit, List.set]
                    refine wpAnyH_done (by kernel_rfl) ?_ _
                    go_wp2_with (fail)
                    go_meet
                    exact past_fin nb29 hid hnp hle hk hltd own26
            · skip
              refine want_pos (by kernel_rfl) ?_
              go_simp
              have nb33 := nb1.alloc (.cells #[.int .i64 id.b, .int .i64 id.s, .int .u64 (id.u : Int)] 27)
              have nh34 := Blk.alloc nh2 (.cells #[.int .i64 id.b, .int .i64 id.s, .int .u64 (id.u : Int)] 27)
              have nr35 := nr4.alloc (.cells #[.int .i64 id.b, .int .i64 id.s, .int .u64 (id.u : Int)] 27)
              have no36 := ne6.alloc (.cells #[.int .i64 id.b, .int .i64 id.s, .int .u64 (id.u : Int)] 27)
              have ns37 : wd.heap.size ≤ ((wd.alloc (.cells #[] 27)).alloc (.cells #[.int .i64 id.b, .int .i64 id.s, .int .u64 (id.u : Int)] 27)).heap.size := (by rw [World.size_alloc]; omega)
              have nl38 := Blk.new (wd.alloc (.cells #[] 27)) 27 #[.int .i64 id.b, .int .i64 id.s, .int .u64 (id.u : Int)]
              simp only [World.size_alloc] at nl38
              refine hK.out _ _ nh34 (fun _ => ?_)
              clear hK K
              try simp only [put_lit, List.set]
              refine wpAnyH_ready (rs := [3]) (by kernel_rfl) (by simp) (AllReadyH.cons rfl (fun K hK => ?_) AllReadyH.nil)
              · skip
                refine step_app (base := wd.heap.size) (.tmp 54) (.tmp 56) 23 (by rfl) (by rfl) (by rfl) (by rfl) slId no36 nr35 hone (by omega) (by omega) (by first | assumption | exact Nat.le_refl _) ?_
                intro A39 c40 v41 own42 fr43 hat44
                have nb45 := nb33.step fr43 (fun j e => (by have := (no36.row j e).1; omega))
                have nh46 := Blk.fr nh34 fr43 (fun e => (by have := (no36.row _ e).1; omega))
                have nr47 := nr35.fr fr43 (fun j hj e => (by have := (no36.row j e).1; omega))
                have nl48 := Blk.fr nl38 fr43 (fun e => (by have e' : wd.heap.size = wd.heap.size + 1 := Option.some.inj e; omega))
                rw [Nat.zero_add, List.nil_append] at own42
                have ns49 := Nat.le_trans (by first | assumption | exact Nat.le_refl _ : wd.heap.size ≤ ((wd.alloc (.cells #[] 27)).alloc (.cells #[.int .i64 id.b, .int .i64 id.s, .int .u64 (id.u : Int)] 27)).heap.size) fr43.size
                refine hK.out _ _ nh46 (fun _ => ?_)
                clear hK K
                go_simp
                refine wpAnyH_ready (rs := [6]) (by kernel_rfl) (by simp) (AllReadyH.cons rfl (fun K hK => ?_) AllReadyH.nil)
                · skip
                  refine step_app (base := wd.heap.size) (.tmp 57) (.tmp 59) 23 (by rfl) (by rfl) (by rfl) (by rfl) slId own42 (Rd.blk (n := 1) (size := 3) nl48 rfl) (by simp [Value.oneCell']) (by omega) (by omega) (by first | assumption | exact Nat.le_refl _) ?_
                  intro A50 c51 v52 own53 fr54 hat55
                  have nb56 := nb45.step fr54 (fun j e => (by have := (own42.row j e).1; omega))
                  have nh57 := Blk.fr nh46 fr54 (fun e => (by have := (own42.row _ e).1; omega))
                  have nr58 := nr47.fr fr54 (fun j hj e => (by have := (own42.row j e).1; omega))
                  have ns59 := Nat.le_trans (by first | assumption | exact Nat.le_refl _ : wd.heap.size ≤ v41.heap.size) fr54.size
                  refine hK.out _ _ nh57 (fun _ => ?_)
                  clear hK K
                  go_simp
                  refine wpAnyH_take (i := 7) (v := ?_) rfl (by kernel_rfl) (by kernel_rfl) (by kernel_rfl) (fun _ _ _ h => h) (Or.inl ⟨by kernel_rfl, ?_⟩) nh57 ?_
                  rotate_left
                  focus (intro w' hSw; go_simp; (try with_reducible rfl))
                  try simp only [put_lit, List.set]
                  refine wpAnyH_ready (rs := [8]) (by kernel_rfl) (by simp) (AllReadyH.cons rfl (fun K hK => ?_) AllReadyH.nil)
                  · skip
                    refine want_pos (by kernel_rfl) ?_
                    have zs : v52.cell? ⟨w.heap.size, 4, none⟩ = some _ := nb56.blk.cell 4
                    have qs := nb56.blk.frozen 4
                    go_simp
                    refine hK.out _ _ (Blk.far nh57 (by show w.heap.size + 1 + 1 ≠ w.heap.size; omega) _) (fun _ => ?_)
                    clear hK K
                    try simp only [put_lit, List.set]
                    refine wpAnyH_done (by kernel_rfl) ?_ _
                    go_wp2_with (fail)
                    go_meet
                    exact past_fin nb56 hid hnp hle hk hltd own53
          · skip
            refine want_pos (by kernel_rfl) ?_
            go_simp
            have nb60 := nb1.alloc (.cells #[.int .i64 id.b, .int .i64 id.s, .int .u64 (id.u : Int)] 27)
            have nh61 := Blk.alloc nh2 (.cells #[.int .i64 id.b, .int .i64 id.s, .int .u64 (id.u : Int)] 27)
            have nz62 := cell_alloc nz3 (.cells #[.int .i64 id.b, .int .i64 id.s, .int .u64 (id.u : Int)] 27)
            have nr63 := nr4.alloc (.cells #[.int .i64 id.b, .int .i64 id.s, .int .u64 (id.u : Int)] 27)
            have no64 := ne6.alloc (.cells #[.int .i64 id.b, .int .i64 id.s, .int .u64 (id.u : Int)] 27)
            have ns65 : wd.heap.size ≤ ((wd.alloc (.cells #[] 27)).alloc (.cells #[.int .i64 id.b, .int .i64 id.s, .int .u64 (id.u : Int)] 27)).heap.size := (by rw [World.size_alloc]; omega)
            have nl66 := Blk.new (wd.alloc (.cells #[] 27)) 27 #[.int .i64 id.b, .int .i64 id.s, .int .u64 (id.u : Int)]
            simp only [World.size_alloc] at nl66
            refine hK.out _ _ nh61 (fun _ => ?_)
            clear hK K
            try simp only [put_lit, List.set]
            refine wpAnyH_ready (rs := [2]) (by kernel_rfl) (by simp) (AllReadyH.cons rfl (fun K hK => ?_) AllReadyH.nil)
            · skip
              refine want_pos (by kernel_rfl) ?_
              have zl := nz62
              go_simp
              refine hK.out _ _ nh61 (fun _ => ?_)
              clear hK K
              try simp only [put_lit, List.set]
              refine wpAnyH_ready (rs := [3]) (by kernel_rfl) (by simp) (AllReadyH.cons rfl (fun K hK => ?_) AllReadyH.nil)
              · skip
                refine step_app (base := wd.heap.size) (.tmp 54) (.tmp 56) 23 (by rfl) (by rfl) (by rfl) (by rfl) slId no64 nr63 hone (by omega) (by omega) (by first | assumption | exact Nat.le_refl _) ?_
                intro A67 c68 v69 own70 fr71 hat72
                have nb73 := nb60.step fr71 (fun j e => (by have := (no64.row j e).1; omega))
                have nh74 := Blk.fr nh61 fr71 (fun e => (by have := (no64.row _ e).1; omega))
                have nr75 := nr63.fr fr71 (fun j hj e => (by have := (no64.row j e).1; omega))
                have nl76 := Blk.fr nl66 fr71 (fun e => (by have e' : wd.heap.size = wd.heap.size + 1 := Option.some.inj e; omega))
                rw [Nat.zero_add, List.nil_append] at own70
                have ns77 := Nat.le_trans (by first | assumption | exact Nat.le_refl _ : wd.heap.size ≤ ((wd.alloc (.cells #[] 27)).alloc (.cells #[.int .i64 id.b, .int .i64 id.s, .int .u64 (id.u : Int)] 27)).heap.size) fr71.size
                refine hK.out _ _ nh74 (fun _ => ?_)
                clear hK K
                go_simp
                refine wpAnyH_ready (rs := [6]) (by kernel_rfl) (by simp) (AllReadyH.cons rfl (fun K hK => ?_) AllReadyH.nil)
                · skip
                  refine step_app (base := wd.heap.size) (.tmp 57) (.tmp 59) 23 (by rfl) (by rfl) (by rfl) (by rfl) slId own70 (Rd.blk (n := 1) (size := 3) nl76 rfl) (by simp [Value.oneCell']) (by omega) (by omega) (by first | assumption | exact Nat.le_refl _) ?_
                  intro A78 c79 v80 own81 fr82 hat83
                  have nb84 := nb73.step fr82 (fun j e => (by have := (own70.row j e).1; omega))
                  have nh85 := Blk.fr nh74 fr82 (fun e => (by have := (own70.row _ e).1; omega))
                  have nr86 := nr75.fr fr82 (fun j hj e => (by have := (own70.row j e).1; omega))
                  have ns87 := Nat.le_trans (by first | assumption | exact Nat.le_refl _ : wd.heap.size ≤ v69.heap.size) fr82.size
                  refine hK.out _ _ nh85 (fun _ => ?_)
                  clear hK K
                  go_simp
                  refine wpAnyH_take (i := 7) (v := ?_) rfl (by kernel_rfl) (by kernel_rfl) (by kernel_rfl) (fun _ _ _ h => h) (Or.inl ⟨by kernel_rfl, ?_⟩) nh85 ?_
                  rotate_left
                  focus (intro w' hSw; go_simp; (try with_reducible rfl))
                  try simp only [put_lit, List.set]
                  refine wpAnyH_ready (rs := [8]) (by kernel_rfl) (by simp) (AllReadyH.cons rfl (fun K hK => ?_) AllReadyH.nil)
                  · skip
                    refine want_pos (by kernel_rfl) ?_
                    have zs : v80.cell? ⟨w.heap.size, 4, none⟩ = some _ := nb84.blk.cell 4
                    have qs := nb84.blk.frozen 4
                    go_simp
                    refine hK.out _ _ (Blk.far nh85 (by show w.heap.size + 1 + 1 ≠ w.heap.size; omega) _) (fun _ => ?_)
                    clear hK K
                    try simp only [put_lit, List.set]
                    refine wpAnyH_done (by kernel_rfl) ?_ _
                    go_wp2_with (fail)
                    go_meet
                    exact past_fin nb84 hid hnp hle hk hltd own81
        · skip
          refine want_pos (by kernel_rfl) ?_
          have zl := z0
          go_simp
          refine hK.out _ _ hbd (fun _ => ?_)
          clear hK K
          try simp only [put_lit, List.set]
          refine wpAnyH_ready (rs := [0, 5]) (by kernel_rfl) (by simp) (AllReadyH.cons rfl (fun K hK => ?_) (AllReadyH.cons rfl (fun K hK => ?_) AllReadyH.nil))
          · skip
            refine want_pos (by kernel_rfl) ?_
            go_simp
            have nb88 := bsd.alloc (.cells #[] 27)
            have nh89 := Blk.alloc hbd (.cells #[] 27)
            have nr90 := rd.alloc (.cells #[] 27)
            have ns91 : wd.heap.size ≤ (wd.alloc (.cells #[] 27)).heap.size := (by rw [World.size_alloc]; omega)
            have ne92 := (Own.litB wd 27 (size := 3) (n := 0) [] rfl (by omega)).lower (base' := wd.heap.size) (by first | assumption | exact Nat.le_refl _)
            refine hK.out _ _ nh89 (fun _ => ?_)
            clear hK K
            try simp only [put_lit, List.set]
            refine wpAnyH_ready (rs := [3, 5]) (by kernel_rfl) (by simp) (AllReadyH.cons rfl (fun K hK => ?_) (AllReadyH.cons rfl (fun K hK => ?_) AllReadyH.nil))
            · skip
              refine step_app (base := wd.heap.size) (.tmp 54) (.tmp 56) 23 (by rfl) (by rfl) (by rfl) (by rfl) slId ne92 nr90 hone (by omega) (by omega) (by first | assumption | exact Nat.le_refl _) ?_
              intro A93 c94 v95 own96 fr97 hat98
              have nb99 := nb88.step fr97 (fun j e => (by have := (ne92.row j e).1; omega))
              have nh100 := Blk.fr nh89 fr97 (fun e => (by have := (ne92.row _ e).1; omega))
              have nr101 := nr90.fr fr97 (fun j hj e => (by have := (ne92.row j e).1; omega))
              rw [Nat.zero_add, List.nil_append] at own96
              have ns102 := Nat.le_trans (by first | assumption | exact Nat.le_refl _ : wd.heap.size ≤ (wd.alloc (.cells #[] 27)).heap.size) fr97.size
              refine hK.out _ _ nh100 (fun _ => ?_)
              clear hK K
              go_simp
              refine wpAnyH_ready (rs := [5]) (by kernel_rfl) (by simp) (AllReadyH.cons rfl (fun K hK => ?_) AllReadyH.nil)
              · skip
                refine want_pos (by kernel_rfl) ?_
                go_simp
                have nb103 := nb99.alloc (.cells #[.int .i64 id.b, .int .i64 id.s, .int .u64 (id.u : Int)] 27)
                have nh104 := Blk.alloc nh100 (.cells #[.int .i64 id.b, .int .i64 id.s, .int .u64 (id.u : Int)] 27)
                have nr105 := nr101.alloc (.cells #[.int .i64 id.b, .int .i64 id.s, .int .u64 (id.u : Int)] 27)
                have no106 := own96.alloc (.cells #[.int .i64 id.b, .int .i64 id.s, .int .u64 (id.u : Int)] 27)
                have ns107 : wd.heap.size ≤ (v95.alloc (.cells #[.int .i64 id.b, .int .i64 id.s, .int .u64 (id.u : Int)] 27)).heap.size := (by rw [World.size_alloc]; omega)
                have nl108 := Blk.new v95 27 #[.int .i64 id.b, .int .i64 id.s, .int .u64 (id.u : Int)]
                refine hK.out _ _ nh104 (fun _ => ?_)
                clear hK K
                try simp only [put_lit, List.set]
                refine wpAnyH_ready (rs := [6]) (by kernel_rfl) (by simp) (AllReadyH.cons rfl (fun K hK => ?_) AllReadyH.nil)
                · skip
                  refine step_app (base := wd.heap.size) (.tmp 57) (.tmp 59) 23 (by rfl) (by rfl) (by rfl) (by rfl) slId no106 (Rd.blk (n := 1) (size := 3) nl108 rfl) (by simp [Value.oneCell']) (by omega) (by omega) (by first | assumption | exact Nat.le_refl _) ?_
                  intro A109 c110 v111 own112 fr113 hat114
                  have nb115 := nb103.step fr113 (fun j e => (by have := (no106.row j e).1; omega))
                  have nh116 := Blk.fr nh104 fr113 (fun e => (by have := (no106.row _ e).1; omega))
                  have nr117 := nr105.fr fr113 (fun j hj e => (by have := (no106.row j e).1; omega))
                  have ns118 := Nat.le_trans (by first | assumption | exact Nat.le_refl _ : wd.heap.size ≤ (v95.alloc (.cells #[.int .i64 id.b, .int .i64 id.s, .int .u64 (id.u : Int)] 27)).heap.size) fr113.size
                  refine hK.out _ _ nh116 (fun _ => ?_)
                  clear hK K
                  go_simp
                  refine wpAnyH_take (i := 7) (v := ?_) rfl (by kernel_rfl) (by kernel_rfl) (by kernel_rfl) (fun _ _ _ h => h) (Or.inl ⟨by kernel_rfl, ?_⟩) nh116 ?_
                  rotate_left
                  focus (intro w' hSw; go_simp; (try with_reducible rfl))
                  try simp only [put_lit, List.set]
                  refine wpAnyH_ready (rs := [8]) (by kernel_rfl) (by simp) (AllReadyH.cons rfl (fun K hK => ?_) AllReadyH.nil)
                  · skip
                    refine want_pos (by kernel_rfl) ?_
                    have zs : v111.cell? ⟨w.heap.size, 4, none⟩ = some _ := nb115.blk.cell 4
                    have qs := nb115.blk.frozen 4
                    go_simp
                    refine hK.out _ _ (Blk.far nh116 (by show w.heap.size + 1 + 1 ≠ w.heap.size; omega) _) (fun _ => ?_)
                    clear hK K
                    try simp only [put_lit, List.set]
                    refine wpAnyH_done (by kernel_rfl) ?_ _
                    go_wp2_with (fail)
                    go_meet
                    exact past_fin nb115 hid hnp hle hk hltd own112
            · skip
              refine want_pos (by kernel_rfl) ?_
              go_simp
              have nb119 := nb88.alloc (.cells #[.int .i64 id.b, .int .i64 id.s, .int .u64 (id.u : Int)] 27)
              have nh120 := Blk.alloc nh89 (.cells #[.int .i64 id.b, .int .i64 id.s, .int .u64 (id.u : Int)] 27)
              have nr121 := nr90.alloc (.cells #[.int .i64 id.b, .int .i64 id.s, .int .u64 (id.u : Int)] 27)
              have no122 := ne92.alloc (.cells #[.int .i64 id.b, .int .i64 id.s, .int .u64 (id.u : Int)] 27)
              have ns123 : wd.heap.size ≤ ((wd.alloc (.cells #[] 27)).alloc (.cells #[.int .i64 id.b, .int .i64 id.s, .int .u64 (id.u : Int)] 27)).heap.size := (by rw [World.size_alloc]; omega)
              have nl124 := Blk.new (wd.alloc (.cells #[] 27)) 27 #[.int .i64 id.b, .int .i64 id.s, .int .u64 (id.u : Int)]
              simp only [World.size_alloc] at nl124
              refine hK.out _ _ nh120 (fun _ => ?_)
              clear hK K
              try simp only [put_lit, List.set]
              refine wpAnyH_ready (rs := [3]) (by kernel_rfl) (by simp) (AllReadyH.cons rfl (fun K hK => ?_) AllReadyH.nil)
              · skip
                refine step_app (base := wd.heap.size) (.tmp 54) (.tmp 56) 23 (by rfl) (by rfl) (by rfl) (by rfl) slId no122 nr121 hone (by omega) (by omega) (by first | assumption | exact Nat.le_refl _) ?_
                intro A125 c126 v127 own128 fr129 hat130
                have nb131 := nb119.step fr129 (fun j e => (by have := (no122.row j e).1; omega))
                have nh132 := Blk.fr nh120 fr129 (fun e => (by have := (no122.row _ e).1; omega))
                have nr133 := nr121.fr fr129 (fun j hj e => (by have := (no122.row j e).1; omega))
                have nl134 := Blk.fr nl124 fr129 (fun e => (by have e' : wd.heap.size = wd.heap.size + 1 := Option.some.inj e; omega))
                rw [Nat.zero_add, List.nil_append] at own128
                have ns135 := Nat.le_trans (by first | assumption | exact Nat.le_refl _ : wd.heap.size ≤ ((wd.alloc (.cells #[] 27)).alloc (.cells #[.int .i64 id.b, .int .i64 id.s, .int .u64 (id.u : Int)] 27)).heap.size) fr129.size
                refine hK.out _ _ nh132 (fun _ => ?_)
                clear hK K
                go_simp
                refine wpAnyH_ready (rs := [6]) (by kernel_rfl) (by simp) (AllReadyH.cons rfl (fun K hK => ?_) AllReadyH.nil)
                · skip
                  refine step_app (base := wd.heap.size) (.tmp 57) (.tmp 59) 23 (by rfl) (by rfl) (by rfl) (by rfl) slId own128 (Rd.blk (n := 1) (size := 3) nl134 rfl) (by simp [Value.oneCell']) (by omega) (by omega) (by first | assumption | exact Nat.le_refl _) ?_
                  intro A136 c137 v138 own139 fr140 hat141
                  have nb142 := nb131.step fr140 (fun j e => (by have := (own128.row j e).1; omega))
                  have nh143 := Blk.fr nh132 fr140 (fun e => (by have := (own128.row _ e).1; omega))
                  have nr144 := nr133.fr fr140 (fun j hj e => (by have := (own128.row j e).1; omega))
                  have ns145 := Nat.le_trans (by first | assumption | exact Nat.le_refl _ : wd.heap.size ≤ v127.heap.size) fr140.size
                  refine hK.out _ _ nh143 (fun _ => ?_)
                  clear hK K
                  go_simp
                  refine wpAnyH_take (i := 7) (v := ?_) rfl (by kernel_rfl) (by kernel_rfl) (by kernel_rfl) (fun _ _ _ h => h) (Or.inl ⟨by kernel_rfl, ?_⟩) nh143 ?_
                  rotate_left
                  focus (intro w' hSw; go_simp; (try with_reducible rfl))
                  try simp only [put_lit, List.set]
                  refine wpAnyH_ready (rs := [8]) (by kernel_rfl) (by simp) (AllReadyH.cons rfl (fun K hK => ?_) AllReadyH.nil)
                  · skip
                    refine want_pos (by kernel_rfl) ?_
                    have zs : v138.cell? ⟨w.heap.size, 4, none⟩ = some _ := nb142.blk.cell 4
                    have qs := nb142.blk.frozen 4
                    go_simp
                    refine hK.out _ _ (Blk.far nh143 (by show w.heap.size + 1 + 1 ≠ w.heap.size; omega) _) (fun _ => ?_)
                    clear hK K
                    try simp only [put_lit, List.set]
                    refine wpAnyH_done (by kernel_rfl) ?_ _
                    go_wp2_with (fail)
                    go_meet
                    exact past_fin nb142 hid hnp hle hk hltd own139
          · skip
            refine want_pos (by kernel_rfl) ?_
            go_simp
            have nb146 := bsd.alloc (.cells #[.int .i64 id.b, .int .i64 id.s, .int .u64 (id.u : Int)] 27)
            have nh147 := Blk.alloc hbd (.cells #[.int .i64 id.b, .int .i64 id.s, .int .u64 (id.u : Int)] 27)
            have nr148 := rd.alloc (.cells #[.int .i64 id.b, .int .i64 id.s, .int .u64 (id.u : Int)] 27)
            have ns149 : wd.heap.size ≤ (wd.alloc (.cells #[.int .i64 id.b, .int .i64 id.s, .int .u64 (id.u : Int)] 27)).heap.size := (by rw [World.size_alloc]; omega)
            have nl150 := Blk.new wd 27 #[.int .i64 id.b, .int .i64 id.s, .int .u64 (id.u : Int)]
            refine hK.out _ _ nh147 (fun _ => ?_)
            clear hK K
            try simp only [put_lit, List.set]
            refine wpAnyH_ready (rs := [0]) (by kernel_rfl) (by simp) (AllReadyH.cons rfl (fun K hK => ?_) AllReadyH.nil)
            · skip
              refine want_pos (by kernel_rfl) ?_
              go_simp
              have nb151 := nb146.alloc (.cells #[] 27)
              have nh152 := Blk.alloc nh147 (.cells #[] 27)
              have nr153 := nr148.alloc (.cells #[] 27)
              have nl154 := Blk.alloc nl150 (.cells #[] 27)
              have ns155 : wd.heap.size ≤ ((wd.alloc (.cells #[.int .i64 id.b, .int .i64 id.s, .int .u64 (id.u : Int)] 27)).alloc (.cells #[] 27)).heap.size := (by rw [World.size_alloc]; omega)
              have ne156 := (Own.litB (wd.alloc (.cells #[.int .i64 id.b, .int .i64 id.s, .int .u64 (id.u : Int)] 27)) 27 (size := 3) (n := 0) [] rfl (by omega)).lower (base' := wd.heap.size) (by first | assumption | exact Nat.le_refl _)
              simp only [World.size_alloc] at ne156
              refine hK.out _ _ nh152 (fun _ => ?_)
              clear hK K
              try simp only [put_lit, List.set]
              refine wpAnyH_ready (rs := [3]) (by kernel_rfl) (by simp) (AllReadyH.cons rfl (fun K hK => ?_) AllReadyH.nil)
              · skip
                refine step_app (base := wd.heap.size) (.tmp 54) (.tmp 56) 23 (by rfl) (by rfl) (by rfl) (by rfl) slId ne156 nr153 hone (by omega) (by omega) (by first | assumption | exact Nat.le_refl _) ?_
                intro A157 c158 v159 own160 fr161 hat162
                have nb163 := nb151.step fr161 (fun j e => (by have := (ne156.row j e).1; omega))
                have nh164 := Blk.fr nh152 fr161 (fun e => (by have := (ne156.row _ e).1; omega))
                have nr165 := nr153.fr fr161 (fun j hj e => (by have := (ne156.row j e).1; omega))
                have nl166 := Blk.fr nl154 fr161 (fun e => (by have e' : wd.heap.size + 1 = wd.heap.size := Option.some.inj e; omega))
                rw [Nat.zero_add, List.nil_append] at own160
                have ns167 := Nat.le_trans (by first | assumption | exact Nat.le_refl _ : wd.heap.size ≤ ((wd.alloc (.cells #[.int .i64 id.b, .int .i64 id.s, .int .u64 (id.u : Int)] 27)).alloc (.cells #[] 27)).heap.size) fr161.size
                refine hK.out _ _ nh164 (fun _ => ?_)
                clear hK K
                go_simp
                refine wpAnyH_ready (rs := [6]) (by kernel_rfl) (by simp) (AllReadyH.cons rfl (fun K hK => ?_) AllReadyH.nil)
                · skip
                  refine step_app (base := wd.heap.size) (.tmp 57) (.tmp 59) 23 (by rfl) (by rfl) (by rfl) (by rfl) slId own160 (Rd.blk (n := 1) (size := 3) nl166 rfl) (by simp [Value.oneCell']) (by omega) (by omega) (by first | assumption | exact Nat.le_refl _) ?_
                  intro A168 c169 v170 own171 fr172 hat173
                  have nb174 := nb163.step fr172 (fun j e => (by have := (own160.row j e).1; omega))
                  have nh175 := Blk.fr nh164 fr172 (fun e => (by have := (own160.row _ e).1; omega))
                  have nr176 := nr165.fr fr172 (fun j hj e => (by have := (own160.row j e).1; omega))
                  have ns177 := Nat.le_trans (by first | assumption | exact Nat.le_refl _ : wd.heap.size ≤ v159.heap.size) fr172.size
                  refine hK.out _ _ nh175 (fun _ => ?_)
                  clear hK K
                  go_simp
                  refine wpAnyH_take (i := 7) (v := ?_) rfl (by kernel_rfl) (by kernel_rfl) (by kernel_rfl) (fun _ _ _ h => h) (Or.inl ⟨by kernel_rfl, ?_⟩) nh175 ?_
                  rotate_left
                  focus (intro w' hSw; go_simp; (try with_reducible rfl))
                  try simp only [put_lit, List.set]
                  refine wpAnyH_ready (rs := [8]) (by kernel_rfl) (by simp) (AllReadyH.cons rfl (fun K hK => ?_) AllReadyH.nil)
                  · skip
                    refine want_pos (by kernel_rfl) ?_
                    have zs : v170.cell? ⟨w.heap.size, 4, none⟩ = some _ := nb174.blk.cell 4
                    have qs := nb174.blk.frozen 4
                    go_simp
                    refine hK.out _ _ (Blk.far nh175 (by show w.heap.size + 1 + 1 ≠ w.heap.size; omega) _) (fun _ => ?_)
                    clear hK K
                    try simp only [put_lit, List.set]
                    refine wpAnyH_done (by kernel_rfl) ?_ _
                    go_wp2_with (fail)
                    go_meet
                    exact past_fin nb174 hid hnp hle hk hltd own171
        · skip
          refine want_pos (by kernel_rfl) ?_
          go_simp
          have nb178 := bsd.alloc (.cells #[.int .i64 id.b, .int .i64 id.s, .int .u64 (id.u : Int)] 27)
          have nh179 := Blk.alloc hbd (.cells #[.int .i64 id.b, .int .i64 id.s, .int .u64 (id.u : Int)] 27)
          have nz180 := cell_alloc z0 (.cells #[.int .i64 id.b, .int .i64 id.s, .int .u64 (id.u : Int)] 27)
          have nr181 := rd.alloc (.cells #[.int .i64 id.b, .int .i64 id.s, .int .u64 (id.u : Int)] 27)
          have ns182 : wd.heap.size ≤ (wd.alloc (.cells #[.int .i64 id.b, .int .i64 id.s, .int .u64 (id.u : Int)] 27)).heap.size := (by rw [World.size_alloc]; omega)
          have nl183 := Blk.new wd 27 #[.int .i64 id.b, .int .i64 id.s, .int .u64 (id.u : Int)]
          refine hK.out _ _ nh179 (fun _ => ?_)
          clear hK K
          try simp only [put_lit, List.set]
          refine wpAnyH_ready (rs := [0, 2]) (by kernel_rfl) (by simp) (AllReadyH.cons rfl (fun K hK => ?_) (AllReadyH.cons rfl (fun K hK => ?_) AllReadyH.nil))
          · skip
            refine want_pos (by kernel_rfl) ?_
            go_simp
            have nb184 := nb178.alloc (.cells #[] 27)
            have nh185 := Blk.alloc nh179 (.cells #[] 27)
            have nz186 := cell_alloc nz180 (.cells #[] 27)
            have nr187 := nr181.alloc (.cells #[] 27)
            have nl188 := Blk.alloc nl183 (.cells #[] 27)
            have ns189 : wd.heap.size ≤ ((wd.alloc (.cells #[.int .i64 id.b, .int .i64 id.s, .int .u64 (id.u : Int)] 27)).alloc (.cells #[] 27)).heap.size := (by rw [World.size_alloc]; omega)
            have ne190 := (Own.litB (wd.alloc (.cells #[.int .i64 id.b, .int .i64 id.s, .int .u64 (id.u : Int)] 27)) 27 (size := 3) (n := 0) [] rfl (by omega)).lower (base' := wd.heap.size) (by first | assumption | exact Nat.le_refl _)
            simp only [World.size_alloc] at ne190
            refine hK.out _ _ nh185 (fun _ => ?_)
            clear hK K
            try simp only [put_lit, List.set]
            refine wpAnyH_ready (rs := [2]) (by kernel_rfl) (by simp) (AllReadyH.cons rfl (fun K hK => ?_) AllReadyH.nil)
            · skip
              refine want_pos (by kernel_rfl) ?_
              have zl := nz186
              go_simp
              refine hK.out _ _ nh185 (fun _ => ?_)
              clear hK K
              try simp only [put_lit, List.set]
              refine wpAnyH_ready (rs := [3]) (by kernel_rfl) (by simp) (AllReadyH.cons rfl (fun K hK => ?_) AllReadyH.nil)
              · skip
                refine step_app (base := wd.heap.size) (.tmp 54) (.tmp 56) 23 (by rfl) (by rfl) (by rfl) (by rfl) slId ne190 nr187 hone (by omega) (by omega) (by first | assumption | exact Nat.le_refl _) ?_
                intro A191 c192 v193 own194 fr195 hat196
                have nb197 := nb184.step fr195 (fun j e => (by have := (ne190.row j e).1; omega))
                have nh198 := Blk.fr nh185 fr195 (fun e => (by have := (ne190.row _ e).1; omega))
                have nr199 := nr187.fr fr195 (fun j hj e => (by have := (ne190.row j e).1; omega))
                have nl200 := Blk.fr nl188 fr195 (fun e => (by have e' : wd.heap.size + 1 = wd.heap.size := Option.some.inj e; omega))
                rw [Nat.zero_add, List.nil_append] at own194
                have ns201 := Nat.le_trans (by first | assumption | exact Nat.le_refl _ : wd.heap.size ≤ ((wd.alloc (.cells #[.int .i64 id.b, .int .i64 id.s, .int .u64 (id.u : Int)] 27)).alloc (.cells #[] 27)).heap.size) fr195.size
                refine hK.out _ _ nh198 (fun _ => ?_)
                clear hK K
                go_simp
                refine wpAnyH_ready (rs := [6]) (by kernel_rfl) (by simp) (AllReadyH.cons rfl (fun K hK => ?_) AllReadyH.nil)
                · skip
                  refine step_app (base := wd.heap.size) (.tmp 57) (.tmp 59) 23 (by rfl) (by rfl) (by rfl) (by rfl) slId own194 (Rd.blk (n := 1) (size := 3) nl200 rfl) (by simp [Value.oneCell']) (by omega) (by omega) (by first | assumption | exact Nat.le_refl _) ?_
                  intro A202 c203 v204 own205 fr206 hat207
                  have nb208 := nb197.step fr206 (fun j e => (by have := (own194.row j e).1; omega))
                  have nh209 := Blk.fr nh198 fr206 (fun e => (by have := (own194.row _ e).1; omega))
                  have nr210 := nr199.fr fr206 (fun j hj e => (by have := (own194.row j e).1; omega))
                  have ns211 := Nat.le_trans (by first | assumption | exact Nat.le_refl _ : wd.heap.size ≤ v193.heap.size) fr206.size
                  refine hK.out _ _ nh209 (fun _ => ?_)
                  clear hK K
                  go_simp
                  refine wpAnyH_take (i := 7) (v := ?_) rfl (by kernel_rfl) (by kernel_rfl) (by kernel_rfl) (fun _ _ _ h => h) (Or.inl ⟨by kernel_rfl, ?_⟩) nh209 ?_
                  rotate_left
                  focus (intro w' hSw; go_simp; (try with_reducible rfl))
                  try simp only [put_lit, List.set]
                  refine wpAnyH_ready (rs := [8]) (by kernel_rfl) (by simp) (AllReadyH.cons rfl (fun K hK => ?_) AllReadyH.nil)
                  · skip
                    refine want_pos (by kernel_rfl) ?_
                    have zs : v204.cell? ⟨w.heap.size, 4, none⟩ = some _ := nb208.blk.cell 4
                    have qs := nb208.blk.frozen 4
                    go_simp
                    refine hK.out _ _ (Blk.far nh209 (by show w.heap.size + 1 + 1 ≠ w.heap.size; omega) _) (fun _ => ?_)
                    clear hK K
                    try simp only [put_lit, List.set]
                    refine wpAnyH_done (by kernel_rfl) ?_ _
                    go_wp2_with (fail)
                    go_meet
                    exact past_fin nb208 hid hnp hle hk hltd own205
          · skip
            refine want_pos (by kernel_rfl) ?_
            have zl := nz180
            go_simp
            refine hK.out _ _ nh179 (fun _ => ?_)
            clear hK K
            try simp only [put_lit, List.set]
            refine wpAnyH_ready (rs := [0]) (by kernel_rfl) (by simp) (AllReadyH.cons rfl (fun K hK => ?_) AllReadyH.nil)
            · skip
              refine want_pos (by kernel_rfl) ?_
              go_simp
              have nb212 := nb178.alloc (.cells #[] 27)
              have nh213 := Blk.alloc nh179 (.cells #[] 27)
              have nr214 := nr181.alloc (.cells #[] 27)
              have nl215 := Blk.alloc nl183 (.cells #[] 27)
              have ns216 : wd.heap.size ≤ ((wd.alloc (.cells #[.int .i64 id.b, .int .i64 id.s, .int .u64 (id.u : Int)] 27)).alloc (.cells #[] 27)).heap.size := (by rw [World.size_alloc]; omega)
              have ne217 := (Own.litB (wd.alloc (.cells #[.int .i64 id.b, .int .i64 id.s, .int .u64 (id.u : Int)] 27)) 27 (size := 3) (n := 0) [] rfl (by omega)).lower (base' := wd.heap.size) (by first | assumption | exact Nat.le_refl _)
              simp only [World.size_alloc] at ne217
              refine hK.out _ _ nh213 (fun _ => ?_)
              clear hK K
              try simp only [put_lit, List.set]
              refine wpAnyH_ready (rs := [3]) (by kernel_rfl) (by simp) (AllReadyH.cons rfl (fun K hK => ?_) AllReadyH.nil)
              · skip
                refine step_app (base := wd.heap.size) (.tmp 54) (.tmp 56) 23 (by rfl) (by rfl) (by rfl) (by rfl) slId ne217 nr214 hone (by omega) (by omega) (by first | assumption | exact Nat.le_refl _) ?_
                intro A218 c219 v220 own221 fr222 hat223
                have nb224 := nb212.step fr222 (fun j e => (by have := (ne217.row j e).1; omega))
                have nh225 := Blk.fr nh213 fr222 (fun e => (by have := (ne217.row _ e).1; omega))
                have nr226 := nr214.fr fr222 (fun j hj e => (by have := (ne217.row j e).1; omega))
                have nl227 := Blk.fr nl215 fr222 (fun e => (by have e' : wd.heap.size + 1 = wd.heap.size := Option.some.inj e; omega))
                rw [Nat.zero_add, List.nil_append] at own221
                have ns228 := Nat.le_trans (by first | assumption | exact Nat.le_refl _ : wd.heap.size ≤ ((wd.alloc (.cells #[.int .i64 id.b, .int .i64 id.s, .int .u64 (id.u : Int)] 27)).alloc (.cells #[] 27)).heap.size) fr222.size
                refine hK.out _ _ nh225 (fun _ => ?_)
                clear hK K
                go_simp
                refine wpAnyH_ready (rs := [6]) (by kernel_rfl) (by simp) (AllReadyH.cons rfl (fun K hK => ?_) AllReadyH.nil)
                · skip
                  refine step_app (base := wd.heap.size) (.tmp 57) (.tmp 59) 23 (by rfl) (by rfl) (by rfl) (by rfl) slId own221 (Rd.blk (n := 1) (size := 3) nl227 rfl) (by simp [Value.oneCell']) (by omega) (by omega) (by first | assumption | exact Nat.le_refl _) ?_
                  intro A229 c230 v231 own232 fr233 hat234
                  have nb235 := nb224.step fr233 (fun j e => (by have := (own221.row j e).1; omega))
                  have nh236 := Blk.fr nh225 fr233 (fun e => (by have := (own221.row _ e).1; omega))
                  have nr237 := nr226.fr fr233 (fun j hj e => (by have := (own221.row j e).1; omega))
                  have ns238 := Nat.le_trans (by first | assumption | exact Nat.le_refl _ : wd.heap.size ≤ v220.heap.size) fr233.size
                  refine hK.out _ _ nh236 (fun _ => ?_)
                  clear hK K
                  go_simp
                  refine wpAnyH_take (i := 7) (v := ?_) rfl (by kernel_rfl) (by kernel_rfl) (by kernel_rfl) (fun _ _ _ h => h) (Or.inl ⟨by kernel_rfl, ?_⟩) nh236 ?_
                  rotate_left
                  focus (intro w' hSw; go_simp; (try with_reducible rfl))
                  try simp only [put_lit, List.set]
                  refine wpAnyH_ready (rs := [8]) (by kernel_rfl) (by simp) (AllReadyH.cons rfl (fun K hK => ?_) AllReadyH.nil)
                  · skip
                    refine want_pos (by kernel_rfl) ?_
                    have zs : v231.cell? ⟨w.heap.size, 4, none⟩ = some _ := nb235.blk.cell 4
                    have qs := nb235.blk.frozen 4
                    go_simp
                    refine hK.out _ _ (Blk.far nh236 (by show w.heap.size + 1 + 1 ≠ w.heap.size; omega) _) (fun _ => ?_)
                    clear hK K
                    try simp only [put_lit, List.set]
                    refine wpAnyH_done (by kernel_rfl) ?_ _
                    go_wp2_with (fail)
                    go_meet
                    exact past_fin nb235 hid hnp hle hk hltd own232
    · as_aux_lemma =>
        have z5 : w4.cell? ⟨w.heap.size, 5, none⟩ = some _ := bs.blk.cell 5
        have q5 := bs.blk.frozen 5
        go_wp2_with (fail)
        go_meet
        exact bs.set_dev n ⟨n0, n1⟩
    · as_aux_lemma =>
        have z6 : w4.cell? ⟨w.heap.size, 6, none⟩ = some _ := bs.blk.cell 6
        have q6 := bs.blk.frozen 6
        go_wp2_with (fail)
        go_meet
        exact bs.set_old n ⟨n0, n1⟩
    · as_aux_lemma =>
        have z7 : w4.cell? ⟨w.heap.size, 7, none⟩ = some _ := bs.blk.cell 7
        have q7 := bs.blk.frozen 7
        go_wp2_with (fail)
        go_meet
        exact bs.set_mem n ⟨n0, n1⟩
    · as_aux_lemma =>
        have z8 : w4.cell? ⟨w.heap.size, 8, none⟩ = some _ := bs.blk.cell 8
        have q8 := bs.blk.frozen 8
        go_wp2_with (fail)
        go_meet
        exact bs.set_role n ⟨n0, n1⟩
    · as_aux_lemma =>
        have pa := bs.at_.fr bs.fr (fun _ _ e => e)
        obtain ⟨np, hnp⟩ := hid_ex x.path.length
        have z0 : w4.cell? ⟨w.heap.size, 9, none⟩ = some (.slice x.pathA x.path.length x.pathC) := bs.blk.cell 9
        rw [hnp.out] at z0
        have z1 := cell_alloc z0 (.cells #[] 55)
        have hle : np ≤ k := by rw [← hnp.out]; exact (by have h := bs.few.path; rw [show x.op.path = x.path.map NdL.nd from rfl, List.length_map] at h; exact h)
        have rd : Rd w4 w.heap.size 2 x.pathA np (x.path.flatMap NdL.cells) := by rw [← hnp.out]; exact pa.path.1
        have hl0 := Own.litB w4 55 (size := 2) (n := 0) [] rfl (by omega)
        have hone : ∀ v ∈ x.path.flatMap NdL.cells, v.oneCell' = true := one_path _
        clear pa
        go_wp2_with (first
          | (at_builtin; go_loud (refine wpList_app (base := w4.heap.size) (.tmp 80) (.tmp 82) 24 rfl rfl rfl rfl slNd hl0 (rd.alloc (.cells #[] 55)) hone (by omega) (by omega) (by rw [World.size_alloc]; omega) ?_); intro A7 c7 w7 own7 fr7 hat7; have bs7 := (bs.alloc (.cells #[] 55)).step fr7 (fun j e => (by have e' : w4.heap.size = j := Option.some.inj e; omega)); have hs7 := fr7.size; rw [World.size_alloc] at hs7; rw [Nat.zero_add, List.nil_append] at own7; clear fr7 hat7)
          | (at_builtin; go_loud (refine wpList_app (base := w4.heap.size) (.tmp 83) (.tmp 86) 24 rfl rfl rfl rfl slNd (own7.alloc (.cells #[.int .u64 (u : Int), .slice none 0 0] 55)) (Rd.blk (n := 1) (size := 2) (Blk.new w7 55 #[.int .u64 (u : Int), .slice none 0 0]) rfl) (by simp [Value.oneCell']) (by omega) (by omega) (by rw [World.size_alloc]; omega) ?_); intro A8 c8 w8 own8 fr8 hat8; have bs8 := (bs7.alloc (.cells #[.int .u64 (u : Int), .slice none 0 0] 55)).step fr8 (fun j e => (by have := (own7.row j e).1; omega)); have z8 : w8.cell? ⟨w.heap.size, 9, none⟩ = some _ := bs8.blk.cell 9; have q8 := bs8.blk.frozen 9; clear fr8 hat8))
        go_meet
        have own8' : Own w8 w4.heap.size 55 2 A8 (np + 1) c8 ((x.path ++ [(⟨u, none, 0, []⟩ : NdL)]).flatMap NdL.cells) := by
          rw [List.flatMap_append, List.flatMap_cons, List.flatMap_nil, List.append_nil]
          exact own8
        have hl : (x.path ++ [(⟨u, none, 0, []⟩ : NdL)]).length = np + 1 := by rw [List.length_append, hnp.out]; rfl
        refine bs8.pathL (x.path ++ [(⟨u, none, 0, []⟩ : NdL)]) A8 (np + 1) c8 hl (by omega) hk ?_ (fun wz hz o => ⟨own_sl own8' (by omega) hz, fun y hy => by rcases List.mem_append.1 hy with hy | hy; exact o.nodes y hy; rw [List.mem_singleton.1 hy]; exact SlAt.nil _ _ _⟩)
        intro y hy
        rcases List.mem_append.1 hy with hy | hy
        · exact ⟨bs.ok.path.2 _ (List.mem_map_of_mem hy), bs.few.nodes _ (List.mem_map_of_mem hy)⟩
        · rw [List.mem_singleton.1 hy]
          exact ⟨⟨hu'.out, by show (0 : Nat) ≤ 1000; omega, fun b hb => by cases hb⟩, by show (0 : Nat) ≤ 20; omega⟩
    · as_aux_lemma =>
        have z9 : w4.cell? ⟨w.heap.size, 9, none⟩ = some _ := bs.blk.cell 9
        have q9 := bs.blk.frozen 9
        go_wp2_with (first
          | (go_loud (refine wpList_mk rfl (.tmp 91) 30 rfl slBx (n := fw) rfl rfl (by omega) (by omega) ?_); intro w7 own7 fr7; have bs7 := bs.step fr7 (fun _ e => e.elim); have bs8 := bs7.alloc (.cells #[.int .u64 1, .slice (some ⟨w4.heap.size, 0, none⟩) fw fw] 55); have z8 : (w7.alloc (.cells #[.int .u64 1, .slice (some ⟨w4.heap.size, 0, none⟩) fw fw] 55)).cell? ⟨w.heap.size, 9, none⟩ = some _ := bs8.blk.cell 9; have q8 := bs8.blk.frozen 9))
        go_meet
        have hs7 := fr7.size
        have own8 := Own.litB w7 55 (size := 2) (n := 1) [.int .u64 1, .slice (some ⟨w4.heap.size, 0, none⟩) fw fw] rfl (by omega)
        have hzb : (List.replicate fw (⟨0, 0, 0, 0⟩ : Bx)).length = fw := List.length_replicate ..
        have own7' : Own (w7.alloc (.cells #[.int .u64 1, .slice (some ⟨w4.heap.size, 0, none⟩) fw fw] 55)) w4.heap.size 60 4 (some ⟨w4.heap.size, 0, none⟩) fw fw ((List.replicate fw (⟨0, 0, 0, 0⟩ : Bx)).flatMap Bx.cells) := by
          rw [rep_flat fw _ (.int .u64 0) rfl, ← made_all #[.int .u64 0, .int .u64 0, .int .u64 0, .int .u64 0] (.int .u64 0) (fw * 4) (by decide) (fun i hi => by have h4 : i < 4 := hi; have : i = 0 ∨ i = 1 ∨ i = 2 ∨ i = 3 := (by omega); rcases this with rfl | rfl | rfl | rfl <;> rfl)]
          exact own7.alloc _
        have hnd : (⟨1, some ⟨w4.heap.size, 0, none⟩, fw, List.replicate fw (⟨0, 0, 0, 0⟩ : Bx)⟩ : NdL).cells = [.int .u64 1, .slice (some ⟨w4.heap.size, 0, none⟩) fw fw] := by show [_, Value.slice _ (List.replicate fw (⟨0, 0, 0, 0⟩ : Bx)).length _] = _; rw [hzb]; rfl
        refine bs8.pathL [⟨1, some ⟨w4.heap.size, 0, none⟩, fw, List.replicate fw (⟨0, 0, 0, 0⟩ : Bx)⟩] (some ⟨w7.heap.size, 0, none⟩) 1 1 rfl (by show 1 ≤ _; omega) hk ?_ (fun wz hz o => ⟨?_, ?_⟩)
        · intro y hy
          rw [List.mem_singleton.1 hy]
          exact ⟨⟨(by show (1 : Nat) < 18446744073709551616; decide), (by show (List.replicate fw (⟨0, 0, 0, 0⟩ : Bx)).length ≤ 1000; rw [hzb]; omega), fun b hb => by rw [(List.mem_replicate.1 hb).2]; exact ⟨by show (0 : Nat) < 18446744073709551616; decide, by show (0 : Nat) < 18446744073709551616; decide, by show (0 : Nat) < 18446744073709551616; decide, by show (0 : Nat) < 18446744073709551616; decide⟩⟩, by show (List.replicate fw (⟨0, 0, 0, 0⟩ : Bx)).length ≤ 20; rw [hzb]; omega⟩
        · rw [List.flatMap_cons, List.flatMap_nil, List.append_nil, hnd]
          exact own_sl own8 (by omega) hz
        · intro y hy
          rw [List.mem_singleton.1 hy]
          have q' : SlAt wz wz.heap.size 4 (some ⟨w4.heap.size, 0, none⟩) (List.replicate fw (⟨0, 0, 0, 0⟩ : Bx)).length fw ((List.replicate fw (⟨0, 0, 0, 0⟩ : Bx)).flatMap Bx.cells) := by rw [hzb]; exact own_sl own7' (by omega) hz
          exact q'
    · as_aux_lemma =>
        have z10 : w4.cell? ⟨w.heap.size, 10, none⟩ = some _ := bs.blk.cell 10
        have q10 := bs.blk.frozen 10
        have z11 : w4.cell? ⟨w.heap.size, 11, none⟩ = some _ := bs.blk.cell 11
        have q11 := bs.blk.frozen 11
        have z12 : w4.cell? ⟨w.heap.size, 12, none⟩ = some _ := bs.blk.cell 12
        have q12 := bs.blk.frozen 12
        have i0 : w4.cell? ⟨w.heap.size + 1 + 1, 0, none⟩ = some _ := hbi.cell 0
        have i1 : w4.cell? ⟨w.heap.size + 1 + 1, 1, none⟩ = some _ := hbi.cell 1
        have i2 : w4.cell? ⟨w.heap.size + 1 + 1, 2, none⟩ = some _ := hbi.cell 2
        go_wp2_with (fail)
        go_meet
        exact bs.set_epoch id hid
    · as_aux_lemma =>
        have z13 : w4.cell? ⟨w.heap.size, 13, none⟩ = some _ := bs.blk.cell 13
        have q13 := bs.blk.frozen 13
        go_wp2_with (fail)
        go_meet
        exact bs.set_n n ⟨n0, n1⟩
    · as_aux_lemma =>
        have z14 : w4.cell? ⟨w.heap.size, 14, none⟩ = some _ := bs.blk.cell 14
        have q14 := bs.blk.frozen 14
        go_wp2_with (first
          | (go_loud (refine wpList_mk rfl (.tmp 107) 28 rfl slB (n := 200 + fw) rfl (by omega) (by omega) (by omega) ?_); intro w7 own7 fr7; have bs7 := bs.step fr7 (fun _ e => e.elim); have z8 : w7.cell? ⟨w.heap.size, 14, none⟩ = some _ := bs7.blk.cell 14; have q8 := bs7.blk.frozen 14))
        go_meet
        have own7' : Own w7 w4.heap.size 5 1 (some ⟨w4.heap.size, 0, none⟩) (200 + fw) (200 + fw) ((List.replicate (200 + fw) (0 : UInt8)).map Bv) := by
          rw [rep_map, ← made_all #[.int .u8 0] (Bv 0) (200 + fw) (by decide) (fun i hi => by have h4 : i < 1 := hi; have : i = 0 := (by omega); subst this; rfl)]
          rw [Nat.mul_one] at own7
          exact own7
        exact bs7.bodyL (List.replicate (200 + fw) (0 : UInt8)) (some ⟨w4.heap.size, 0, none⟩) (200 + fw) (200 + fw) (List.length_replicate ..) (by rw [List.length_replicate]; omega) (fun wz hz o => own_sl own7' (by omega) hz)
    · as_aux_lemma =>
        have z15 : w4.cell? ⟨w.heap.size, 15, none⟩ = some _ := bs.blk.cell 15
        have q15 := bs.blk.frozen 15
        go_wp2_with (first
          | (go_loud (refine wpList_mk rfl (.tmp 112) 29 rfl slU64 (n := fw) rfl rfl (by omega) (by omega) ?_); intro w7 own7 fr7; have bs7 := bs.step fr7 (fun _ e => e.elim); have hs7 := fr7.size)
          | (at_builtin; go_loud (refine wpList_app (base := w4.heap.size) (.tmp 113) (.tmp 115) 29 rfl rfl rfl rfl slU64 (own7.alloc (.cells #[.int .u64 (u : Int)] 25)) (Rd.blk (n := 1) (size := 1) (Blk.new w7 25 #[.int .u64 (u : Int)]) rfl) (by simp [Value.oneCell']) (by omega) (by omega) (by rw [World.size_alloc]; omega) ?_); intro A8 c8 w8 own8 fr8 hat8; have bs8 := (bs7.alloc (.cells #[.int .u64 (u : Int)] 25)).step fr8 (fun j e => (by have := (own7.row j e).1; omega)); have z8 : w8.cell? ⟨w.heap.size, 15, none⟩ = some _ := bs8.blk.cell 15; have q8 := bs8.blk.frozen 15; clear fr8 hat8))
        go_meet
        have own8' : Own w8 w4.heap.size 25 1 A8 (fw + 1) c8 ((List.replicate fw (0 : Nat) ++ [u]).map Uv) := by
          rw [List.map_append, rep_map, ← made_all #[.int .u64 0] (Uv 0) fw (by decide) (fun i hi => by have h4 : i < 1 := hi; have : i = 0 := (by omega); subst this; rfl)]
          rw [Nat.mul_one] at own8
          exact own8
        have hl : (List.replicate fw (0 : Nat) ++ [u]).length = fw + 1 := by rw [List.length_append, List.length_replicate]; rfl
        refine bs8.refsL (List.replicate fw (0 : Nat) ++ [u]) A8 (fw + 1) c8 hl (by omega) hk ?_ (fun wz hz o => own_sl own8' (by omega) hz)
        intro y hy
        rcases List.mem_append.1 hy with hy | hy
        · rw [(List.mem_replicate.1 hy).2]; show (0 : Nat) < 18446744073709551616; decide
        · rw [List.mem_singleton.1 hy]
          exact hu'.out
    · as_aux_lemma =>
        have z16 : w4.cell? ⟨w.heap.size, 16, none⟩ = some _ := bs.blk.cell 16
        have q16 := bs.blk.frozen 16
        have z17 : w4.cell? ⟨w.heap.size, 17, none⟩ = some _ := bs.blk.cell 17
        have q17 := bs.blk.frozen 17
        have z18 : w4.cell? ⟨w.heap.size, 18, none⟩ = some _ := bs.blk.cell 18
        have q18 := bs.blk.frozen 18
        have i0 : w4.cell? ⟨w.heap.size + 1 + 1, 0, none⟩ = some _ := hbi.cell 0
        have i1 : w4.cell? ⟨w.heap.size + 1 + 1, 1, none⟩ = some _ := hbi.cell 1
        have i2 : w4.cell? ⟨w.heap.size + 1 + 1, 2, none⟩ = some _ := hbi.cell 2
        go_wp2_with (fail)
        go_meet
        exact bs.set_of id hid
    · as_aux_lemma =>
        have pa := bs.at_.fr bs.fr (fun _ _ e => e)
        obtain ⟨np, hnp⟩ := hid_ex x.guards.length
        have z0 : w4.cell? ⟨w.heap.size, 19, none⟩ = some (.slice x.guardsA x.guards.length x.guardsC) := bs.blk.cell 19
        rw [hnp.out] at z0
        have z1 := cell_alloc z0 (.cells #[] 3)
        have hle : np ≤ k := by rw [← hnp.out]; exact bs.few.guards
        have rd : Rd w4 w.heap.size 1 x.guardsA np (x.guards.map Iv) := by rw [← hnp.out]; exact pa.guards.1
        have hl0 := Own.litB w4 3 (size := 1) (n := 0) [] rfl (by omega)
        have hone : ∀ v ∈ x.guards.map Iv, v.oneCell' = true := one_guards _
        clear pa
        go_wp2_with (first
          | (at_builtin; go_loud (refine wpList_app (base := w4.heap.size) (.tmp 124) (.tmp 126) 22 rfl rfl rfl rfl slInt hl0 (rd.alloc (.cells #[] 3)) hone (by omega) (by omega) (by rw [World.size_alloc]; omega) ?_); intro A7 c7 w7 own7 fr7 hat7; have bs7 := (bs.alloc (.cells #[] 3)).step fr7 (fun j e => (by have e' : w4.heap.size = j := Option.some.inj e; omega)); have hs7 := fr7.size; rw [World.size_alloc] at hs7; rw [Nat.zero_add, List.nil_append] at own7; clear fr7 hat7)
          | (at_builtin; go_loud (refine wpList_app (base := w4.heap.size) (.tmp 127) (.tmp 129) 22 rfl rfl rfl rfl slInt (own7.alloc (.cells #[.int .i64 n] 3)) (Rd.blk (n := 1) (size := 1) (Blk.new w7 3 #[.int .i64 n]) rfl) (by simp [Value.oneCell']) (by omega) (by omega) (by rw [World.size_alloc]; omega) ?_); intro A8 c8 w8 own8 fr8 hat8; have bs8 := (bs7.alloc (.cells #[.int .i64 n] 3)).step fr8 (fun j e => (by have := (own7.row j e).1; omega)); have z8 : w8.cell? ⟨w.heap.size, 19, none⟩ = some _ := bs8.blk.cell 19; have q8 := bs8.blk.frozen 19; clear fr8 hat8))
        go_meet
        have own8' : Own w8 w4.heap.size 3 1 A8 (np + 1) c8 ((x.guards ++ [n]).map Iv) := by
          rw [List.map_append]
          exact own8
        have hl : (x.guards ++ [n]).length = np + 1 := by rw [List.length_append, hnp.out]; rfl
        refine bs8.guardsL (x.guards ++ [n]) A8 (np + 1) c8 hl (by omega) hk ?_ (fun wz hz o => own_sl own8' (by omega) hz)
        intro y hy
        rcases List.mem_append.1 hy with hy | hy
        · exact bs.ok.guards.2 _ hy
        · rw [List.mem_singleton.1 hy]
          exact ⟨n0, n1⟩
    · as_aux_lemma =>
        have z20 : w4.cell? ⟨w.heap.size, 20, none⟩ = some _ := bs.blk.cell 20
        have q20 := bs.blk.frozen 20
        go_wp2_with (fail)
        go_meet
        exact bs.set_need n ⟨n0, n1⟩
    · as_aux_lemma =>
        have z21 : w4.cell? ⟨w.heap.size, 21, none⟩ = some _ := bs.blk.cell 21
        have q21 := bs.blk.frozen 21
        go_wp2_with (fail)
        go_meet
        exact bs.set_wait n ⟨n0, n1⟩
    · as_aux_lemma =>
        have pa := bs.at_.fr bs.fr (fun _ _ e => e)
        obtain ⟨np, hnp⟩ := hid_ex x.boxes.length
        have z0 : w4.cell? ⟨w.heap.size, 22, none⟩ = some (.slice x.boxesA x.boxes.length x.boxesC) := bs.blk.cell 22
        rw [hnp.out] at z0
        have z1 := cell_alloc z0 (.cells #[] 60)
        have hle : np ≤ k := by rw [← hnp.out]; exact bs.few.boxes
        have rd : Rd w4 w.heap.size 4 x.boxesA np (x.boxes.flatMap Bx.cells) := by rw [← hnp.out]; exact pa.boxes.1
        have hl0 := Own.litB w4 60 (size := 4) (n := 0) [] rfl (by omega)
        have hone : ∀ v ∈ x.boxes.flatMap Bx.cells, v.oneCell' = true := one_boxes _
        clear pa
        go_wp2_with (first
          | (at_builtin; go_loud (refine wpList_app (base := w4.heap.size) (.tmp 142) (.tmp 144) 30 rfl rfl rfl rfl slBx hl0 (rd.alloc (.cells #[] 60)) hone (by omega) (by omega) (by rw [World.size_alloc]; omega) ?_); intro A7 c7 w7 own7 fr7 hat7; have bs7 := (bs.alloc (.cells #[] 60)).step fr7 (fun j e => (by have e' : w4.heap.size = j := Option.some.inj e; omega)); have hs7 := fr7.size; rw [World.size_alloc] at hs7; rw [Nat.zero_add, List.nil_append] at own7; clear fr7 hat7)
          | (at_builtin; go_loud (refine wpList_app (base := w4.heap.size) (.tmp 145) (.tmp 149) 30 rfl rfl rfl rfl slBx (own7.alloc (.cells #[.int .u64 (u : Int), .int .u64 1, .int .u64 (u : Int), .int .u64 1] 60)) (Rd.blk (n := 1) (size := 4) (Blk.new w7 60 #[.int .u64 (u : Int), .int .u64 1, .int .u64 (u : Int), .int .u64 1]) rfl) (by simp [Value.oneCell']) (by omega) (by omega) (by rw [World.size_alloc]; omega) ?_); intro A8 c8 w8 own8 fr8 hat8; have bs8 := (bs7.alloc (.cells #[.int .u64 (u : Int), .int .u64 1, .int .u64 (u : Int), .int .u64 1] 60)).step fr8 (fun j e => (by have := (own7.row j e).1; omega)); have z8 : w8.cell? ⟨w.heap.size, 22, none⟩ = some _ := bs8.blk.cell 22; have q8 := bs8.blk.frozen 22; clear fr8 hat8))
        go_meet
        have own8' : Own w8 w4.heap.size 60 4 A8 (np + 1) c8 ((x.boxes ++ [(⟨u, 1, u, 1⟩ : Bx)]).flatMap Bx.cells) := by
          rw [List.flatMap_append, List.flatMap_cons, List.flatMap_nil, List.append_nil]
          exact own8
        have hl : (x.boxes ++ [(⟨u, 1, u, 1⟩ : Bx)]).length = np + 1 := by rw [List.length_append, hnp.out]; rfl
        refine bs8.boxesL (x.boxes ++ [(⟨u, 1, u, 1⟩ : Bx)]) A8 (np + 1) c8 hl (by omega) hk ?_ (fun wz hz o => own_sl own8' (by omega) hz)
        intro y hy
        rcases List.mem_append.1 hy with hy | hy
        · exact bs.ok.boxes.2 _ hy
        · rw [List.mem_singleton.1 hy]
          exact ⟨hu'.out, (by show (1 : Nat) < 18446744073709551616; decide), hu'.out, (by show (1 : Nat) < 18446744073709551616; decide)⟩
    · as_aux_lemma =>
        have z23 : w4.cell? ⟨w.heap.size, 23, none⟩ = some _ := bs.blk.cell 23
        have q23 := bs.blk.frozen 23
        go_wp2_with (fail)
        go_meet
        exact bs.set_pub u hu'.out
    · as_aux_lemma =>
        have hfw : fw < 14 := by omega
        have e200 : IntKind.i64.wrap (200 + (fw : Int)) = 200 + (fw : Int) := IntWalk.i64_in _ (by omega)
        have pa := bs.at_.fr bs.fr (fun _ _ e => e)
        obtain ⟨np, hnp⟩ := hid_ex x.hist.length
        have z0 : w4.drew.cell? ⟨w.heap.size, 24, none⟩ = some (.slice x.histA x.hist.length x.histC) := bs.blk.cell 24
        rw [hnp.out] at z0
        have hle : np ≤ k := by rw [← hnp.out]; have h := bs.few.hist; rw [show x.op.hist = x.hist.map SlL.sl from rfl, List.length_map] at h; exact h
        have rd : Rd w4.drew w.heap.size 4 x.histA np (x.hist.flatMap SlL.cells) := by rw [← hnp.out]; exact pa.hist.1
        have hone := one_hist x.hist
        have bsd := bs.drew
        have hbd : Blk w4.drew (w.heap.size + 1 + 1) 27 #[.int .i64 id.b, .int .i64 id.s, .int .u64 (id.u : Int)] := hbi
        have hltd : w.heap.size + 2 < w4.drew.heap.size := hlt
        clear pa
        go_upto_region 7 with (fail)
        refine wp_region_held_drew (S := fun w' => Blk w' (w.heap.size + 1 + 1) 27 #[.int .i64 id.b, .int .i64 id.s, .int .u64 (id.u : Int)]) (by kernel_rfl) hbd (fun hHeld => ?_)
        clear hHeld
        generalize w4.drew = wd at bsd hbd z0 rd hltd ⊢
        refine wpAnyH_take (i := 1) (v := ?_) rfl (by kernel_rfl) (by kernel_rfl) (by kernel_rfl) (fun _ _ _ h => h) (Or.inl ⟨by kernel_rfl, ?_⟩) hbd ?_
        rotate_left
        focus (intro w' hSw; go_simp; (try with_reducible rfl))
        try simp only [put_lit, List.set]
        refine wpAnyH_take (i := 4) (v := ?_) rfl (by kernel_rfl) (by kernel_rfl) (by kernel_rfl) (fun _ _ _ h => h) (Or.inl ⟨by kernel_rfl, ?_⟩) hbd ?_
        rotate_left
        focus (intro w' hSw; have c0 : w'.cell? ⟨w.heap.size + 1 + 1, 0, none⟩ = some _ := Blk.cell hSw 0; have c1 : w'.cell? ⟨w.heap.size + 1 + 1, 1, none⟩ = some _ := Blk.cell hSw 1; have c2 : w'.cell? ⟨w.heap.size + 1 + 1, 2, none⟩ = some _ := Blk.cell hSw 2; go_simp; (try with_reducible rfl))
        try simp only [put_lit, List.set]
        refine wpAnyH_take (i := 5) (v := ?_) rfl (by kernel_rfl) (by kernel_rfl) (by kernel_rfl) (fun _ _ _ h => h) (Or.inl ⟨by kernel_rfl, ?_⟩) hbd ?_
        rotate_left
        focus (intro w' hSw; go_simp; (try with_reducible rfl))
        try simp only [put_lit, List.set]
        refine wpAnyH_take (i := 6) (v := ?_) rfl (by kernel_rfl) (by kernel_rfl) (by kernel_rfl) (fun _ _ _ h => h) (Or.inl ⟨by kernel_rfl, ?_⟩) hbd ?_
        rotate_left
        focus (intro w' hSw; go_simp; (try with_reducible rfl))
        try simp only [put_lit, List.set]
        refine wpAnyH_ready (rs := [0, 2, 7]) (by kernel_rfl) (by simp) (AllReadyH.cons rfl (fun K hK => ?_) (AllReadyH.cons rfl (fun K hK => ?_) (AllReadyH.cons rfl (fun K hK => ?_) AllReadyH.nil)))
        · skip
          refine want_pos (by kernel_rfl) ?_
          go_simp
          have nb1 := bsd.alloc (.cells #[] 58)
          have nh2 := Blk.alloc hbd (.cells #[] 58)
          have nz3 := cell_alloc z0 (.cells #[] 58)
          have nr4 := rd.alloc (.cells #[] 58)
          have ns5 : wd.heap.size ≤ (wd.alloc (.cells #[] 58)).heap.size := (by rw [World.size_alloc]; omega)
          have ne6 := (Own.litB wd 58 (size := 4) (n := 0) [] rfl (by omega)).lower (base' := wd.heap.size) (by first | assumption | exact Nat.le_refl _)
          refine hK.out _ _ nh2 (fun _ => ?_)
          clear hK K
          try simp only [put_lit, List.set]
          refine wpAnyH_ready (rs := [2, 7]) (by kernel_rfl) (by simp) (AllReadyH.cons rfl (fun K hK => ?_) (AllReadyH.cons rfl (fun K hK => ?_) AllReadyH.nil))
          · skip
            refine want_pos (by kernel_rfl) ?_
            have zl := nz3
            go_simp
            refine hK.out _ _ nh2 (fun _ => ?_)
            clear hK K
            try simp only [put_lit, List.set]
            refine wpAnyH_ready (rs := [3, 7]) (by kernel_rfl) (by simp) (AllReadyH.cons rfl (fun K hK => ?_) (AllReadyH.cons rfl (fun K hK => ?_) AllReadyH.nil))
            · skip
              refine step_app (base := wd.heap.size) (.tmp 24) (.tmp 26) 31 (by rfl) (by rfl) (by rfl) (by rfl) slSl ne6 nr4 hone (by omega) (by omega) (by first | assumption | exact Nat.le_refl _) ?_
              intro A7 c8 v9 own10 fr11 hat12
              have nb13 := nb1.step fr11 (fun j e => (by have := (ne6.row j e).1; omega))
              have nh14 := Blk.fr nh2 fr11 (fun e => (by have := (ne6.row _ e).1; omega))
              have nr15 := nr4.fr fr11 (fun j hj e => (by have := (ne6.row j e).1; omega))
              rw [Nat.zero_add, List.nil_append] at own10
              have ns16 := Nat.le_trans (by first | assumption | exact Nat.le_refl _ : wd.heap.size ≤ (wd.alloc (.cells #[] 58)).heap.size) fr11.size
              refine hK.out _ _ nh14 (fun _ => ?_)
              clear hK K
              go_simp
              refine wpAnyH_ready (rs := [7]) (by kernel_rfl) (by simp) (AllReadyH.cons rfl (fun K hK => ?_) AllReadyH.nil)
              · skip
                refine want_pos (by kernel_rfl) ?_
                refine oper_mk (.tmp 30) 28 rfl slB (n := 200 + fw) rfl (by omega) (by omega) (by omega) ?_
                intro v17 own18 fr19
                have nb20 := nb13.step fr19 (fun j e => e.elim)
                have nh21 := Blk.fr nh14 fr19 (fun e => e)
                have nr22 := nr15.fr fr19 (fun j hj e => e)
                have no23 := own10.fr fr19 (fun j hj e => e)
                have nx24 : v9.heap.size < v17.heap.size := (own18.row _ rfl).2
                have ns25 := Nat.le_trans (by first | assumption | exact Nat.le_refl _ : wd.heap.size ≤ v9.heap.size) fr19.size
                refine hK.out _ _ nh21 (fun _ => ?_)
                clear hK K
                go_simp
                refine wpAnyH_take (i := 8) (v := ?_) rfl (by kernel_rfl) (by kernel_rfl) (by kernel_rfl) (fun _ _ _ h => h) (Or.inl ⟨by kernel_rfl, ?_⟩) nh21 ?_
                rotate_left
                focus (intro w' hSw; go_simp; (try with_reducible rfl))
                try simp only [put_lit, List.set]
                refine wpAnyH_ready (rs := [9]) (by kernel_rfl) (by simp) (AllReadyH.cons rfl (fun K hK => ?_) AllReadyH.nil)
                · skip
                  refine want_pos (by kernel_rfl) ?_
                  go_simp
                  have nb26 := nb20.alloc (.cells #[.int .i64 id.b, .int .i64 id.s, .int .u64 (id.u : Int), .slice (some ⟨v9.heap.size, 0, none⟩) (200 + fw) (200 + fw)] 58)
                  have nh27 := Blk.alloc nh21 (.cells #[.int .i64 id.b, .int .i64 id.s, .int .u64 (id.u : Int), .slice (some ⟨v9.heap.size, 0, none⟩) (200 + fw) (200 + fw)] 58)
                  have nr28 := nr22.alloc (.cells #[.int .i64 id.b, .int .i64 id.s, .int .u64 (id.u : Int), .slice (some ⟨v9.heap.size, 0, none⟩) (200 + fw) (200 + fw)] 58)
                  have no29 := no23.alloc (.cells #[.int .i64 id.b, .int .i64 id.s, .int .u64 (id.u : Int), .slice (some ⟨v9.heap.size, 0, none⟩) (200 + fw) (200 + fw)] 58)
                  have no30 := own18.alloc (.cells #[.int .i64 id.b, .int .i64 id.s, .int .u64 (id.u : Int), .slice (some ⟨v9.heap.size, 0, none⟩) (200 + fw) (200 + fw)] 58)
                  have ns31 : wd.heap.size ≤ (v17.alloc (.cells #[.int .i64 id.b, .int .i64 id.s, .int .u64 (id.u : Int), .slice (some ⟨v9.heap.size, 0, none⟩) (200 + fw) (200 + fw)] 58)).heap.size := (by rw [World.size_alloc]; omega)
                  have nl32 := Blk.new v17 58 #[.int .i64 id.b, .int .i64 id.s, .int .u64 (id.u : Int), .slice (some ⟨v9.heap.size, 0, none⟩) (200 + fw) (200 + fw)]
                  refine hK.out _ _ nh27 (fun _ => ?_)
                  clear hK K
                  try simp only [put_lit, List.set]
                  refine wpAnyH_ready (rs := [10]) (by kernel_rfl) (by simp) (AllReadyH.cons rfl (fun K hK => ?_) AllReadyH.nil)
                  · skip
                    refine step_app (base := wd.heap.size) (.tmp 27) (.tmp 33) 31 (by rfl) (by rfl) (by rfl) (by rfl) slSl no29 (Rd.blk (n := 1) (size := 4) nl32 rfl) (by simp [Value.oneCell']) (by omega) (by omega) (by first | assumption | exact Nat.le_refl _) ?_
                    intro A33 c34 v35 own36 fr37 hat38
                    have nb39 := nb26.step fr37 (fun j e => (by have := (no29.row j e).1; omega))
                    have nh40 := Blk.fr nh27 fr37 (fun e => (by have := (no29.row _ e).1; omega))
                    have nr41 := nr28.fr fr37 (fun j hj e => (by have := (no29.row j e).1; omega))
                    have nm42 := no30.fr fr37 (fun j hj e => (by have e1 : v9.heap.size = j := Option.some.inj hj; have e2 := (own10.row j e).2; omega))
                    have ns43 := Nat.le_trans (by first | assumption | exact Nat.le_refl _ : wd.heap.size ≤ (v17.alloc (.cells #[.int .i64 id.b, .int .i64 id.s, .int .u64 (id.u : Int), .slice (some ⟨v9.heap.size, 0, none⟩) (200 + fw) (200 + fw)] 58)).heap.size) fr37.size
                    refine hK.out _ _ nh40 (fun _ => ?_)
                    clear hK K
                    go_simp
                    refine wpAnyH_take (i := 11) (v := ?_) rfl (by kernel_rfl) (by kernel_rfl) (by kernel_rfl) (fun _ _ _ h => h) (Or.inl ⟨by kernel_rfl, ?_⟩) nh40 ?_
                    rotate_left
                    focus (intro w' hSw; go_simp; (try with_reducible rfl))
                    try simp only [put_lit, List.set]
                    refine wpAnyH_ready (rs := [12]) (by kernel_rfl) (by simp) (AllReadyH.cons rfl (fun K hK => ?_) AllReadyH.nil)
                    · skip
                      refine want_pos (by kernel_rfl) ?_
                      have zs : v35.cell? ⟨w.heap.size, 24, none⟩ = some _ := nb39.blk.cell 24
                      have qs := nb39.blk.frozen 24
                      go_simp
                      refine hK.out _ _ (Blk.far nh40 (by show w.heap.size + 1 + 1 ≠ w.heap.size; omega) _) (fun _ => ?_)
                      clear hK K
                      try simp only [put_lit, List.set]
                      refine wpAnyH_done (by kernel_rfl) ?_ _
                      go_wp2_with (fail)
                      go_meet
                      exact hist_fin nb39 hid hnp hle hk hltd (by omega) hfw own36 nm42
            · skip
              refine want_pos (by kernel_rfl) ?_
              refine oper_mk (.tmp 30) 28 rfl slB (n := 200 + fw) rfl (by omega) (by omega) (by omega) ?_
              intro v44 own45 fr46
              have nb47 := nb1.step fr46 (fun j e => e.elim)
              have nh48 := Blk.fr nh2 fr46 (fun e => e)
              have nr49 := nr4.fr fr46 (fun j hj e => e)
              have no50 := ne6.fr fr46 (fun j hj e => e)
              simp only [World.size_alloc] at own45
              have nx51 : wd.heap.size + 1 < v44.heap.size := (own45.row _ rfl).2
              have ns52 := Nat.le_trans (by first | assumption | exact Nat.le_refl _ : wd.heap.size ≤ (wd.alloc (.cells #[] 58)).heap.size) fr46.size
              refine hK.out _ _ nh48 (fun _ => ?_)
              clear hK K
              go_simp
              refine wpAnyH_take (i := 8) (v := ?_) rfl (by kernel_rfl) (by kernel_rfl) (by kernel_rfl) (fun _ _ _ h => h) (Or.inl ⟨by kernel_rfl, ?_⟩) nh48 ?_
              rotate_left
              focus (intro w' hSw; go_simp; (try with_reducible rfl))
              try simp only [put_lit, List.set]
              refine wpAnyH_ready (rs := [3, 9]) (by kernel_rfl) (by simp) (AllReadyH.cons rfl (fun K hK => ?_) (AllReadyH.cons rfl (fun K hK => ?_) AllReadyH.nil))
              · skip
                refine step_app (base := wd.heap.size) (.tmp 24) (.tmp 26) 31 (by rfl) (by rfl) (by rfl) (by rfl) slSl no50 nr49 hone (by omega) (by omega) (by first | assumption | exact Nat.le_refl _) ?_
                intro A53 c54 v55 own56 fr57 hat58
                have nb59 := nb47.step fr57 (fun j e => (by have := (no50.row j e).1; omega))
                have nh60 := Blk.fr nh48 fr57 (fun e => (by have := (no50.row _ e).1; omega))
                have nr61 := nr49.fr fr57 (fun j hj e => (by have := (no50.row j e).1; omega))
                have nm62 := own45.fr fr57 (fun j hj e => (by have e1 : wd.heap.size + 1 = j := Option.some.inj hj; have e2 : wd.heap.size = j := Option.some.inj e; omega))
                rw [Nat.zero_add, List.nil_append] at own56
                have ns63 := Nat.le_trans (by first | assumption | exact Nat.le_refl _ : wd.heap.size ≤ v44.heap.size) fr57.size
                refine hK.out _ _ nh60 (fun _ => ?_)
                clear hK K
                go_simp
                refine wpAnyH_ready (rs := [9]) (by kernel_rfl) (by simp) (AllReadyH.cons rfl (fun K hK => ?_) AllReadyH.nil)
                · skip
                  refine want_pos (by kernel_rfl) ?_
                  go_simp
                  have nb64 := nb59.alloc (.cells #[.int .i64 id.b, .int .i64 id.s, .int .u64 (id.u : Int), .slice (some ⟨wd.heap.size + 1, 0, none⟩) (200 + fw) (200 + fw)] 58)
                  have nh65 := Blk.alloc nh60 (.cells #[.int .i64 id.b, .int .i64 id.s, .int .u64 (id.u : Int), .slice (some ⟨wd.heap.size + 1, 0, none⟩) (200 + fw) (200 + fw)] 58)
                  have nr66 := nr61.alloc (.cells #[.int .i64 id.b, .int .i64 id.s, .int .u64 (id.u : Int), .slice (some ⟨wd.heap.size + 1, 0, none⟩) (200 + fw) (200 + fw)] 58)
                  have no67 := own56.alloc (.cells #[.int .i64 id.b, .int .i64 id.s, .int .u64 (id.u : Int), .slice (some ⟨wd.heap.size + 1, 0, none⟩) (200 + fw) (200 + fw)] 58)
                  have no68 := nm62.alloc (.cells #[.int .i64 id.b, .int .i64 id.s, .int .u64 (id.u : Int), .slice (some ⟨wd.heap.size + 1, 0, none⟩) (200 + fw) (200 + fw)] 58)
                  have ns69 : wd.heap.size ≤ (v55.alloc (.cells #[.int .i64 id.b, .int .i64 id.s, .int .u64 (id.u : Int), .slice (some ⟨wd.heap.size + 1, 0, none⟩) (200 + fw) (200 + fw)] 58)).heap.size := (by rw [World.size_alloc]; omega)
                  have nl70 := Blk.new v55 58 #[.int .i64 id.b, .int .i64 id.s, .int .u64 (id.u : Int), .slice (some ⟨wd.heap.size + 1, 0, none⟩) (200 + fw) (200 + fw)]
                  refine hK.out _ _ nh65 (fun _ => ?_)
                  clear hK K
                  try simp only [put_lit, List.set]
                  refine wpAnyH_ready (rs := [10]) (by kernel_rfl) (by simp) (AllReadyH.cons rfl (fun K hK => ?_) AllReadyH.nil)
                  · skip
                    refine step_app (base := wd.heap.size) (.tmp 27) (.tmp 33) 31 (by rfl) (by rfl) (by rfl) (by rfl) slSl no67 (Rd.blk (n := 1) (size := 4) nl70 rfl) (by simp [Value.oneCell']) (by omega) (by omega) (by first | assumption | exact Nat.le_refl _) ?_
                    intro A71 c72 v73 own74 fr75 hat76
                    have nb77 := nb64.step fr75 (fun j e => (by have := (no67.row j e).1; omega))
                    have nh78 := Blk.fr nh65 fr75 (fun e => (by have := (no67.row _ e).1; omega))
                    have nr79 := nr66.fr fr75 (fun j hj e => (by have := (no67.row j e).1; omega))
                    have nm80 := no68.fr fr75 (fun j hj e => (by have e1 : wd.heap.size + 1 = j := Option.some.inj hj; rcases hat58 with h | h; (have e2 : wd.heap.size = j := Option.some.inj (h.symm.trans e); omega); (have e2 := Option.some.inj (h.symm.trans e); (try simp only [World.size_alloc] at e2); omega)))
                    have ns81 := Nat.le_trans (by first | assumption | exact Nat.le_refl _ : wd.heap.size ≤ (v55.alloc (.cells #[.int .i64 id.b, .int .i64 id.s, .int .u64 (id.u : Int), .slice (some ⟨wd.heap.size + 1, 0, none⟩) (200 + fw) (200 + fw)] 58)).heap.size) fr75.size
                    refine hK.out _ _ nh78 (fun _ => ?_)
                    clear hK K
                    go_simp
                    refine wpAnyH_take (i := 11) (v := ?_) rfl (by kernel_rfl) (by kernel_rfl) (by kernel_rfl) (fun _ _ _ h => h) (Or.inl ⟨by kernel_rfl, ?_⟩) nh78 ?_
                    rotate_left
                    focus (intro w' hSw; go_simp; (try with_reducible rfl))
                    try simp only [put_lit, List.set]
                    refine wpAnyH_ready (rs := [12]) (by kernel_rfl) (by simp) (AllReadyH.cons rfl (fun K hK => ?_) AllReadyH.nil)
                    · skip
                      refine want_pos (by kernel_rfl) ?_
                      have zs : v73.cell? ⟨w.heap.size, 24, none⟩ = some _ := nb77.blk.cell 24
                      have qs := nb77.blk.frozen 24
                      go_simp
                      refine hK.out _ _ (Blk.far nh78 (by show w.heap.size + 1 + 1 ≠ w.heap.size; omega) _) (fun _ => ?_)
                      clear hK K
                      try simp only [put_lit, List.set]
                      refine wpAnyH_done (by kernel_rfl) ?_ _
                      go_wp2_with (fail)
                      go_meet
                      exact hist_fin nb77 hid hnp hle hk hltd (by omega) hfw own74 nm80
              · skip
                refine want_pos (by kernel_rfl) ?_
                go_simp
                have nb82 := nb47.alloc (.cells #[.int .i64 id.b, .int .i64 id.s, .int .u64 (id.u : Int), .slice (some ⟨wd.heap.size + 1, 0, none⟩) (200 + fw) (200 + fw)] 58)
                have nh83 := Blk.alloc nh48 (.cells #[.int .i64 id.b, .int .i64 id.s, .int .u64 (id.u : Int), .slice (some ⟨wd.heap.size + 1, 0, none⟩) (200 + fw) (200 + fw)] 58)
                have nr84 := nr49.alloc (.cells #[.int .i64 id.b, .int .i64 id.s, .int .u64 (id.u : Int), .slice (some ⟨wd.heap.size + 1, 0, none⟩) (200 + fw) (200 + fw)] 58)
                have no85 := no50.alloc (.cells #[.int .i64 id.b, .int .i64 id.s, .int .u64 (id.u : Int), .slice (some ⟨wd.heap.size + 1, 0, none⟩) (200 + fw) (200 + fw)] 58)
                have no86 := own45.alloc (.cells #[.int .i64 id.b, .int .i64 id.s, .int .u64 (id.u : Int), .slice (some ⟨wd.heap.size + 1, 0, none⟩) (200 + fw) (200 + fw)] 58)
                have ns87 : wd.heap.size ≤ (v44.alloc (.cells #[.int .i64 id.b, .int .i64 id.s, .int .u64 (id.u : Int), .slice (some ⟨wd.heap.size + 1, 0, none⟩) (200 + fw) (200 + fw)] 58)).heap.size := (by rw [World.size_alloc]; omega)
                have nl88 := Blk.new v44 58 #[.int .i64 id.b, .int .i64 id.s, .int .u64 (id.u : Int), .slice (some ⟨wd.heap.size + 1, 0, none⟩) (200 + fw) (200 + fw)]
                refine hK.out _ _ nh83 (fun _ => ?_)
                clear hK K
                try simp only [put_lit, List.set]
                refine wpAnyH_ready (rs := [3]) (by kernel_rfl) (by simp) (AllReadyH.cons rfl (fun K hK => ?_) AllReadyH.nil)
                · skip
                  refine step_app (base := wd.heap.size) (.tmp 24) (.tmp 26) 31 (by rfl) (by rfl) (by rfl) (by rfl) slSl no85 nr84 hone (by omega) (by omega) (by first | assumption | exact Nat.le_refl _) ?_
                  intro A89 c90 v91 own92 fr93 hat94
                  have nb95 := nb82.step fr93 (fun j e => (by have := (no85.row j e).1; omega))
                  have nh96 := Blk.fr nh83 fr93 (fun e => (by have := (no85.row _ e).1; omega))
                  have nr97 := nr84.fr fr93 (fun j hj e => (by have := (no85.row j e).1; omega))
                  have nl98 := Blk.fr nl88 fr93 (fun e => (by have e' : wd.heap.size = v44.heap.size := Option.some.inj e; omega))
                  have nm99 := no86.fr fr93 (fun j hj e => (by have e1 : wd.heap.size + 1 = j := Option.some.inj hj; have e2 : wd.heap.size = j := Option.some.inj e; omega))
                  rw [Nat.zero_add, List.nil_append] at own92
                  have ns100 := Nat.le_trans (by first | assumption | exact Nat.le_refl _ : wd.heap.size ≤ (v44.alloc (.cells #[.int .i64 id.b, .int .i64 id.s, .int .u64 (id.u : Int), .slice (some ⟨wd.heap.size + 1, 0, none⟩) (200 + fw) (200 + fw)] 58)).heap.size) fr93.size
                  refine hK.out _ _ nh96 (fun _ => ?_)
                  clear hK K
                  go_simp
                  refine wpAnyH_ready (rs := [10]) (by kernel_rfl) (by simp) (AllReadyH.cons rfl (fun K hK => ?_) AllReadyH.nil)
                  · skip
                    refine step_app (base := wd.heap.size) (.tmp 27) (.tmp 33) 31 (by rfl) (by rfl) (by rfl) (by rfl) slSl own92 (Rd.blk (n := 1) (size := 4) nl98 rfl) (by simp [Value.oneCell']) (by omega) (by omega) (by first | assumption | exact Nat.le_refl _) ?_
                    intro A101 c102 v103 own104 fr105 hat106
                    have nb107 := nb95.step fr105 (fun j e => (by have := (own92.row j e).1; omega))
                    have nh108 := Blk.fr nh96 fr105 (fun e => (by have := (own92.row _ e).1; omega))
                    have nr109 := nr97.fr fr105 (fun j hj e => (by have := (own92.row j e).1; omega))
                    have nm110 := nm99.fr fr105 (fun j hj e => (by have e1 : wd.heap.size + 1 = j := Option.some.inj hj; rcases hat94 with h | h; (have e2 : wd.heap.size = j := Option.some.inj (h.symm.trans e); omega); (have e2 := Option.some.inj (h.symm.trans e); (try simp only [World.size_alloc] at e2); omega)))
                    have ns111 := Nat.le_trans (by first | assumption | exact Nat.le_refl _ : wd.heap.size ≤ v91.heap.size) fr105.size
                    refine hK.out _ _ nh108 (fun _ => ?_)
                    clear hK K
                    go_simp
                    refine wpAnyH_take (i := 11) (v := ?_) rfl (by kernel_rfl) (by kernel_rfl) (by kernel_rfl) (fun _ _ _ h => h) (Or.inl ⟨by kernel_rfl, ?_⟩) nh108 ?_
                    rotate_left
                    focus (intro w' hSw; go_simp; (try with_reducible rfl))
                    try simp only [put_lit, List.set]
                    refine wpAnyH_ready (rs := [12]) (by kernel_rfl) (by simp) (AllReadyH.cons rfl (fun K hK => ?_) AllReadyH.nil)
                    · skip
                      refine want_pos (by kernel_rfl) ?_
                      have zs : v103.cell? ⟨w.heap.size, 24, none⟩ = some _ := nb107.blk.cell 24
                      have qs := nb107.blk.frozen 24
                      go_simp
                      refine hK.out _ _ (Blk.far nh108 (by show w.heap.size + 1 + 1 ≠ w.heap.size; omega) _) (fun _ => ?_)
                      clear hK K
                      try simp only [put_lit, List.set]
                      refine wpAnyH_done (by kernel_rfl) ?_ _
                      go_wp2_with (fail)
                      go_meet
                      exact hist_fin nb107 hid hnp hle hk hltd (by omega) hfw own104 nm110
          · skip
            refine want_pos (by kernel_rfl) ?_
            refine oper_mk (.tmp 30) 28 rfl slB (n := 200 + fw) rfl (by omega) (by omega) (by omega) ?_
            intro v112 own113 fr114
            have nb115 := nb1.step fr114 (fun j e => e.elim)
            have nh116 := Blk.fr nh2 fr114 (fun e => e)
            have nz117 : v112.cell? ⟨w.heap.size, 24, none⟩ = some _ := fr114.cell nz3 (fun e => e)
            have nr118 := nr4.fr fr114 (fun j hj e => e)
            have no119 := ne6.fr fr114 (fun j hj e => e)
            simp only [World.size_alloc] at own113
            have nx120 : wd.heap.size + 1 < v112.heap.size := (own113.row _ rfl).2
            have ns121 := Nat.le_trans (by first | assumption | exact Nat.le_refl _ : wd.heap.size ≤ (wd.alloc (.cells #[] 58)).heap.size) fr114.size
            refine hK.out _ _ nh116 (fun _ => ?_)
            clear hK K
            go_simp
            refine wpAnyH_take (i := 8) (v := ?_) rfl (by kernel_rfl) (by kernel_rfl) (by kernel_rfl) (fun _ _ _ h => h) (Or.inl ⟨by kernel_rfl, ?_⟩) nh116 ?_
            rotate_left
            focus (intro w' hSw; go_simp; (try with_reducible rfl))
            try simp only [put_lit, List.set]
            refine wpAnyH_ready (rs := [2, 9]) (by kernel_rfl) (by simp) (AllReadyH.cons rfl (fun K hK => ?_) (AllReadyH.cons rfl (fun K hK => ?_) AllReadyH.nil))
            · skip
              refine want_pos (by kernel_rfl) ?_
              have zl := nz117
              go_simp
              refine hK.out _ _ nh116 (fun _ => ?_)
              clear hK K
              try simp only [put_lit, List.set]
              refine wpAnyH_ready (rs := [3, 9]) (by kernel_rfl) (by simp) (AllReadyH.cons rfl (fun K hK => ?_) (AllReadyH.cons rfl (fun K hK => ?_) AllReadyH.nil))
              · skip
                refine step_app (base := wd.heap.size) (.tmp 24) (.tmp 26) 31 (by rfl) (by rfl) (by rfl) (by rfl) slSl no119 nr118 hone (by omega) (by omega) (by first | assumption | exact Nat.le_refl _) ?_
                intro A122 c123 v124 own125 fr126 hat127
                have nb128 := nb115.step fr126 (fun j e => (by have := (no119.row j e).1; omega))
                have nh129 := Blk.fr nh116 fr126 (fun e => (by have := (no119.row _ e).1; omega))
                have nr130 := nr118.fr fr126 (fun j hj e => (by have := (no119.row j e).1; omega))
                have nm131 := own113.fr fr126 (fun j hj e => (by have e1 : wd.heap.size + 1 = j := Option.some.inj hj; have e2 : wd.heap.size = j := Option.some.inj e; omega))
                rw [Nat.zero_add, List.nil_append] at own125
                have ns132 := Nat.le_trans (by first | assumption | exact Nat.le_refl _ : wd.heap.size ≤ v112.heap.size) fr126.size
                refine hK.out _ _ nh129 (fun _ => ?_)
                clear hK K
                go_simp
                refine wpAnyH_ready (rs := [9]) (by kernel_rfl) (by simp) (AllReadyH.cons rfl (fun K hK => ?_) AllReadyH.nil)
                · skip
                  refine want_pos (by kernel_rfl) ?_
                  go_simp
                  have nb133 := nb128.alloc (.cells #[.int .i64 id.b, .int .i64 id.s, .int .u64 (id.u : Int), .slice (some ⟨wd.heap.size + 1, 0, none⟩) (200 + fw) (200 + fw)] 58)
                  have nh134 := Blk.alloc nh129 (.cells #[.int .i64 id.b, .int .i64 id.s, .int .u64 (id.u : Int), .slice (some ⟨wd.heap.size + 1, 0, none⟩) (200 + fw) (200 + fw)] 58)
                  have nr135 := nr130.alloc (.cells #[.int .i64 id.b, .int .i64 id.s, .int .u64 (id.u : Int), .slice (some ⟨wd.heap.size + 1, 0, none⟩) (200 + fw) (200 + fw)] 58)
                  have no136 := own125.alloc (.cells #[.int .i64 id.b, .int .i64 id.s, .int .u64 (id.u : Int), .slice (some ⟨wd.heap.size + 1, 0, none⟩) (200 + fw) (200 + fw)] 58)
                  have no137 := nm131.alloc (.cells #[.int .i64 id.b, .int .i64 id.s, .int .u64 (id.u : Int), .slice (some ⟨wd.heap.size + 1, 0, none⟩) (200 + fw) (200 + fw)] 58)
                  have ns138 : wd.heap.size ≤ (v124.alloc (.cells #[.int .i64 id.b, .int .i64 id.s, .int .u64 (id.u : Int), .slice (some ⟨wd.heap.size + 1, 0, none⟩) (200 + fw) (200 + fw)] 58)).heap.size := (by rw [World.size_alloc]; omega)
                  have nl139 := Blk.new v124 58 #[.int .i64 id.b, .int .i64 id.s, .int .u64 (id.u : Int), .slice (some ⟨wd.heap.size + 1, 0, none⟩) (200 + fw) (200 + fw)]
                  refine hK.out _ _ nh134 (fun _ => ?_)
                  clear hK K
                  try simp only [put_lit, List.set]
                  refine wpAnyH_ready (rs := [10]) (by kernel_rfl) (by simp) (AllReadyH.cons rfl (fun K hK => ?_) AllReadyH.nil)
                  · skip
                    refine step_app (base := wd.heap.size) (.tmp 27) (.tmp 33) 31 (by rfl) (by rfl) (by rfl) (by rfl) slSl no136 (Rd.blk (n := 1) (size := 4) nl139 rfl) (by simp [Value.oneCell']) (by omega) (by omega) (by first | assumption | exact Nat.le_refl _) ?_
                    intro A140 c141 v142 own143 fr144 hat145
                    have nb146 := nb133.step fr144 (fun j e => (by have := (no136.row j e).1; omega))
                    have nh147 := Blk.fr nh134 fr144 (fun e => (by have := (no136.row _ e).1; omega))
                    have nr148 := nr135.fr fr144 (fun j hj e => (by have := (no136.row j e).1; omega))
                    have nm149 := no137.fr fr144 (fun j hj e => (by have e1 : wd.heap.size + 1 = j := Option.some.inj hj; rcases hat127 with h | h; (have e2 : wd.heap.size = j := Option.some.inj (h.symm.trans e); omega); (have e2 := Option.some.inj (h.symm.trans e); (try simp only [World.size_alloc] at e2); omega)))
                    have ns150 := Nat.le_trans (by first | assumption | exact Nat.le_refl _ : wd.heap.size ≤ (v124.alloc (.cells #[.int .i64 id.b, .int .i64 id.s, .int .u64 (id.u : Int), .slice (some ⟨wd.heap.size + 1, 0, none⟩) (200 + fw) (200 + fw)] 58)).heap.size) fr144.size
                    refine hK.out _ _ nh147 (fun _ => ?_)
                    clear hK K
                    go_simp
                    refine wpAnyH_take (i := 11) (v := ?_) rfl (by kernel_rfl) (by kernel_rfl) (by kernel_rfl) (fun _ _ _ h => h) (Or.inl ⟨by kernel_rfl, ?_⟩) nh147 ?_
                    rotate_left
                    focus (intro w' hSw; go_simp; (try with_reducible rfl))
                    try simp only [put_lit, List.set]
                    refine wpAnyH_ready (rs := [12]) (by kernel_rfl) (by simp) (AllReadyH.cons rfl (fun K hK => ?_) AllReadyH.nil)
                    · skip
                      refine want_pos (by kernel_rfl) ?_
                      have zs : v142.cell? ⟨w.heap.size, 24, none⟩ = some _ := nb146.blk.cell 24
                      have qs := nb146.blk.frozen 24
                      go_simp
                      refine hK.out _ _ (Blk.far nh147 (by show w.heap.size + 1 + 1 ≠ w.heap.size; omega) _) (fun _ => ?_)
                      clear hK K
                      try simp only [put_lit, List.set]
                      refine wpAnyH_done (by kernel_rfl) ?_ _
                      go_wp2_with (fail)
                      go_meet
                      exact hist_fin nb146 hid hnp hle hk hltd (by omega) hfw own143 nm149
              · skip
                refine want_pos (by kernel_rfl) ?_
                go_simp
                have nb151 := nb115.alloc (.cells #[.int .i64 id.b, .int .i64 id.s, .int .u64 (id.u : Int), .slice (some ⟨wd.heap.size + 1, 0, none⟩) (200 + fw) (200 + fw)] 58)
                have nh152 := Blk.alloc nh116 (.cells #[.int .i64 id.b, .int .i64 id.s, .int .u64 (id.u : Int), .slice (some ⟨wd.heap.size + 1, 0, none⟩) (200 + fw) (200 + fw)] 58)
                have nr153 := nr118.alloc (.cells #[.int .i64 id.b, .int .i64 id.s, .int .u64 (id.u : Int), .slice (some ⟨wd.heap.size + 1, 0, none⟩) (200 + fw) (200 + fw)] 58)
                have no154 := no119.alloc (.cells #[.int .i64 id.b, .int .i64 id.s, .int .u64 (id.u : Int), .slice (some ⟨wd.heap.size + 1, 0, none⟩) (200 + fw) (200 + fw)] 58)
                have no155 := own113.alloc (.cells #[.int .i64 id.b, .int .i64 id.s, .int .u64 (id.u : Int), .slice (some ⟨wd.heap.size + 1, 0, none⟩) (200 + fw) (200 + fw)] 58)
                have ns156 : wd.heap.size ≤ (v112.alloc (.cells #[.int .i64 id.b, .int .i64 id.s, .int .u64 (id.u : Int), .slice (some ⟨wd.heap.size + 1, 0, none⟩) (200 + fw) (200 + fw)] 58)).heap.size := (by rw [World.size_alloc]; omega)
                have nl157 := Blk.new v112 58 #[.int .i64 id.b, .int .i64 id.s, .int .u64 (id.u : Int), .slice (some ⟨wd.heap.size + 1, 0, none⟩) (200 + fw) (200 + fw)]
                refine hK.out _ _ nh152 (fun _ => ?_)
                clear hK K
                try simp only [put_lit, List.set]
                refine wpAnyH_ready (rs := [3]) (by kernel_rfl) (by simp) (AllReadyH.cons rfl (fun K hK => ?_) AllReadyH.nil)
                · skip
                  refine step_app (base := wd.heap.size) (.tmp 24) (.tmp 26) 31 (by rfl) (by rfl) (by rfl) (by rfl) slSl no154 nr153 hone (by omega) (by omega) (by first | assumption | exact Nat.le_refl _) ?_
                  intro A158 c159 v160 own161 fr162 hat163
                  have nb164 := nb151.step fr162 (fun j e => (by have := (no154.row j e).1; omega))
                  have nh165 := Blk.fr nh152 fr162 (fun e => (by have := (no154.row _ e).1; omega))
                  have nr166 := nr153.fr fr162 (fun j hj e => (by have := (no154.row j e).1; omega))
                  have nl167 := Blk.fr nl157 fr162 (fun e => (by have e' : wd.heap.size = v112.heap.size := Option.some.inj e; omega))
                  have nm168 := no155.fr fr162 (fun j hj e => (by have e1 : wd.heap.size + 1 = j := Option.some.inj hj; have e2 : wd.heap.size = j := Option.some.inj e; omega))
                  rw [Nat.zero_add, List.nil_append] at own161
                  have ns169 := Nat.le_trans (by first | assumption | exact Nat.le_refl _ : wd.heap.size ≤ (v112.alloc (.cells #[.int .i64 id.b, .int .i64 id.s, .int .u64 (id.u : Int), .slice (some ⟨wd.heap.size + 1, 0, none⟩) (200 + fw) (200 + fw)] 58)).heap.size) fr162.size
                  refine hK.out _ _ nh165 (fun _ => ?_)
                  clear hK K
                  go_simp
                  refine wpAnyH_ready (rs := [10]) (by kernel_rfl) (by simp) (AllReadyH.cons rfl (fun K hK => ?_) AllReadyH.nil)
                  · skip
                    refine step_app (base := wd.heap.size) (.tmp 27) (.tmp 33) 31 (by rfl) (by rfl) (by rfl) (by rfl) slSl own161 (Rd.blk (n := 1) (size := 4) nl167 rfl) (by simp [Value.oneCell']) (by omega) (by omega) (by first | assumption | exact Nat.le_refl _) ?_
                    intro A170 c171 v172 own173 fr174 hat175
                    have nb176 := nb164.step fr174 (fun j e => (by have := (own161.row j e).1; omega))
                    have nh177 := Blk.fr nh165 fr174 (fun e => (by have := (own161.row _ e).1; omega))
                    have nr178 := nr166.fr fr174 (fun j hj e => (by have := (own161.row j e).1; omega))
                    have nm179 := nm168.fr fr174 (fun j hj e => (by have e1 : wd.heap.size + 1 = j := Option.some.inj hj; rcases hat163 with h | h; (have e2 : wd.heap.size = j := Option.some.inj (h.symm.trans e); omega); (have e2 := Option.some.inj (h.symm.trans e); (try simp only [World.size_alloc] at e2); omega)))
                    have ns180 := Nat.le_trans (by first | assumption | exact Nat.le_refl _ : wd.heap.size ≤ v160.heap.size) fr174.size
                    refine hK.out _ _ nh177 (fun _ => ?_)
                    clear hK K
                    go_simp
                    refine wpAnyH_take (i := 11) (v := ?_) rfl (by kernel_rfl) (by kernel_rfl) (by kernel_rfl) (fun _ _ _ h => h) (Or.inl ⟨by kernel_rfl, ?_⟩) nh177 ?_
                    rotate_left
                    focus (intro w' hSw; go_simp; (try with_reducible rfl))
                    try simp only [put_lit, List.set]
                    refine wpAnyH_ready (rs := [12]) (by kernel_rfl) (by simp) (AllReadyH.cons rfl (fun K hK => ?_) AllReadyH.nil)
                    · skip
                      refine want_pos (by kernel_rfl) ?_
                      have zs : v172.cell? ⟨w.heap.size, 24, none⟩ = some _ := nb176.blk.cell 24
                      have qs := nb176.blk.frozen 24
                      go_simp
                      refine hK.out _ _ (Blk.far nh177 (by show w.heap.size + 1 + 1 ≠ w.heap.size; omega) _) (fun _ => ?_)
                      clear hK K
                      try simp only [put_lit, List.set]
                      refine wpAnyH_done (by kernel_rfl) ?_ _
                      go_wp2_with (fail)
                      go_meet
                      exact hist_fin nb176 hid hnp hle hk hltd (by omega) hfw own173 nm179
            · skip
              refine want_pos (by kernel_rfl) ?_
              go_simp
              have nb181 := nb115.alloc (.cells #[.int .i64 id.b, .int .i64 id.s, .int .u64 (id.u : Int), .slice (some ⟨wd.heap.size + 1, 0, none⟩) (200 + fw) (200 + fw)] 58)
              have nh182 := Blk.alloc nh116 (.cells #[.int .i64 id.b, .int .i64 id.s, .int .u64 (id.u : Int), .slice (some ⟨wd.heap.size + 1, 0, none⟩) (200 + fw) (200 + fw)] 58)
              have nz183 := cell_alloc nz117 (.cells #[.int .i64 id.b, .int .i64 id.s, .int .u64 (id.u : Int), .slice (some ⟨wd.heap.size + 1, 0, none⟩) (200 + fw) (200 + fw)] 58)
              have nr184 := nr118.alloc (.cells #[.int .i64 id.b, .int .i64 id.s, .int .u64 (id.u : Int), .slice (some ⟨wd.heap.size + 1, 0, none⟩) (200 + fw) (200 + fw)] 58)
              have no185 := no119.alloc (.cells #[.int .i64 id.b, .int .i64 id.s, .int .u64 (id.u : Int), .slice (some ⟨wd.heap.size + 1, 0, none⟩) (200 + fw) (200 + fw)] 58)
              have no186 := own113.alloc (.cells #[.int .i64 id.b, .int .i64 id.s, .int .u64 (id.u : Int), .slice (some ⟨wd.heap.size + 1, 0, none⟩) (200 + fw) (200 + fw)] 58)
              have ns187 : wd.heap.size ≤ (v112.alloc (.cells #[.int .i64 id.b, .int .i64 id.s, .int .u64 (id.u : Int), .slice (some ⟨wd.heap.size + 1, 0, none⟩) (200 + fw) (200 + fw)] 58)).heap.size := (by rw [World.size_alloc]; omega)
              have nl188 := Blk.new v112 58 #[.int .i64 id.b, .int .i64 id.s, .int .u64 (id.u : Int), .slice (some ⟨wd.heap.size + 1, 0, none⟩) (200 + fw) (200 + fw)]
              refine hK.out _ _ nh182 (fun _ => ?_)
              clear hK K
              try simp only [put_lit, List.set]
              refine wpAnyH_ready (rs := [2]) (by kernel_rfl) (by simp) (AllReadyH.cons rfl (fun K hK => ?_) AllReadyH.nil)
              · skip
                refine want_pos (by kernel_rfl) ?_
                have zl := nz183
                go_simp
                refine hK.out _ _ nh182 (fun _ => ?_)
                clear hK K
                try simp only [put_lit, List.set]
                refine wpAnyH_ready (rs := [3]) (by kernel_rfl) (by simp) (AllReadyH.cons rfl (fun K hK => ?_) AllReadyH.nil)
                · skip
                  refine step_app (base := wd.heap.size) (.tmp 24) (.tmp 26) 31 (by rfl) (by rfl) (by rfl) (by rfl) slSl no185 nr184 hone (by omega) (by omega) (by first | assumption | exact Nat.le_refl _) ?_
                  intro A189 c190 v191 own192 fr193 hat194
                  have nb195 := nb181.step fr193 (fun j e => (by have := (no185.row j e).1; omega))
                  have nh196 := Blk.fr nh182 fr193 (fun e => (by have := (no185.row _ e).1; omega))
                  have nr197 := nr184.fr fr193 (fun j hj e => (by have := (no185.row j e).1; omega))
                  have nl198 := Blk.fr nl188 fr193 (fun e => (by have e' : wd.heap.size = v112.heap.size := Option.some.inj e; omega))
                  have nm199 := no186.fr fr193 (fun j hj e => (by have e1 : wd.heap.size + 1 = j := Option.some.inj hj; have e2 : wd.heap.size = j := Option.some.inj e; omega))
                  rw [Nat.zero_add, List.nil_append] at own192
                  have ns200 := Nat.le_trans (by first | assumption | exact Nat.le_refl _ : wd.heap.size ≤ (v112.alloc (.cells #[.int .i64 id.b, .int .i64 id.s, .int .u64 (id.u : Int), .slice (some ⟨wd.heap.size + 1, 0, none⟩) (200 + fw) (200 + fw)] 58)).heap.size) fr193.size
                  refine hK.out _ _ nh196 (fun _ => ?_)
                  clear hK K
                  go_simp
                  refine wpAnyH_ready (rs := [10]) (by kernel_rfl) (by simp) (AllReadyH.cons rfl (fun K hK => ?_) AllReadyH.nil)
                  · skip
                    refine step_app (base := wd.heap.size) (.tmp 27) (.tmp 33) 31 (by rfl) (by rfl) (by rfl) (by rfl) slSl own192 (Rd.blk (n := 1) (size := 4) nl198 rfl) (by simp [Value.oneCell']) (by omega) (by omega) (by first | assumption | exact Nat.le_refl _) ?_
                    intro A201 c202 v203 own204 fr205 hat206
                    have nb207 := nb195.step fr205 (fun j e => (by have := (own192.row j e).1; omega))
                    have nh208 := Blk.fr nh196 fr205 (fun e => (by have := (own192.row _ e).1; omega))
                    have nr209 := nr197.fr fr205 (fun j hj e => (by have := (own192.row j e).1; omega))
                    have nm210 := nm199.fr fr205 (fun j hj e => (by have e1 : wd.heap.size + 1 = j := Option.some.inj hj; rcases hat194 with h | h; (have e2 : wd.heap.size = j := Option.some.inj (h.symm.trans e); omega); (have e2 := Option.some.inj (h.symm.trans e); (try simp only [World.size_alloc] at e2); omega)))
                    have ns211 := Nat.le_trans (by first | assumption | exact Nat.le_refl _ : wd.heap.size ≤ v191.heap.size) fr205.size
                    refine hK.out _ _ nh208 (fun _ => ?_)
                    clear hK K
                    go_simp
                    refine wpAnyH_take (i := 11) (v := ?_) rfl (by kernel_rfl) (by kernel_rfl) (by kernel_rfl) (fun _ _ _ h => h) (Or.inl ⟨by kernel_rfl, ?_⟩) nh208 ?_
                    rotate_left
                    focus (intro w' hSw; go_simp; (try with_reducible rfl))
                    try simp only [put_lit, List.set]
                    refine wpAnyH_ready (rs := [12]) (by kernel_rfl) (by simp) (AllReadyH.cons rfl (fun K hK => ?_) AllReadyH.nil)
                    · skip
                      refine want_pos (by kernel_rfl) ?_
                      have zs : v203.cell? ⟨w.heap.size, 24, none⟩ = some _ := nb207.blk.cell 24
                      have qs := nb207.blk.frozen 24
                      go_simp
                      refine hK.out _ _ (Blk.far nh208 (by show w.heap.size + 1 + 1 ≠ w.heap.size; omega) _) (fun _ => ?_)
                      clear hK K
                      try simp only [put_lit, List.set]
                      refine wpAnyH_done (by kernel_rfl) ?_ _
                      go_wp2_with (fail)
                      go_meet
                      exact hist_fin nb207 hid hnp hle hk hltd (by omega) hfw own204 nm210
        · skip
          refine want_pos (by kernel_rfl) ?_
          have zl := z0
          go_simp
          refine hK.out _ _ hbd (fun _ => ?_)
          clear hK K
          try simp only [put_lit, List.set]
          refine wpAnyH_ready (rs := [0, 7]) (by kernel_rfl) (by simp) (AllReadyH.cons rfl (fun K hK => ?_) (AllReadyH.cons rfl (fun K hK => ?_) AllReadyH.nil))
          · skip
            refine want_pos (by kernel_rfl) ?_
            go_simp
            have nb212 := bsd.alloc (.cells #[] 58)
            have nh213 := Blk.alloc hbd (.cells #[] 58)
            have nr214 := rd.alloc (.cells #[] 58)
            have ns215 : wd.heap.size ≤ (wd.alloc (.cells #[] 58)).heap.size := (by rw [World.size_alloc]; omega)
            have ne216 := (Own.litB wd 58 (size := 4) (n := 0) [] rfl (by omega)).lower (base' := wd.heap.size) (by first | assumption | exact Nat.le_refl _)
            refine hK.out _ _ nh213 (fun _ => ?_)
            clear hK K
            try simp only [put_lit, List.set]
            refine wpAnyH_ready (rs := [3, 7]) (by kernel_rfl) (by simp) (AllReadyH.cons rfl (fun K hK => ?_) (AllReadyH.cons rfl (fun K hK => ?_) AllReadyH.nil))
            · skip
              refine step_app (base := wd.heap.size) (.tmp 24) (.tmp 26) 31 (by rfl) (by rfl) (by rfl) (by rfl) slSl ne216 nr214 hone (by omega) (by omega) (by first | assumption | exact Nat.le_refl _) ?_
              intro A217 c218 v219 own220 fr221 hat222
              have nb223 := nb212.step fr221 (fun j e => (by have := (ne216.row j e).1; omega))
              have nh224 := Blk.fr nh213 fr221 (fun e => (by have := (ne216.row _ e).1; omega))
              have nr225 := nr214.fr fr221 (fun j hj e => (by have := (ne216.row j e).1; omega))
              rw [Nat.zero_add, List.nil_append] at own220
              have ns226 := Nat.le_trans (by first | assumption | exact Nat.le_refl _ : wd.heap.size ≤ (wd.alloc (.cells #[] 58)).heap.size) fr221.size
              refine hK.out _ _ nh224 (fun _ => ?_)
              clear hK K
              go_simp
              refine wpAnyH_ready (rs := [7]) (by kernel_rfl) (by simp) (AllReadyH.cons rfl (fun K hK => ?_) AllReadyH.nil)
              · skip
                refine want_pos (by kernel_rfl) ?_
                refine oper_mk (.tmp 30) 28 rfl slB (n := 200 + fw) rfl (by omega) (by omega) (by omega) ?_
                intro v227 own228 fr229
                have nb230 := nb223.step fr229 (fun j e => e.elim)
                have nh231 := Blk.fr nh224 fr229 (fun e => e)
                have nr232 := nr225.fr fr229 (fun j hj e => e)
                have no233 := own220.fr fr229 (fun j hj e => e)
                have nx234 : v219.heap.size < v227.heap.size := (own228.row _ rfl).2
                have ns235 := Nat.le_trans (by first | assumption | exact Nat.le_refl _ : wd.heap.size ≤ v219.heap.size) fr229.size
                refine hK.out _ _ nh231 (fun _ => ?_)
                clear hK K
                go_simp
                refine wpAnyH_take (i := 8) (v := ?_) rfl (by kernel_rfl) (by kernel_rfl) (by kernel_rfl) (fun _ _ _ h => h) (Or.inl ⟨by kernel_rfl, ?_⟩) nh231 ?_
                rotate_left
                focus (intro w' hSw; go_simp; (try with_reducible rfl))
                try simp only [put_lit, List.set]
                refine wpAnyH_ready (rs := [9]) (by kernel_rfl) (by simp) (AllReadyH.cons rfl (fun K hK => ?_) AllReadyH.nil)
                · skip
                  refine want_pos (by kernel_rfl) ?_
                  go_simp
                  have nb236 := nb230.alloc (.cells #[.int .i64 id.b, .int .i64 id.s, .int .u64 (id.u : Int), .slice (some ⟨v219.heap.size, 0, none⟩) (200 + fw) (200 + fw)] 58)
                  have nh237 := Blk.alloc nh231 (.cells #[.int .i64 id.b, .int .i64 id.s, .int .u64 (id.u : Int), .slice (some ⟨v219.heap.size, 0, none⟩) (200 + fw) (200 + fw)] 58)
                  have nr238 := nr232.alloc (.cells #[.int .i64 id.b, .int .i64 id.s, .int .u64 (id.u : Int), .slice (some ⟨v219.heap.size, 0, none⟩) (200 + fw) (200 + fw)] 58)
                  have no239 := no233.alloc (.cells #[.int .i64 id.b, .int .i64 id.s, .int .u64 (id.u : Int), .slice (some ⟨v219.heap.size, 0, none⟩) (200 + fw) (200 + fw)] 58)
                  have no240 := own228.alloc (.cells #[.int .i64 id.b, .int .i64 id.s, .int .u64 (id.u : Int), .slice (some ⟨v219.heap.size, 0, none⟩) (200 + fw) (200 + fw)] 58)
                  have ns241 : wd.heap.size ≤ (v227.alloc (.cells #[.int .i64 id.b, .int .i64 id.s, .int .u64 (id.u : Int), .slice (some ⟨v219.heap.size, 0, none⟩) (200 + fw) (200 + fw)] 58)).heap.size := (by rw [World.size_alloc]; omega)
                  have nl242 := Blk.new v227 58 #[.int .i64 id.b, .int .i64 id.s, .int .u64 (id.u : Int), .slice (some ⟨v219.heap.size, 0, none⟩) (200 + fw) (200 + fw)]
                  refine hK.out _ _ nh237 (fun _ => ?_)
                  clear hK K
                  try simp only [put_lit, List.set]
                  refine wpAnyH_ready (rs := [10]) (by kernel_rfl) (by simp) (AllReadyH.cons rfl (fun K hK => ?_) AllReadyH.nil)
                  · skip
                    refine step_app (base := wd.heap.size) (.tmp 27) (.tmp 33) 31 (by rfl) (by rfl) (by rfl) (by rfl) slSl no239 (Rd.blk (n := 1) (size := 4) nl242 rfl) (by simp [Value.oneCell']) (by omega) (by omega) (by first | assumption | exact Nat.le_refl _) ?_
                    intro A243 c244 v245 own246 fr247 hat248
                    have nb249 := nb236.step fr247 (fun j e => (by have := (no239.row j e).1; omega))
                    have nh250 := Blk.fr nh237 fr247 (fun e => (by have := (no239.row _ e).1; omega))
                    have nr251 := nr238.fr fr247 (fun j hj e => (by have := (no239.row j e).1; omega))
                    have nm252 := no240.fr fr247 (fun j hj e => (by have e1 : v219.heap.size = j := Option.some.inj hj; have e2 := (own220.row j e).2; omega))
                    have ns253 := Nat.le_trans (by first | assumption | exact Nat.le_refl _ : wd.heap.size ≤ (v227.alloc (.cells #[.int .i64 id.b, .int .i64 id.s, .int .u64 (id.u : Int), .slice (some ⟨v219.heap.size, 0, none⟩) (200 + fw) (200 + fw)] 58)).heap.size) fr247.size
                    refine hK.out _ _ nh250 (fun _ => ?_)
                    clear hK K
                    go_simp
                    refine wpAnyH_take (i := 11) (v := ?_) rfl (by kernel_rfl) (by kernel_rfl) (by kernel_rfl) (fun _ _ _ h => h) (Or.inl ⟨by kernel_rfl, ?_⟩) nh250 ?_
                    rotate_left
                    focus (intro w' hSw; go_simp; (try with_reducible rfl))
                    try simp only [put_lit, List.set]
                    refine wpAnyH_ready (rs := [12]) (by kernel_rfl) (by simp) (AllReadyH.cons rfl (fun K hK => ?_) AllReadyH.nil)
                    · skip
                      refine want_pos (by kernel_rfl) ?_
                      have zs : v245.cell? ⟨w.heap.size, 24, none⟩ = some _ := nb249.blk.cell 24
                      have qs := nb249.blk.frozen 24
                      go_simp
                      refine hK.out _ _ (Blk.far nh250 (by show w.heap.size + 1 + 1 ≠ w.heap.size; omega) _) (fun _ => ?_)
                      clear hK K
                      try simp only [put_lit, List.set]
                      refine wpAnyH_done (by kernel_rfl) ?_ _
                      go_wp2_with (fail)
                      go_meet
                      exact hist_fin nb249 hid hnp hle hk hltd (by omega) hfw own246 nm252
            · skip
              refine want_pos (by kernel_rfl) ?_
              refine oper_mk (.tmp 30) 28 rfl slB (n := 200 + fw) rfl (by omega) (by omega) (by omega) ?_
              intro v254 own255 fr256
              have nb257 := nb212.step fr256 (fun j e => e.elim)
              have nh258 := Blk.fr nh213 fr256 (fun e => e)
              have nr259 := nr214.fr fr256 (fun j hj e => e)
              have no260 := ne216.fr fr256 (fun j hj e => e)
              simp only [World.size_alloc] at own255
              have nx261 : wd.heap.size + 1 < v254.heap.size := (own255.row _ rfl).2
              have ns262 := Nat.le_trans (by first | assumption | exact Nat.le_refl _ : wd.heap.size ≤ (wd.alloc (.cells #[] 58)).heap.size) fr256.size
              refine hK.out _ _ nh258 (fun _ => ?_)
              clear hK K
              go_simp
              refine wpAnyH_take (i := 8) (v := ?_) rfl (by kernel_rfl) (by kernel_rfl) (by kernel_rfl) (fun _ _ _ h => h) (Or.inl ⟨by kernel_rfl, ?_⟩) nh258 ?_
              rotate_left
              focus (intro w' hSw; go_simp; (try with_reducible rfl))
              try simp only [put_lit, List.set]
              refine wpAnyH_ready (rs := [3, 9]) (by kernel_rfl) (by simp) (AllReadyH.cons rfl (fun K hK => ?_) (AllReadyH.cons rfl (fun K hK => ?_) AllReadyH.nil))
              · skip
                refine step_app (base := wd.heap.size) (.tmp 24) (.tmp 26) 31 (by rfl) (by rfl) (by rfl) (by rfl) slSl no260 nr259 hone (by omega) (by omega) (by first | assumption | exact Nat.le_refl _) ?_
                intro A263 c264 v265 own266 fr267 hat268
                have nb269 := nb257.step fr267 (fun j e => (by have := (no260.row j e).1; omega))
                have nh270 := Blk.fr nh258 fr267 (fun e => (by have := (no260.row _ e).1; omega))
                have nr271 := nr259.fr fr267 (fun j hj e => (by have := (no260.row j e).1; omega))
                have nm272 := own255.fr fr267 (fun j hj e => (by have e1 : wd.heap.size + 1 = j := Option.some.inj hj; have e2 : wd.heap.size = j := Option.some.inj e; omega))
                rw [Nat.zero_add, List.nil_append] at own266
                have ns273 := Nat.le_trans (by first | assumption | exact Nat.le_refl _ : wd.heap.size ≤ v254.heap.size) fr267.size
                refine hK.out _ _ nh270 (fun _ => ?_)
                clear hK K
                go_simp
                refine wpAnyH_ready (rs := [9]) (by kernel_rfl) (by simp) (AllReadyH.cons rfl (fun K hK => ?_) AllReadyH.nil)
                · skip
                  refine want_pos (by kernel_rfl) ?_
                  go_simp
                  have nb274 := nb269.alloc (.cells #[.int .i64 id.b, .int .i64 id.s, .int .u64 (id.u : Int), .slice (some ⟨wd.heap.size + 1, 0, none⟩) (200 + fw) (200 + fw)] 58)
                  have nh275 := Blk.alloc nh270 (.cells #[.int .i64 id.b, .int .i64 id.s, .int .u64 (id.u : Int), .slice (some ⟨wd.heap.size + 1, 0, none⟩) (200 + fw) (200 + fw)] 58)
                  have nr276 := nr271.alloc (.cells #[.int .i64 id.b, .int .i64 id.s, .int .u64 (id.u : Int), .slice (some ⟨wd.heap.size + 1, 0, none⟩) (200 + fw) (200 + fw)] 58)
                  have no277 := own266.alloc (.cells #[.int .i64 id.b, .int .i64 id.s, .int .u64 (id.u : Int), .slice (some ⟨wd.heap.size + 1, 0, none⟩) (200 + fw) (200 + fw)] 58)
                  have no278 := nm272.alloc (.cells #[.int .i64 id.b, .int .i64 id.s, .int .u64 (id.u : Int), .slice (some ⟨wd.heap.size + 1, 0, none⟩) (200 + fw) (200 + fw)] 58)
                  have ns279 : wd.heap.size ≤ (v265.alloc (.cells #[.int .i64 id.b, .int .i64 id.s, .int .u64 (id.u : Int), .slice (some ⟨wd.heap.size + 1, 0, none⟩) (200 + fw) (200 + fw)] 58)).heap.size := (by rw [World.size_alloc]; omega)
                  have nl280 := Blk.new v265 58 #[.int .i64 id.b, .int .i64 id.s, .int .u64 (id.u : Int), .slice (some ⟨wd.heap.size + 1, 0, none⟩) (200 + fw) (200 + fw)]
                  refine hK.out _ _ nh275 (fun _ => ?_)
                  clear hK K
                  try simp only [put_lit, List.set]
                  refine wpAnyH_ready (rs := [10]) (by kernel_rfl) (by simp) (AllReadyH.cons rfl (fun K hK => ?_) AllReadyH.nil)
                  · skip
                    refine step_app (base := wd.heap.size) (.tmp 27) (.tmp 33) 31 (by rfl) (by rfl) (by rfl) (by rfl) slSl no277 (Rd.blk (n := 1) (size := 4) nl280 rfl) (by simp [Value.oneCell']) (by omega) (by omega) (by first | assumption | exact Nat.le_refl _) ?_
                    intro A281 c282 v283 own284 fr285 hat286
                    have nb287 := nb274.step fr285 (fun j e => (by have := (no277.row j e).1; omega))
                    have nh288 := Blk.fr nh275 fr285 (fun e => (by have := (no277.row _ e).1; omega))
                    have nr289 := nr276.fr fr285 (fun j hj e => (by have := (no277.row j e).1; omega))
                    have nm290 := no278.fr fr285 (fun j hj e => (by have e1 : wd.heap.size + 1 = j := Option.some.inj hj; rcases hat268 with h | h; (have e2 : wd.heap.size = j := Option.some.inj (h.symm.trans e); omega); (have e2 := Option.some.inj (h.symm.trans e); (try simp only [World.size_alloc] at e2); omega)))
                    have ns291 := Nat.le_trans (by first | assumption | exact Nat.le_refl _ : wd.heap.size ≤ (v265.alloc (.cells #[.int .i64 id.b, .int .i64 id.s, .int .u64 (id.u : Int), .slice (some ⟨wd.heap.size + 1, 0, none⟩) (200 + fw) (200 + fw)] 58)).heap.size) fr285.size
                    refine hK.out _ _ nh288 (fun _ => ?_)
                    clear hK K
                    go_simp
                    refine wpAnyH_take (i := 11) (v := ?_) rfl (by kernel_rfl) (by kernel_rfl) (by kernel_rfl) (fun _ _ _ h => h) (Or.inl ⟨by kernel_rfl, ?_⟩) nh288 ?_
                    rotate_left
                    focus (intro w' hSw; go_simp; (try with_reducible rfl))
                    try simp only [put_lit, List.set]
                    refine wpAnyH_ready (rs := [12]) (by kernel_rfl) (by simp) (AllReadyH.cons rfl (fun K hK => ?_) AllReadyH.nil)
                    · skip
                      refine want_pos (by kernel_rfl) ?_
                      have zs : v283.cell? ⟨w.heap.size, 24, none⟩ = some _ := nb287.blk.cell 24
                      have qs := nb287.blk.frozen 24
                      go_simp
                      refine hK.out _ _ (Blk.far nh288 (by show w.heap.size + 1 + 1 ≠ w.heap.size; omega) _) (fun _ => ?_)
                      clear hK K
                      try simp only [put_lit, List.set]
                      refine wpAnyH_done (by kernel_rfl) ?_ _
                      go_wp2_with (fail)
                      go_meet
                      exact hist_fin nb287 hid hnp hle hk hltd (by omega) hfw own284 nm290
              · skip
                refine want_pos (by kernel_rfl) ?_
                go_simp
                have nb292 := nb257.alloc (.cells #[.int .i64 id.b, .int .i64 id.s, .int .u64 (id.u : Int), .slice (some ⟨wd.heap.size + 1, 0, none⟩) (200 + fw) (200 + fw)] 58)
                have nh293 := Blk.alloc nh258 (.cells #[.int .i64 id.b, .int .i64 id.s, .int .u64 (id.u : Int), .slice (some ⟨wd.heap.size + 1, 0, none⟩) (200 + fw) (200 + fw)] 58)
                have nr294 := nr259.alloc (.cells #[.int .i64 id.b, .int .i64 id.s, .int .u64 (id.u : Int), .slice (some ⟨wd.heap.size + 1, 0, none⟩) (200 + fw) (200 + fw)] 58)
                have no295 := no260.alloc (.cells #[.int .i64 id.b, .int .i64 id.s, .int .u64 (id.u : Int), .slice (some ⟨wd.heap.size + 1, 0, none⟩) (200 + fw) (200 + fw)] 58)
                have no296 := own255.alloc (.cells #[.int .i64 id.b, .int .i64 id.s, .int .u64 (id.u : Int), .slice (some ⟨wd.heap.size + 1, 0, none⟩) (200 + fw) (200 + fw)] 58)
                have ns297 : wd.heap.size ≤ (v254.alloc (.cells #[.int .i64 id.b, .int .i64 id.s, .int .u64 (id.u : Int), .slice (some ⟨wd.heap.size + 1, 0, none⟩) (200 + fw) (200 + fw)] 58)).heap.size := (by rw [World.size_alloc]; omega)
                have nl298 := Blk.new v254 58 #[.int .i64 id.b, .int .i64 id.s, .int .u64 (id.u : Int), .slice (some ⟨wd.heap.size + 1, 0, none⟩) (200 + fw) (200 + fw)]
                refine hK.out _ _ nh293 (fun _ => ?_)
                clear hK K
                try simp only [put_lit, List.set]
                refine wpAnyH_ready (rs := [3]) (by kernel_rfl) (by simp) (AllReadyH.cons rfl (fun K hK => ?_) AllReadyH.nil)
                · skip
                  refine step_app (base := wd.heap.size) (.tmp 24) (.tmp 26) 31 (by rfl) (by rfl) (by rfl) (by rfl) slSl no295 nr294 hone (by omega) (by omega) (by first | assumption | exact Nat.le_refl _) ?_
                  intro A299 c300 v301 own302 fr303 hat304
                  have nb305 := nb292.step fr303 (fun j e => (by have := (no295.row j e).1; omega))
                  have nh306 := Blk.fr nh293 fr303 (fun e => (by have := (no295.row _ e).1; omega))
                  have nr307 := nr294.fr fr303 (fun j hj e => (by have := (no295.row j e).1; omega))
                  have nl308 := Blk.fr nl298 fr303 (fun e => (by have e' : wd.heap.size = v254.heap.size := Option.some.inj e; omega))
                  have nm309 := no296.fr fr303 (fun j hj e => (by have e1 : wd.heap.size + 1 = j := Option.some.inj hj; have e2 : wd.heap.size = j := Option.some.inj e; omega))
                  rw [Nat.zero_add, List.nil_append] at own302
                  have ns310 := Nat.le_trans (by first | assumption | exact Nat.le_refl _ : wd.heap.size ≤ (v254.alloc (.cells #[.int .i64 id.b, .int .i64 id.s, .int .u64 (id.u : Int), .slice (some ⟨wd.heap.size + 1, 0, none⟩) (200 + fw) (200 + fw)] 58)).heap.size) fr303.size
                  refine hK.out _ _ nh306 (fun _ => ?_)
                  clear hK K
                  go_simp
                  refine wpAnyH_ready (rs := [10]) (by kernel_rfl) (by simp) (AllReadyH.cons rfl (fun K hK => ?_) AllReadyH.nil)
                  · skip
                    refine step_app (base := wd.heap.size) (.tmp 27) (.tmp 33) 31 (by rfl) (by rfl) (by rfl) (by rfl) slSl own302 (Rd.blk (n := 1) (size := 4) nl308 rfl) (by simp [Value.oneCell']) (by omega) (by omega) (by first | assumption | exact Nat.le_refl _) ?_
                    intro A311 c312 v313 own314 fr315 hat316
                    have nb317 := nb305.step fr315 (fun j e => (by have := (own302.row j e).1; omega))
                    have nh318 := Blk.fr nh306 fr315 (fun e => (by have := (own302.row _ e).1; omega))
                    have nr319 := nr307.fr fr315 (fun j hj e => (by have := (own302.row j e).1; omega))
                    have nm320 := nm309.fr fr315 (fun j hj e => (by have e1 : wd.heap.size + 1 = j := Option.some.inj hj; rcases hat304 with h | h; (have e2 : wd.heap.size = j := Option.some.inj (h.symm.trans e); omega); (have e2 := Option.some.inj (h.symm.trans e); (try simp only [World.size_alloc] at e2); omega)))
                    have ns321 := Nat.le_trans (by first | assumption | exact Nat.le_refl _ : wd.heap.size ≤ v301.heap.size) fr315.size
                    refine hK.out _ _ nh318 (fun _ => ?_)
                    clear hK K
                    go_simp
                    refine wpAnyH_take (i := 11) (v := ?_) rfl (by kernel_rfl) (by kernel_rfl) (by kernel_rfl) (fun _ _ _ h => h) (Or.inl ⟨by kernel_rfl, ?_⟩) nh318 ?_
                    rotate_left
                    focus (intro w' hSw; go_simp; (try with_reducible rfl))
                    try simp only [put_lit, List.set]
                    refine wpAnyH_ready (rs := [12]) (by kernel_rfl) (by simp) (AllReadyH.cons rfl (fun K hK => ?_) AllReadyH.nil)
                    · skip
                      refine want_pos (by kernel_rfl) ?_
                      have zs : v313.cell? ⟨w.heap.size, 24, none⟩ = some _ := nb317.blk.cell 24
                      have qs := nb317.blk.frozen 24
                      go_simp
                      refine hK.out _ _ (Blk.far nh318 (by show w.heap.size + 1 + 1 ≠ w.heap.size; omega) _) (fun _ => ?_)
                      clear hK K
                      try simp only [put_lit, List.set]
                      refine wpAnyH_done (by kernel_rfl) ?_ _
                      go_wp2_with (fail)
                      go_meet
                      exact hist_fin nb317 hid hnp hle hk hltd (by omega) hfw own314 nm320
          · skip
            refine want_pos (by kernel_rfl) ?_
            refine oper_mk (.tmp 30) 28 rfl slB (n := 200 + fw) rfl (by omega) (by omega) (by omega) ?_
            intro v322 own323 fr324
            have nb325 := bsd.step fr324 (fun j e => e.elim)
            have nh326 := Blk.fr hbd fr324 (fun e => e)
            have nr327 := rd.fr fr324 (fun j hj e => e)
            have nx328 : wd.heap.size < v322.heap.size := (own323.row _ rfl).2
            have ns329 := Nat.le_trans (by first | assumption | exact Nat.le_refl _ : wd.heap.size ≤ wd.heap.size) fr324.size
            refine hK.out _ _ nh326 (fun _ => ?_)
            clear hK K
            go_simp
            refine wpAnyH_take (i := 8) (v := ?_) rfl (by kernel_rfl) (by kernel_rfl) (by kernel_rfl) (fun _ _ _ h => h) (Or.inl ⟨by kernel_rfl, ?_⟩) nh326 ?_
            rotate_left
            focus (intro w' hSw; go_simp; (try with_reducible rfl))
            try simp only [put_lit, List.set]
            refine wpAnyH_ready (rs := [0, 9]) (by kernel_rfl) (by simp) (AllReadyH.cons rfl (fun K hK => ?_) (AllReadyH.cons rfl (fun K hK => ?_) AllReadyH.nil))
            · skip
              refine want_pos (by kernel_rfl) ?_
              go_simp
              have nb330 := nb325.alloc (.cells #[] 58)
              have nh331 := Blk.alloc nh326 (.cells #[] 58)
              have nr332 := nr327.alloc (.cells #[] 58)
              have no333 := own323.alloc (.cells #[] 58)
              have ns334 : wd.heap.size ≤ (v322.alloc (.cells #[] 58)).heap.size := (by rw [World.size_alloc]; omega)
              have ne335 := (Own.litB v322 58 (size := 4) (n := 0) [] rfl (by omega)).lower (base' := wd.heap.size) (by first | assumption | exact Nat.le_refl _)
              refine hK.out _ _ nh331 (fun _ => ?_)
              clear hK K
              try simp only [put_lit, List.set]
              refine wpAnyH_ready (rs := [3, 9]) (by kernel_rfl) (by simp) (AllReadyH.cons rfl (fun K hK => ?_) (AllReadyH.cons rfl (fun K hK => ?_) AllReadyH.nil))
              · skip
                refine step_app (base := wd.heap.size) (.tmp 24) (.tmp 26) 31 (by rfl) (by rfl) (by rfl) (by rfl) slSl ne335 nr332 hone (by omega) (by omega) (by first | assumption | exact Nat.le_refl _) ?_
                intro A336 c337 v338 own339 fr340 hat341
                have nb342 := nb330.step fr340 (fun j e => (by have := (ne335.row j e).1; omega))
                have nh343 := Blk.fr nh331 fr340 (fun e => (by have := (ne335.row _ e).1; omega))
                have nr344 := nr332.fr fr340 (fun j hj e => (by have := (ne335.row j e).1; omega))
                have nm345 := no333.fr fr340 (fun j hj e => (by have e1 : wd.heap.size = j := Option.some.inj hj; have e2 : v322.heap.size = j := Option.some.inj e; omega))
                rw [Nat.zero_add, List.nil_append] at own339
                have ns346 := Nat.le_trans (by first | assumption | exact Nat.le_refl _ : wd.heap.size ≤ (v322.alloc (.cells #[] 58)).heap.size) fr340.size
                refine hK.out _ _ nh343 (fun _ => ?_)
                clear hK K
                go_simp
                refine wpAnyH_ready (rs := [9]) (by kernel_rfl) (by simp) (AllReadyH.cons rfl (fun K hK => ?_) AllReadyH.nil)
                · skip
                  refine want_pos (by kernel_rfl) ?_
                  go_simp
                  have nb347 := nb342.alloc (.cells #[.int .i64 id.b, .int .i64 id.s, .int .u64 (id.u : Int), .slice (some ⟨wd.heap.size, 0, none⟩) (200 + fw) (200 + fw)] 58)
                  have nh348 := Blk.alloc nh343 (.cells #[.int .i64 id.b, .int .i64 id.s, .int .u64 (id.u : Int), .slice (some ⟨wd.heap.size, 0, none⟩) (200 + fw) (200 + fw)] 58)
                  have nr349 := nr344.alloc (.cells #[.int .i64 id.b, .int .i64 id.s, .int .u64 (id.u : Int), .slice (some ⟨wd.heap.size, 0, none⟩) (200 + fw) (200 + fw)] 58)
                  have no350 := own339.alloc (.cells #[.int .i64 id.b, .int .i64 id.s, .int .u64 (id.u : Int), .slice (some ⟨wd.heap.size, 0, none⟩) (200 + fw) (200 + fw)] 58)
                  have no351 := nm345.alloc (.cells #[.int .i64 id.b, .int .i64 id.s, .int .u64 (id.u : Int), .slice (some ⟨wd.heap.size, 0, none⟩) (200 + fw) (200 + fw)] 58)
                  have ns352 : wd.heap.size ≤ (v338.alloc (.cells #[.int .i64 id.b, .int .i64 id.s, .int .u64 (id.u : Int), .slice (some ⟨wd.heap.size, 0, none⟩) (200 + fw) (200 + fw)] 58)).heap.size := (by rw [World.size_alloc]; omega)
                  have nl353 := Blk.new v338 58 #[.int .i64 id.b, .int .i64 id.s, .int .u64 (id.u : Int), .slice (some ⟨wd.heap.size, 0, none⟩) (200 + fw) (200 + fw)]
                  refine hK.out _ _ nh348 (fun _ => ?_)
                  clear hK K
                  try simp only [put_lit, List.set]
                  refine wpAnyH_ready (rs := [10]) (by kernel_rfl) (by simp) (AllReadyH.cons rfl (fun K hK => ?_) AllReadyH.nil)
                  · skip
                    refine step_app (base := wd.heap.size) (.tmp 27) (.tmp 33) 31 (by rfl) (by rfl) (by rfl) (by rfl) slSl no350 (Rd.blk (n := 1) (size := 4) nl353 rfl) (by simp [Value.oneCell']) (by omega) (by omega) (by first | assumption | exact Nat.le_refl _) ?_
                    intro A354 c355 v356 own357 fr358 hat359
                    have nb360 := nb347.step fr358 (fun j e => (by have := (no350.row j e).1; omega))
                    have nh361 := Blk.fr nh348 fr358 (fun e => (by have := (no350.row _ e).1; omega))
                    have nr362 := nr349.fr fr358 (fun j hj e => (by have := (no350.row j e).1; omega))
                    have nm363 := no351.fr fr358 (fun j hj e => (by have e1 : wd.heap.size = j := Option.some.inj hj; rcases hat341 with h | h; (have e2 : v322.heap.size = j := Option.some.inj (h.symm.trans e); omega); (have e2 := Option.some.inj (h.symm.trans e); (try simp only [World.size_alloc] at e2); omega)))
                    have ns364 := Nat.le_trans (by first | assumption | exact Nat.le_refl _ : wd.heap.size ≤ (v338.alloc (.cells #[.int .i64 id.b, .int .i64 id.s, .int .u64 (id.u : Int), .slice (some ⟨wd.heap.size, 0, none⟩) (200 + fw) (200 + fw)] 58)).heap.size) fr358.size
                    refine hK.out _ _ nh361 (fun _ => ?_)
                    clear hK K
                    go_simp
                    refine wpAnyH_take (i := 11) (v := ?_) rfl (by kernel_rfl) (by kernel_rfl) (by kernel_rfl) (fun _ _ _ h => h) (Or.inl ⟨by kernel_rfl, ?_⟩) nh361 ?_
                    rotate_left
                    focus (intro w' hSw; go_simp; (try with_reducible rfl))
                    try simp only [put_lit, List.set]
                    refine wpAnyH_ready (rs := [12]) (by kernel_rfl) (by simp) (AllReadyH.cons rfl (fun K hK => ?_) AllReadyH.nil)
                    · skip
                      refine want_pos (by kernel_rfl) ?_
                      have zs : v356.cell? ⟨w.heap.size, 24, none⟩ = some _ := nb360.blk.cell 24
                      have qs := nb360.blk.frozen 24
                      go_simp
                      refine hK.out _ _ (Blk.far nh361 (by show w.heap.size + 1 + 1 ≠ w.heap.size; omega) _) (fun _ => ?_)
                      clear hK K
                      try simp only [put_lit, List.set]
                      refine wpAnyH_done (by kernel_rfl) ?_ _
                      go_wp2_with (fail)
                      go_meet
                      exact hist_fin nb360 hid hnp hle hk hltd (by omega) hfw own357 nm363
              · skip
                refine want_pos (by kernel_rfl) ?_
                go_simp
                have nb365 := nb330.alloc (.cells #[.int .i64 id.b, .int .i64 id.s, .int .u64 (id.u : Int), .slice (some ⟨wd.heap.size, 0, none⟩) (200 + fw) (200 + fw)] 58)
                have nh366 := Blk.alloc nh331 (.cells #[.int .i64 id.b, .int .i64 id.s, .int .u64 (id.u : Int), .slice (some ⟨wd.heap.size, 0, none⟩) (200 + fw) (200 + fw)] 58)
                have nr367 := nr332.alloc (.cells #[.int .i64 id.b, .int .i64 id.s, .int .u64 (id.u : Int), .slice (some ⟨wd.heap.size, 0, none⟩) (200 + fw) (200 + fw)] 58)
                have no368 := ne335.alloc (.cells #[.int .i64 id.b, .int .i64 id.s, .int .u64 (id.u : Int), .slice (some ⟨wd.heap.size, 0, none⟩) (200 + fw) (200 + fw)] 58)
                have no369 := no333.alloc (.cells #[.int .i64 id.b, .int .i64 id.s, .int .u64 (id.u : Int), .slice (some ⟨wd.heap.size, 0, none⟩) (200 + fw) (200 + fw)] 58)
                have ns370 : wd.heap.size ≤ ((v322.alloc (.cells #[] 58)).alloc (.cells #[.int .i64 id.b, .int .i64 id.s, .int .u64 (id.u : Int), .slice (some ⟨wd.heap.size, 0, none⟩) (200 + fw) (200 + fw)] 58)).heap.size := (by rw [World.size_alloc]; omega)
                have nl371 := Blk.new (v322.alloc (.cells #[] 58)) 58 #[.int .i64 id.b, .int .i64 id.s, .int .u64 (id.u : Int), .slice (some ⟨wd.heap.size, 0, none⟩) (200 + fw) (200 + fw)]
                simp only [World.size_alloc] at nl371
                refine hK.out _ _ nh366 (fun _ => ?_)
                clear hK K
                try simp only [put_lit, List.set]
                refine wpAnyH_ready (rs := [3]) (by kernel_rfl) (by simp) (AllReadyH.cons rfl (fun K hK => ?_) AllReadyH.nil)
                · skip
                  refine step_app (base := wd.heap.size) (.tmp 24) (.tmp 26) 31 (by rfl) (by rfl) (by rfl) (by rfl) slSl no368 nr367 hone (by omega) (by omega) (by first | assumption | exact Nat.le_refl _) ?_
                  intro A372 c373 v374 own375 fr376 hat377
                  have nb378 := nb365.step fr376 (fun j e => (by have := (no368.row j e).1; omega))
                  have nh379 := Blk.fr nh366 fr376 (fun e => (by have := (no368.row _ e).1; omega))
                  have nr380 := nr367.fr fr376 (fun j hj e => (by have := (no368.row j e).1; omega))
                  have nl381 := Blk.fr nl371 fr376 (fun e => (by have e' : v322.heap.size = v322.heap.size + 1 := Option.some.inj e; omega))
                  have nm382 := no369.fr fr376 (fun j hj e => (by have e1 : wd.heap.size = j := Option.some.inj hj; have e2 : v322.heap.size = j := Option.some.inj e; omega))
                  rw [Nat.zero_add, List.nil_append] at own375
                  have ns383 := Nat.le_trans (by first | assumption | exact Nat.le_refl _ : wd.heap.size ≤ ((v322.alloc (.cells #[] 58)).alloc (.cells #[.int .i64 id.b, .int .i64 id.s, .int .u64 (id.u : Int), .slice (some ⟨wd.heap.size, 0, none⟩) (200 + fw) (200 + fw)] 58)).heap.size) fr376.size
                  refine hK.out _ _ nh379 (fun _ => ?_)
                  clear hK K
                  go_simp
                  refine wpAnyH_ready (rs := [10]) (by kernel_rfl) (by simp) (AllReadyH.cons rfl (fun K hK => ?_) AllReadyH.nil)
                  · skip
                    refine step_app (base := wd.heap.size) (.tmp 27) (.tmp 33) 31 (by rfl) (by rfl) (by rfl) (by rfl) slSl own375 (Rd.blk (n := 1) (size := 4) nl381 rfl) (by simp [Value.oneCell']) (by omega) (by omega) (by first | assumption | exact Nat.le_refl _) ?_
                    intro A384 c385 v386 own387 fr388 hat389
                    have nb390 := nb378.step fr388 (fun j e => (by have := (own375.row j e).1; omega))
                    have nh391 := Blk.fr nh379 fr388 (fun e => (by have := (own375.row _ e).1; omega))
                    have nr392 := nr380.fr fr388 (fun j hj e => (by have := (own375.row j e).1; omega))
                    have nm393 := nm382.fr fr388 (fun j hj e => (by have e1 : wd.heap.size = j := Option.some.inj hj; rcases hat377 with h | h; (have e2 : v322.heap.size = j := Option.some.inj (h.symm.trans e); omega); (have e2 := Option.some.inj (h.symm.trans e); (try simp only [World.size_alloc] at e2); omega)))
                    have ns394 := Nat.le_trans (by first | assumption | exact Nat.le_refl _ : wd.heap.size ≤ v374.heap.size) fr388.size
                    refine hK.out _ _ nh391 (fun _ => ?_)
                    clear hK K
                    go_simp
                    refine wpAnyH_take (i := 11) (v := ?_) rfl (by kernel_rfl) (by kernel_rfl) (by kernel_rfl) (fun _ _ _ h => h) (Or.inl ⟨by kernel_rfl, ?_⟩) nh391 ?_
                    rotate_left
                    focus (intro w' hSw; go_simp; (try with_reducible rfl))
                    try simp only [put_lit, List.set]
                    refine wpAnyH_ready (rs := [12]) (by kernel_rfl) (by simp) (AllReadyH.cons rfl (fun K hK => ?_) AllReadyH.nil)
                    · skip
                      refine want_pos (by kernel_rfl) ?_
                      have zs : v386.cell? ⟨w.heap.size, 24, none⟩ = some _ := nb390.blk.cell 24
                      have qs := nb390.blk.frozen 24
                      go_simp
                      refine hK.out _ _ (Blk.far nh391 (by show w.heap.size + 1 + 1 ≠ w.heap.size; omega) _) (fun _ => ?_)
                      clear hK K
                      try simp only [put_lit, List.set]
                      refine wpAnyH_done (by kernel_rfl) ?_ _
                      go_wp2_with (fail)
                      go_meet
                      exact hist_fin nb390 hid hnp hle hk hltd (by omega) hfw own387 nm393
            · skip
              refine want_pos (by kernel_rfl) ?_
              go_simp
              have nb395 := nb325.alloc (.cells #[.int .i64 id.b, .int .i64 id.s, .int .u64 (id.u : Int), .slice (some ⟨wd.heap.size, 0, none⟩) (200 + fw) (200 + fw)] 58)
              have nh396 := Blk.alloc nh326 (.cells #[.int .i64 id.b, .int .i64 id.s, .int .u64 (id.u : Int), .slice (some ⟨wd.heap.size, 0, none⟩) (200 + fw) (200 + fw)] 58)
              have nr397 := nr327.alloc (.cells #[.int .i64 id.b, .int .i64 id.s, .int .u64 (id.u : Int), .slice (some ⟨wd.heap.size, 0, none⟩) (200 + fw) (200 + fw)] 58)
              have no398 := own323.alloc (.cells #[.int .i64 id.b, .int .i64 id.s, .int .u64 (id.u : Int), .slice (some ⟨wd.heap.size, 0, none⟩) (200 + fw) (200 + fw)] 58)
              have ns399 : wd.heap.size ≤ (v322.alloc (.cells #[.int .i64 id.b, .int .i64 id.s, .int .u64 (id.u : Int), .slice (some ⟨wd.heap.size, 0, none⟩) (200 + fw) (200 + fw)] 58)).heap.size := (by rw [World.size_alloc]; omega)
              have nl400 := Blk.new v322 58 #[.int .i64 id.b, .int .i64 id.s, .int .u64 (id.u : Int), .slice (some ⟨wd.heap.size, 0, none⟩) (200 + fw) (200 + fw)]
              refine hK.out _ _ nh396 (fun _ => ?_)
              clear hK K
              try simp only [put_lit, List.set]
              refine wpAnyH_ready (rs := [0]) (by kernel_rfl) (by simp) (AllReadyH.cons rfl (fun K hK => ?_) AllReadyH.nil)
              · skip
                refine want_pos (by kernel_rfl) ?_
                go_simp
                have nb401 := nb395.alloc (.cells #[] 58)
                have nh402 := Blk.alloc nh396 (.cells #[] 58)
                have nr403 := nr397.alloc (.cells #[] 58)
                have no404 := no398.alloc (.cells #[] 58)
                have nl405 := Blk.alloc nl400 (.cells #[] 58)
                have ns406 : wd.heap.size ≤ ((v322.alloc (.cells #[.int .i64 id.b, .int .i64 id.s, .int .u64 (id.u : Int), .slice (some ⟨wd.heap.size, 0, none⟩) (200 + fw) (200 + fw)] 58)).alloc (.cells #[] 58)).heap.size := (by rw [World.size_alloc]; omega)
                have ne407 := (Own.litB (v322.alloc (.cells #[.int .i64 id.b, .int .i64 id.s, .int .u64 (id.u : Int), .slice (some ⟨wd.heap.size, 0, none⟩) (200 + fw) (200 + fw)] 58)) 58 (size := 4) (n := 0) [] rfl (by omega)).lower (base' := wd.heap.size) (by first | assumption | exact Nat.le_refl _)
                simp only [World.size_alloc] at ne407
                refine hK.out _ _ nh402 (fun _ => ?_)
                clear hK K
                try simp only [put_lit, List.set]
                refine wpAnyH_ready (rs := [3]) (by kernel_rfl) (by simp) (AllReadyH.cons rfl (fun K hK => ?_) AllReadyH.nil)
                · skip
                  refine step_app (base := wd.heap.size) (.tmp 24) (.tmp 26) 31 (by rfl) (by rfl) (by rfl) (by rfl) slSl ne407 nr403 hone (by omega) (by omega) (by first | assumption | exact Nat.le_refl _) ?_
                  intro A408 c409 v410 own411 fr412 hat413
                  have nb414 := nb401.step fr412 (fun j e => (by have := (ne407.row j e).1; omega))
                  have nh415 := Blk.fr nh402 fr412 (fun e => (by have := (ne407.row _ e).1; omega))
                  have nr416 := nr403.fr fr412 (fun j hj e => (by have := (ne407.row j e).1; omega))
                  have nl417 := Blk.fr nl405 fr412 (fun e => (by have e' : v322.heap.size + 1 = v322.heap.size := Option.some.inj e; omega))
                  have nm418 := no404.fr fr412 (fun j hj e => (by have e1 : wd.heap.size = j := Option.some.inj hj; have e2 : v322.heap.size + 1 = j := Option.some.inj e; omega))
                  rw [Nat.zero_add, List.nil_append] at own411
                  have ns419 := Nat.le_trans (by first | assumption | exact Nat.le_refl _ : wd.heap.size ≤ ((v322.alloc (.cells #[.int .i64 id.b, .int .i64 id.s, .int .u64 (id.u : Int), .slice (some ⟨wd.heap.size, 0, none⟩) (200 + fw) (200 + fw)] 58)).alloc (.cells #[] 58)).heap.size) fr412.size
                  refine hK.out _ _ nh415 (fun _ => ?_)
                  clear hK K
                  go_simp
                  refine wpAnyH_ready (rs := [10]) (by kernel_rfl) (by simp) (AllReadyH.cons rfl (fun K hK => ?_) AllReadyH.nil)
                  · skip
                    refine step_app (base := wd.heap.size) (.tmp 27) (.tmp 33) 31 (by rfl) (by rfl) (by rfl) (by rfl) slSl own411 (Rd.blk (n := 1) (size := 4) nl417 rfl) (by simp [Value.oneCell']) (by omega) (by omega) (by first | assumption | exact Nat.le_refl _) ?_
                    intro A420 c421 v422 own423 fr424 hat425
                    have nb426 := nb414.step fr424 (fun j e => (by have := (own411.row j e).1; omega))
                    have nh427 := Blk.fr nh415 fr424 (fun e => (by have := (own411.row _ e).1; omega))
                    have nr428 := nr416.fr fr424 (fun j hj e => (by have := (own411.row j e).1; omega))
                    have nm429 := nm418.fr fr424 (fun j hj e => (by have e1 : wd.heap.size = j := Option.some.inj hj; rcases hat413 with h | h; (have e2 : v322.heap.size + 1 = j := Option.some.inj (h.symm.trans e); omega); (have e2 := Option.some.inj (h.symm.trans e); (try simp only [World.size_alloc] at e2); omega)))
                    have ns430 := Nat.le_trans (by first | assumption | exact Nat.le_refl _ : wd.heap.size ≤ v410.heap.size) fr424.size
                    refine hK.out _ _ nh427 (fun _ => ?_)
                    clear hK K
                    go_simp
                    refine wpAnyH_take (i := 11) (v := ?_) rfl (by kernel_rfl) (by kernel_rfl) (by kernel_rfl) (fun _ _ _ h => h) (Or.inl ⟨by kernel_rfl, ?_⟩) nh427 ?_
                    rotate_left
                    focus (intro w' hSw; go_simp; (try with_reducible rfl))
                    try simp only [put_lit, List.set]
                    refine wpAnyH_ready (rs := [12]) (by kernel_rfl) (by simp) (AllReadyH.cons rfl (fun K hK => ?_) AllReadyH.nil)
                    · skip
                      refine want_pos (by kernel_rfl) ?_
                      have zs : v422.cell? ⟨w.heap.size, 24, none⟩ = some _ := nb426.blk.cell 24
                      have qs := nb426.blk.frozen 24
                      go_simp
                      refine hK.out _ _ (Blk.far nh427 (by show w.heap.size + 1 + 1 ≠ w.heap.size; omega) _) (fun _ => ?_)
                      clear hK K
                      try simp only [put_lit, List.set]
                      refine wpAnyH_done (by kernel_rfl) ?_ _
                      go_wp2_with (fail)
                      go_meet
                      exact hist_fin nb426 hid hnp hle hk hltd (by omega) hfw own423 nm429
        · skip
          refine want_pos (by kernel_rfl) ?_
          refine oper_mk (.tmp 30) 28 rfl slB (n := 200 + fw) rfl (by omega) (by omega) (by omega) ?_
          intro v431 own432 fr433
          have nb434 := bsd.step fr433 (fun j e => e.elim)
          have nh435 := Blk.fr hbd fr433 (fun e => e)
          have nz436 : v431.cell? ⟨w.heap.size, 24, none⟩ = some _ := fr433.cell z0 (fun e => e)
          have nr437 := rd.fr fr433 (fun j hj e => e)
          have nx438 : wd.heap.size < v431.heap.size := (own432.row _ rfl).2
          have ns439 := Nat.le_trans (by first | assumption | exact Nat.le_refl _ : wd.heap.size ≤ wd.heap.size) fr433.size
          refine hK.out _ _ nh435 (fun _ => ?_)
          clear hK K
          go_simp
          refine wpAnyH_take (i := 8) (v := ?_) rfl (by kernel_rfl) (by kernel_rfl) (by kernel_rfl) (fun _ _ _ h => h) (Or.inl ⟨by kernel_rfl, ?_⟩) nh435 ?_
          rotate_left
          focus (intro w' hSw; go_simp; (try with_reducible rfl))
          try simp only [put_lit, List.set]
          refine wpAnyH_ready (rs := [0, 2, 9]) (by kernel_rfl) (by simp) (AllReadyH.cons rfl (fun K hK => ?_) (AllReadyH.cons rfl (fun K hK => ?_) (AllReadyH.cons rfl (fun K hK => ?_) AllReadyH.nil)))
          · skip
            refine want_pos (by kernel_rfl) ?_
            go_simp
            have nb440 := nb434.alloc (.cells #[] 58)
            have nh441 := Blk.alloc nh435 (.cells #[] 58)
            have nz442 := cell_alloc nz436 (.cells #[] 58)
            have nr443 := nr437.alloc (.cells #[] 58)
            have no444 := own432.alloc (.cells #[] 58)
            have ns445 : wd.heap.size ≤ (v431.alloc (.cells #[] 58)).heap.size := (by rw [World.size_alloc]; omega)
            have ne446 := (Own.litB v431 58 (size := 4) (n := 0) [] rfl (by omega)).lower (base' := wd.heap.size) (by first | assumption | exact Nat.le_refl _)
            refine hK.out _ _ nh441 (fun _ => ?_)
            clear hK K
            try simp only [put_lit, List.set]
            refine wpAnyH_ready (rs := [2, 9]) (by kernel_rfl) (by simp) (AllReadyH.cons rfl (fun K hK => ?_) (AllReadyH.cons rfl (fun K hK => ?_) AllReadyH.nil))
            · skip
              refine want_pos (by kernel_rfl) ?_
              have zl := nz442
              go_simp
              refine hK.out _ _ nh441 (fun _ => ?_)
              clear hK K
              try simp only [put_lit, List.set]
              refine wpAnyH_ready (rs := [3, 9]) (by kernel_rfl) (by simp) (AllReadyH.cons rfl (fun K hK => ?_) (AllReadyH.cons rfl (fun K hK => ?_) AllReadyH.nil))
              · skip
                refine step_app (base := wd.heap.size) (.tmp 24) (.tmp 26) 31 (by rfl) (by rfl) (by rfl) (by rfl) slSl ne446 nr443 hone (by omega) (by omega) (by first | assumption | exact Nat.le_refl _) ?_
                intro A447 c448 v449 own450 fr451 hat452
                have nb453 := nb440.step fr451 (fun j e => (by have := (ne446.row j e).1; omega))
                have nh454 := Blk.fr nh441 fr451 (fun e => (by have := (ne446.row _ e).1; omega))
                have nr455 := nr443.fr fr451 (fun j hj e => (by have := (ne446.row j e).1; omega))
                have nm456 := no444.fr fr451 (fun j hj e => (by have e1 : wd.heap.size = j := Option.some.inj hj; have e2 : v431.heap.size = j := Option.some.inj e; omega))
                rw [Nat.zero_add, List.nil_append] at own450
                have ns457 := Nat.le_trans (by first | assumption | exact Nat.le_refl _ : wd.heap.size ≤ (v431.alloc (.cells #[] 58)).heap.size) fr451.size
                refine hK.out _ _ nh454 (fun _ => ?_)
                clear hK K
                go_simp
                refine wpAnyH_ready (rs := [9]) (by kernel_rfl) (by simp) (AllReadyH.cons rfl (fun K hK => ?_) AllReadyH.nil)
                · skip
                  refine want_pos (by kernel_rfl) ?_
                  go_simp
                  have nb458 := nb453.alloc (.cells #[.int .i64 id.b, .int .i64 id.s, .int .u64 (id.u : Int), .slice (some ⟨wd.heap.size, 0, none⟩) (200 + fw) (200 + fw)] 58)
                  have nh459 := Blk.alloc nh454 (.cells #[.int .i64 id.b, .int .i64 id.s, .int .u64 (id.u : Int), .slice (some ⟨wd.heap.size, 0, none⟩) (200 + fw) (200 + fw)] 58)
                  have nr460 := nr455.alloc (.cells #[.int .i64 id.b, .int .i64 id.s, .int .u64 (id.u : Int), .slice (some ⟨wd.heap.size, 0, none⟩) (200 + fw) (200 + fw)] 58)
                  have no461 := own450.alloc (.cells #[.int .i64 id.b, .int .i64 id.s, .int .u64 (id.u : Int), .slice (some ⟨wd.heap.size, 0, none⟩) (200 + fw) (200 + fw)] 58)
                  have no462 := nm456.alloc (.cells #[.int .i64 id.b, .int .i64 id.s, .int .u64 (id.u : Int), .slice (some ⟨wd.heap.size, 0, none⟩) (200 + fw) (200 + fw)] 58)
                  have ns463 : wd.heap.size ≤ (v449.alloc (.cells #[.int .i64 id.b, .int .i64 id.s, .int .u64 (id.u : Int), .slice (some ⟨wd.heap.size, 0, none⟩) (200 + fw) (200 + fw)] 58)).heap.size := (by rw [World.size_alloc]; omega)
                  have nl464 := Blk.new v449 58 #[.int .i64 id.b, .int .i64 id.s, .int .u64 (id.u : Int), .slice (some ⟨wd.heap.size, 0, none⟩) (200 + fw) (200 + fw)]
                  refine hK.out _ _ nh459 (fun _ => ?_)
                  clear hK K
                  try simp only [put_lit, List.set]
                  refine wpAnyH_ready (rs := [10]) (by kernel_rfl) (by simp) (AllReadyH.cons rfl (fun K hK => ?_) AllReadyH.nil)
                  · skip
                    refine step_app (base := wd.heap.size) (.tmp 27) (.tmp 33) 31 (by rfl) (by rfl) (by rfl) (by rfl) slSl no461 (Rd.blk (n := 1) (size := 4) nl464 rfl) (by simp [Value.oneCell']) (by omega) (by omega) (by first | assumption | exact Nat.le_refl _) ?_
                    intro A465 c466 v467 own468 fr469 hat470
                    have nb471 := nb458.step fr469 (fun j e => (by have := (no461.row j e).1; omega))
                    have nh472 := Blk.fr nh459 fr469 (fun e => (by have := (no461.row _ e).1; omega))
                    have nr473 := nr460.fr fr469 (fun j hj e => (by have := (no461.row j e).1; omega))
                    have nm474 := no462.fr fr469 (fun j hj e => (by have e1 : wd.heap.size = j := Option.some.inj hj; rcases hat452 with h | h; (have e2 : v431.heap.size = j := Option.some.inj (h.symm.trans e); omega); (have e2 := Option.some.inj (h.symm.trans e); (try simp only [World.size_alloc] at e2); omega)))
                    have ns475 := Nat.le_trans (by first | assumption | exact Nat.le_refl _ : wd.heap.size ≤ (v449.alloc (.cells #[.int .i64 id.b, .int .i64 id.s, .int .u64 (id.u : Int), .slice (some ⟨wd.heap.size, 0, none⟩) (200 + fw) (200 + fw)] 58)).heap.size) fr469.size
                    refine hK.out _ _ nh472 (fun _ => ?_)
                    clear hK K
                    go_simp
                    refine wpAnyH_take (i := 11) (v := ?_) rfl (by kernel_rfl) (by kernel_rfl) (by kernel_rfl) (fun _ _ _ h => h) (Or.inl ⟨by kernel_rfl, ?_⟩) nh472 ?_
                    rotate_left
                    focus (intro w' hSw; go_simp; (try with_reducible rfl))
                    try simp only [put_lit, List.set]
                    refine wpAnyH_ready (rs := [12]) (by kernel_rfl) (by simp) (AllReadyH.cons rfl (fun K hK => ?_) AllReadyH.nil)
                    · skip
                      refine want_pos (by kernel_rfl) ?_
                      have zs : v467.cell? ⟨w.heap.size, 24, none⟩ = some _ := nb471.blk.cell 24
                      have qs := nb471.blk.frozen 24
                      go_simp
                      refine hK.out _ _ (Blk.far nh472 (by show w.heap.size + 1 + 1 ≠ w.heap.size; omega) _) (fun _ => ?_)
                      clear hK K
                      try simp only [put_lit, List.set]
                      refine wpAnyH_done (by kernel_rfl) ?_ _
                      go_wp2_with (fail)
                      go_meet
                      exact hist_fin nb471 hid hnp hle hk hltd (by omega) hfw own468 nm474
              · skip
                refine want_pos (by kernel_rfl) ?_
                go_simp
                have nb476 := nb440.alloc (.cells #[.int .i64 id.b, .int .i64 id.s, .int .u64 (id.u : Int), .slice (some ⟨wd.heap.size, 0, none⟩) (200 + fw) (200 + fw)] 58)
                have nh477 := Blk.alloc nh441 (.cells #[.int .i64 id.b, .int .i64 id.s, .int .u64 (id.u : Int), .slice (some ⟨wd.heap.size, 0, none⟩) (200 + fw) (200 + fw)] 58)
                have nr478 := nr443.alloc (.cells #[.int .i64 id.b, .int .i64 id.s, .int .u64 (id.u : Int), .slice (some ⟨wd.heap.size, 0, none⟩) (200 + fw) (200 + fw)] 58)
                have no479 := ne446.alloc (.cells #[.int .i64 id.b, .int .i64 id.s, .int .u64 (id.u : Int), .slice (some ⟨wd.heap.size, 0, none⟩) (200 + fw) (200 + fw)] 58)
                have no480 := no444.alloc (.cells #[.int .i64 id.b, .int .i64 id.s, .int .u64 (id.u : Int), .slice (some ⟨wd.heap.size, 0, none⟩) (200 + fw) (200 + fw)] 58)
                have ns481 : wd.heap.size ≤ ((v431.alloc (.cells #[] 58)).alloc (.cells #[.int .i64 id.b, .int .i64 id.s, .int .u64 (id.u : Int), .slice (some ⟨wd.heap.size, 0, none⟩) (200 + fw) (200 + fw)] 58)).heap.size := (by rw [World.size_alloc]; omega)
                have nl482 := Blk.new (v431.alloc (.cells #[] 58)) 58 #[.int .i64 id.b, .int .i64 id.s, .int .u64 (id.u : Int), .slice (some ⟨wd.heap.size, 0, none⟩) (200 + fw) (200 + fw)]
                simp only [World.size_alloc] at nl482
                refine hK.out _ _ nh477 (fun _ => ?_)
                clear hK K
                try simp only [put_lit, List.set]
                refine wpAnyH_ready (rs := [3]) (by kernel_rfl) (by simp) (AllReadyH.cons rfl (fun K hK => ?_) AllReadyH.nil)
                · skip
                  refine step_app (base := wd.heap.size) (.tmp 24) (.tmp 26) 31 (by rfl) (by rfl) (by rfl) (by rfl) slSl no479 nr478 hone (by omega) (by omega) (by first | assumption | exact Nat.le_refl _) ?_
                  intro A483 c484 v485 own486 fr487 hat488
                  have nb489 := nb476.step fr487 (fun j e => (by have := (no479.row j e).1; omega))
                  have nh490 := Blk.fr nh477 fr487 (fun e => (by have := (no479.row _ e).1; omega))
                  have nr491 := nr478.fr fr487 (fun j hj e => (by have := (no479.row j e).1; omega))
                  have nl492 := Blk.fr nl482 fr487 (fun e => (by have e' : v431.heap.size = v431.heap.size + 1 := Option.some.inj e; omega))
                  have nm493 := no480.fr fr487 (fun j hj e => (by have e1 : wd.heap.size = j := Option.some.inj hj; have e2 : v431.heap.size = j := Option.some.inj e; omega))
                  rw [Nat.zero_add, List.nil_append] at own486
                  have ns494 := Nat.le_trans (by first | assumption | exact Nat.le_refl _ : wd.heap.size ≤ ((v431.alloc (.cells #[] 58)).alloc (.cells #[.int .i64 id.b, .int .i64 id.s, .int .u64 (id.u : Int), .slice (some ⟨wd.heap.size, 0, none⟩) (200 + fw) (200 + fw)] 58)).heap.size) fr487.size
                  refine hK.out _ _ nh490 (fun _ => ?_)
                  clear hK K
                  go_simp
                  refine wpAnyH_ready (rs := [10]) (by kernel_rfl) (by simp) (AllReadyH.cons rfl (fun K hK => ?_) AllReadyH.nil)
                  · skip
                    refine step_app (base := wd.heap.size) (.tmp 27) (.tmp 33) 31 (by rfl) (by rfl) (by rfl) (by rfl) slSl own486 (Rd.blk (n := 1) (size := 4) nl492 rfl) (by simp [Value.oneCell']) (by omega) (by omega) (by first | assumption | exact Nat.le_refl _) ?_
                    intro A495 c496 v497 own498 fr499 hat500
                    have nb501 := nb489.step fr499 (fun j e => (by have := (own486.row j e).1; omega))
                    have nh502 := Blk.fr nh490 fr499 (fun e => (by have := (own486.row _ e).1; omega))
                    have nr503 := nr491.fr fr499 (fun j hj e => (by have := (own486.row j e).1; omega))
                    have nm504 := nm493.fr fr499 (fun j hj e => (by have e1 : wd.heap.size = j := Option.some.inj hj; rcases hat488 with h | h; (have e2 : v431.heap.size = j := Option.some.inj (h.symm.trans e); omega); (have e2 := Option.some.inj (h.symm.trans e); (try simp only [World.size_alloc] at e2); omega)))
                    have ns505 := Nat.le_trans (by first | assumption | exact Nat.le_refl _ : wd.heap.size ≤ v485.heap.size) fr499.size
                    refine hK.out _ _ nh502 (fun _ => ?_)
                    clear hK K
                    go_simp
                    refine wpAnyH_take (i := 11) (v := ?_) rfl (by kernel_rfl) (by kernel_rfl) (by kernel_rfl) (fun _ _ _ h => h) (Or.inl ⟨by kernel_rfl, ?_⟩) nh502 ?_
                    rotate_left
                    focus (intro w' hSw; go_simp; (try with_reducible rfl))
                    try simp only [put_lit, List.set]
                    refine wpAnyH_ready (rs := [12]) (by kernel_rfl) (by simp) (AllReadyH.cons rfl (fun K hK => ?_) AllReadyH.nil)
                    · skip
                      refine want_pos (by kernel_rfl) ?_
                      have zs : v497.cell? ⟨w.heap.size, 24, none⟩ = some _ := nb501.blk.cell 24
                      have qs := nb501.blk.frozen 24
                      go_simp
                      refine hK.out _ _ (Blk.far nh502 (by show w.heap.size + 1 + 1 ≠ w.heap.size; omega) _) (fun _ => ?_)
                      clear hK K
                      try simp only [put_lit, List.set]
                      refine wpAnyH_done (by kernel_rfl) ?_ _
                      go_wp2_with (fail)
                      go_meet
                      exact hist_fin nb501 hid hnp hle hk hltd (by omega) hfw own498 nm504
            · skip
              refine want_pos (by kernel_rfl) ?_
              go_simp
              have nb506 := nb440.alloc (.cells #[.int .i64 id.b, .int .i64 id.s, .int .u64 (id.u : Int), .slice (some ⟨wd.heap.size, 0, none⟩) (200 + fw) (200 + fw)] 58)
              have nh507 := Blk.alloc nh441 (.cells #[.int .i64 id.b, .int .i64 id.s, .int .u64 (id.u : Int), .slice (some ⟨wd.heap.size, 0, none⟩) (200 + fw) (200 + fw)] 58)
              have nz508 := cell_alloc nz442 (.cells #[.int .i64 id.b, .int .i64 id.s, .int .u64 (id.u : Int), .slice (some ⟨wd.heap.size, 0, none⟩) (200 + fw) (200 + fw)] 58)
              have nr509 := nr443.alloc (.cells #[.int .i64 id.b, .int .i64 id.s, .int .u64 (id.u : Int), .slice (some ⟨wd.heap.size, 0, none⟩) (200 + fw) (200 + fw)] 58)
              have no510 := ne446.alloc (.cells #[.int .i64 id.b, .int .i64 id.s, .int .u64 (id.u : Int), .slice (some ⟨wd.heap.size, 0, none⟩) (200 + fw) (200 + fw)] 58)
              have no511 := no444.alloc (.cells #[.int .i64 id.b, .int .i64 id.s, .int .u64 (id.u : Int), .slice (some ⟨wd.heap.size, 0, none⟩) (200 + fw) (200 + fw)] 58)
              have ns512 : wd.heap.size ≤ ((v431.alloc (.cells #[] 58)).alloc (.cells #[.int .i64 id.b, .int .i64 id.s, .int .u64 (id.u : Int), .slice (some ⟨wd.heap.size, 0, none⟩) (200 + fw) (200 + fw)] 58)).heap.size := (by rw [World.size_alloc]; omega)
              have nl513 := Blk.new (v431.alloc (.cells #[] 58)) 58 #[.int .i64 id.b, .int .i64 id.s, .int .u64 (id.u : Int), .slice (some ⟨wd.heap.size, 0, none⟩) (200 + fw) (200 + fw)]
              simp only [World.size_alloc] at nl513
              refine hK.out _ _ nh507 (fun _ => ?_)
              clear hK K
              try simp only [put_lit, List.set]
              refine wpAnyH_ready (rs := [2]) (by kernel_rfl) (by simp) (AllReadyH.cons rfl (fun K hK => ?_) AllReadyH.nil)
              · skip
                refine want_pos (by kernel_rfl) ?_
                have zl := nz508
                go_simp
                refine hK.out _ _ nh507 (fun _ => ?_)
                clear hK K
                try simp only [put_lit, List.set]
                refine wpAnyH_ready (rs := [3]) (by kernel_rfl) (by simp) (AllReadyH.cons rfl (fun K hK => ?_) AllReadyH.nil)
                · skip
                  refine step_app (base := wd.heap.size) (.tmp 24) (.tmp 26) 31 (by rfl) (by rfl) (by rfl) (by rfl) slSl no510 nr509 hone (by omega) (by omega) (by first | assumption | exact Nat.le_refl _) ?_
                  intro A514 c515 v516 own517 fr518 hat519
                  have nb520 := nb506.step fr518 (fun j e => (by have := (no510.row j e).1; omega))
                  have nh521 := Blk.fr nh507 fr518 (fun e => (by have := (no510.row _ e).1; omega))
                  have nr522 := nr509.fr fr518 (fun j hj e => (by have := (no510.row j e).1; omega))
                  have nl523 := Blk.fr nl513 fr518 (fun e => (by have e' : v431.heap.size = v431.heap.size + 1 := Option.some.inj e; omega))
                  have nm524 := no511.fr fr518 (fun j hj e => (by have e1 : wd.heap.size = j := Option.some.inj hj; have e2 : v431.heap.size = j := Option.some.inj e; omega))
                  rw [Nat.zero_add, List.nil_append] at own517
                  have ns525 := Nat.le_trans (by first | assumption | exact Nat.le_refl _ : wd.heap.size ≤ ((v431.alloc (.cells #[] 58)).alloc (.cells #[.int .i64 id.b, .int .i64 id.s, .int .u64 (id.u : Int), .slice (some ⟨wd.heap.size, 0, none⟩) (200 + fw) (200 + fw)] 58)).heap.size) fr518.size
                  refine hK.out _ _ nh521 (fun _ => ?_)
                  clear hK K
                  go_simp
                  refine wpAnyH_ready (rs := [10]) (by kernel_rfl) (by simp) (AllReadyH.cons rfl (fun K hK => ?_) AllReadyH.nil)
                  · skip
                    refine step_app (base := wd.heap.size) (.tmp 27) (.tmp 33) 31 (by rfl) (by rfl) (by rfl) (by rfl) slSl own517 (Rd.blk (n := 1) (size := 4) nl523 rfl) (by simp [Value.oneCell']) (by omega) (by omega) (by first | assumption | exact Nat.le_refl _) ?_
                    intro A526 c527 v528 own529 fr530 hat531
                    have nb532 := nb520.step fr530 (fun j e => (by have := (own517.row j e).1; omega))
                    have nh533 := Blk.fr nh521 fr530 (fun e => (by have := (own517.row _ e).1; omega))
                    have nr534 := nr522.fr fr530 (fun j hj e => (by have := (own517.row j e).1; omega))
                    have nm535 := nm524.fr fr530 (fun j hj e => (by have e1 : wd.heap.size = j := Option.some.inj hj; rcases hat519 with h | h; (have e2 : v431.heap.size = j := Option.some.inj (h.symm.trans e); omega); (have e2 := Option.some.inj (h.symm.trans e); (try simp only [World.size_alloc] at e2); omega)))
                    have ns536 := Nat.le_trans (by first | assumption | exact Nat.le_refl _ : wd.heap.size ≤ v516.heap.size) fr530.size
                    refine hK.out _ _ nh533 (fun _ => ?_)
                    clear hK K
                    go_simp
                    refine wpAnyH_take (i := 11) (v := ?_) rfl (by kernel_rfl) (by kernel_rfl) (by kernel_rfl) (fun _ _ _ h => h) (Or.inl ⟨by kernel_rfl, ?_⟩) nh533 ?_
                    rotate_left
                    focus (intro w' hSw; go_simp; (try with_reducible rfl))
                    try simp only [put_lit, List.set]
                    refine wpAnyH_ready (rs := [12]) (by kernel_rfl) (by simp) (AllReadyH.cons rfl (fun K hK => ?_) AllReadyH.nil)
                    · skip
                      refine want_pos (by kernel_rfl) ?_
                      have zs : v528.cell? ⟨w.heap.size, 24, none⟩ = some _ := nb532.blk.cell 24
                      have qs := nb532.blk.frozen 24
                      go_simp
                      refine hK.out _ _ (Blk.far nh533 (by show w.heap.size + 1 + 1 ≠ w.heap.size; omega) _) (fun _ => ?_)
                      clear hK K
                      try simp only [put_lit, List.set]
                      refine wpAnyH_done (by kernel_rfl) ?_ _
                      go_wp2_with (fail)
                      go_meet
                      exact hist_fin nb532 hid hnp hle hk hltd (by omega) hfw own529 nm535
          · skip
            refine want_pos (by kernel_rfl) ?_
            have zl := nz436
            go_simp
            refine hK.out _ _ nh435 (fun _ => ?_)
            clear hK K
            try simp only [put_lit, List.set]
            refine wpAnyH_ready (rs := [0, 9]) (by kernel_rfl) (by simp) (AllReadyH.cons rfl (fun K hK => ?_) (AllReadyH.cons rfl (fun K hK => ?_) AllReadyH.nil))
            · skip
              refine want_pos (by kernel_rfl) ?_
              go_simp
              have nb537 := nb434.alloc (.cells #[] 58)
              have nh538 := Blk.alloc nh435 (.cells #[] 58)
              have nr539 := nr437.alloc (.cells #[] 58)
              have no540 := own432.alloc (.cells #[] 58)
              have ns541 : wd.heap.size ≤ (v431.alloc (.cells #[] 58)).heap.size := (by rw [World.size_alloc]; omega)
              have ne542 := (Own.litB v431 58 (size := 4) (n := 0) [] rfl (by omega)).lower (base' := wd.heap.size) (by first | assumption | exact Nat.le_refl _)
              refine hK.out _ _ nh538 (fun _ => ?_)
              clear hK K
              try simp only [put_lit, List.set]
              refine wpAnyH_ready (rs := [3, 9]) (by kernel_rfl) (by simp) (AllReadyH.cons rfl (fun K hK => ?_) (AllReadyH.cons rfl (fun K hK => ?_) AllReadyH.nil))
              · skip
                refine step_app (base := wd.heap.size) (.tmp 24) (.tmp 26) 31 (by rfl) (by rfl) (by rfl) (by rfl) slSl ne542 nr539 hone (by omega) (by omega) (by first | assumption | exact Nat.le_refl _) ?_
                intro A543 c544 v545 own546 fr547 hat548
                have nb549 := nb537.step fr547 (fun j e => (by have := (ne542.row j e).1; omega))
                have nh550 := Blk.fr nh538 fr547 (fun e => (by have := (ne542.row _ e).1; omega))
                have nr551 := nr539.fr fr547 (fun j hj e => (by have := (ne542.row j e).1; omega))
                have nm552 := no540.fr fr547 (fun j hj e => (by have e1 : wd.heap.size = j := Option.some.inj hj; have e2 : v431.heap.size = j := Option.some.inj e; omega))
                rw [Nat.zero_add, List.nil_append] at own546
                have ns553 := Nat.le_trans (by first | assumption | exact Nat.le_refl _ : wd.heap.size ≤ (v431.alloc (.cells #[] 58)).heap.size) fr547.size
                refine hK.out _ _ nh550 (fun _ => ?_)
                clear hK K
                go_simp
                refine wpAnyH_ready (rs := [9]) (by kernel_rfl) (by simp) (AllReadyH.cons rfl (fun K hK => ?_) AllReadyH.nil)
                · skip
                  refine want_pos (by kernel_rfl) ?_
                  go_simp
                  have nb554 := nb549.alloc (.cells #[.int .i64 id.b, .int .i64 id.s, .int .u64 (id.u : Int), .slice (some ⟨wd.heap.size, 0, none⟩) (200 + fw) (200 + fw)] 58)
                  have nh555 := Blk.alloc nh550 (.cells #[.int .i64 id.b, .int .i64 id.s, .int .u64 (id.u : Int), .slice (some ⟨wd.heap.size, 0, none⟩) (200 + fw) (200 + fw)] 58)
                  have nr556 := nr551.alloc (.cells #[.int .i64 id.b, .int .i64 id.s, .int .u64 (id.u : Int), .slice (some ⟨wd.heap.size, 0, none⟩) (200 + fw) (200 + fw)] 58)
                  have no557 := own546.alloc (.cells #[.int .i64 id.b, .int .i64 id.s, .int .u64 (id.u : Int), .slice (some ⟨wd.heap.size, 0, none⟩) (200 + fw) (200 + fw)] 58)
                  have no558 := nm552.alloc (.cells #[.int .i64 id.b, .int .i64 id.s, .int .u64 (id.u : Int), .slice (some ⟨wd.heap.size, 0, none⟩) (200 + fw) (200 + fw)] 58)
                  have ns559 : wd.heap.size ≤ (v545.alloc (.cells #[.int .i64 id.b, .int .i64 id.s, .int .u64 (id.u : Int), .slice (some ⟨wd.heap.size, 0, none⟩) (200 + fw) (200 + fw)] 58)).heap.size := (by rw [World.size_alloc]; omega)
                  have nl560 := Blk.new v545 58 #[.int .i64 id.b, .int .i64 id.s, .int .u64 (id.u : Int), .slice (some ⟨wd.heap.size, 0, none⟩) (200 + fw) (200 + fw)]
                  refine hK.out _ _ nh555 (fun _ => ?_)
                  clear hK K
                  try simp only [put_lit, List.set]
                  refine wpAnyH_ready (rs := [10]) (by kernel_rfl) (by simp) (AllReadyH.cons rfl (fun K hK => ?_) AllReadyH.nil)
                  · skip
                    refine step_app (base := wd.heap.size) (.tmp 27) (.tmp 33) 31 (by rfl) (by rfl) (by rfl) (by rfl) slSl no557 (Rd.blk (n := 1) (size := 4) nl560 rfl) (by simp [Value.oneCell']) (by omega) (by omega) (by first | assumption | exact Nat.le_refl _) ?_
                    intro A561 c562 v563 own564 fr565 hat566
                    have nb567 := nb554.step fr565 (fun j e => (by have := (no557.row j e).1; omega))
                    have nh568 := Blk.fr nh555 fr565 (fun e => (by have := (no557.row _ e).1; omega))
                    have nr569 := nr556.fr fr565 (fun j hj e => (by have := (no557.row j e).1; omega))
                    have nm570 := no558.fr fr565 (fun j hj e => (by have e1 : wd.heap.size = j := Option.some.inj hj; rcases hat548 with h | h; (have e2 : v431.heap.size = j := Option.some.inj (h.symm.trans e); omega); (have e2 := Option.some.inj (h.symm.trans e); (try simp only [World.size_alloc] at e2); omega)))
                    have ns571 := Nat.le_trans (by first | assumption | exact Nat.le_refl _ : wd.heap.size ≤ (v545.alloc (.cells #[.int .i64 id.b, .int .i64 id.s, .int .u64 (id.u : Int), .slice (some ⟨wd.heap.size, 0, none⟩) (200 + fw) (200 + fw)] 58)).heap.size) fr565.size
                    refine hK.out _ _ nh568 (fun _ => ?_)
                    clear hK K
                    go_simp
                    refine wpAnyH_take (i := 11) (v := ?_) rfl (by kernel_rfl) (by kernel_rfl) (by kernel_rfl) (fun _ _ _ h => h) (Or.inl ⟨by kernel_rfl, ?_⟩) nh568 ?_
                    rotate_left
                    focus (intro w' hSw; go_simp; (try with_reducible rfl))
                    try simp only [put_lit, List.set]
                    refine wpAnyH_ready (rs := [12]) (by kernel_rfl) (by simp) (AllReadyH.cons rfl (fun K hK => ?_) AllReadyH.nil)
                    · skip
                      refine want_pos (by kernel_rfl) ?_
                      have zs : v563.cell? ⟨w.heap.size, 24, none⟩ = some _ := nb567.blk.cell 24
                      have qs := nb567.blk.frozen 24
                      go_simp
                      refine hK.out _ _ (Blk.far nh568 (by show w.heap.size + 1 + 1 ≠ w.heap.size; omega) _) (fun _ => ?_)
                      clear hK K
                      try simp only [put_lit, List.set]
                      refine wpAnyH_done (by kernel_rfl) ?_ _
                      go_wp2_with (fail)
                      go_meet
                      exact hist_fin nb567 hid hnp hle hk hltd (by omega) hfw own564 nm570
              · skip
                refine want_pos (by kernel_rfl) ?_
                go_simp
                have nb572 := nb537.alloc (.cells #[.int .i64 id.b, .int .i64 id.s, .int .u64 (id.u : Int), .slice (some ⟨wd.heap.size, 0, none⟩) (200 + fw) (200 + fw)] 58)
                have nh573 := Blk.alloc nh538 (.cells #[.int .i64 id.b, .int .i64 id.s, .int .u64 (id.u : Int), .slice (some ⟨wd.heap.size, 0, none⟩) (200 + fw) (200 + fw)] 58)
                have nr574 := nr539.alloc (.cells #[.int .i64 id.b, .int .i64 id.s, .int .u64 (id.u : Int), .slice (some ⟨wd.heap.size, 0, none⟩) (200 + fw) (200 + fw)] 58)
                have no575 := ne542.alloc (.cells #[.int .i64 id.b, .int .i64 id.s, .int .u64 (id.u : Int), .slice (some ⟨wd.heap.size, 0, none⟩) (200 + fw) (200 + fw)] 58)
                have no576 := no540.alloc (.cells #[.int .i64 id.b, .int .i64 id.s, .int .u64 (id.u : Int), .slice (some ⟨wd.heap.size, 0, none⟩) (200 + fw) (200 + fw)] 58)
                have ns577 : wd.heap.size ≤ ((v431.alloc (.cells #[] 58)).alloc (.cells #[.int .i64 id.b, .int .i64 id.s, .int .u64 (id.u : Int), .slice (some ⟨wd.heap.size, 0, none⟩) (200 + fw) (200 + fw)] 58)).heap.size := (by rw [World.size_alloc]; omega)
                have nl578 := Blk.new (v431.alloc (.cells #[] 58)) 58 #[.int .i64 id.b, .int .i64 id.s, .int .u64 (id.u : Int), .slice (some ⟨wd.heap.size, 0, none⟩) (200 + fw) (200 + fw)]
                simp only [World.size_alloc] at nl578
                refine hK.out _ _ nh573 (fun _ => ?_)
                clear hK K
                try simp only [put_lit, List.set]
                refine wpAnyH_ready (rs := [3]) (by kernel_rfl) (by simp) (AllReadyH.cons rfl (fun K hK => ?_) AllReadyH.nil)
                · skip
                  refine step_app (base := wd.heap.size) (.tmp 24) (.tmp 26) 31 (by rfl) (by rfl) (by rfl) (by rfl) slSl no575 nr574 hone (by omega) (by omega) (by first | assumption | exact Nat.le_refl _) ?_
                  intro A579 c580 v581 own582 fr583 hat584
                  have nb585 := nb572.step fr583 (fun j e => (by have := (no575.row j e).1; omega))
                  have nh586 := Blk.fr nh573 fr583 (fun e => (by have := (no575.row _ e).1; omega))
                  have nr587 := nr574.fr fr583 (fun j hj e => (by have := (no575.row j e).1; omega))
                  have nl588 := Blk.fr nl578 fr583 (fun e => (by have e' : v431.heap.size = v431.heap.size + 1 := Option.some.inj e; omega))
                  have nm589 := no576.fr fr583 (fun j hj e => (by have e1 : wd.heap.size = j := Option.some.inj hj; have e2 : v431.heap.size = j := Option.some.inj e; omega))
                  rw [Nat.zero_add, List.nil_append] at own582
                  have ns590 := Nat.le_trans (by first | assumption | exact Nat.le_refl _ : wd.heap.size ≤ ((v431.alloc (.cells #[] 58)).alloc (.cells #[.int .i64 id.b, .int .i64 id.s, .int .u64 (id.u : Int), .slice (some ⟨wd.heap.size, 0, none⟩) (200 + fw) (200 + fw)] 58)).heap.size) fr583.size
                  refine hK.out _ _ nh586 (fun _ => ?_)
                  clear hK K
                  go_simp
                  refine wpAnyH_ready (rs := [10]) (by kernel_rfl) (by simp) (AllReadyH.cons rfl (fun K hK => ?_) AllReadyH.nil)
                  · skip
                    refine step_app (base := wd.heap.size) (.tmp 27) (.tmp 33) 31 (by rfl) (by rfl) (by rfl) (by rfl) slSl own582 (Rd.blk (n := 1) (size := 4) nl588 rfl) (by simp [Value.oneCell']) (by omega) (by omega) (by first | assumption | exact Nat.le_refl _) ?_
                    intro A591 c592 v593 own594 fr595 hat596
                    have nb597 := nb585.step fr595 (fun j e => (by have := (own582.row j e).1; omega))
                    have nh598 := Blk.fr nh586 fr595 (fun e => (by have := (own582.row _ e).1; omega))
                    have nr599 := nr587.fr fr595 (fun j hj e => (by have := (own582.row j e).1; omega))
                    have nm600 := nm589.fr fr595 (fun j hj e => (by have e1 : wd.heap.size = j := Option.some.inj hj; rcases hat584 with h | h; (have e2 : v431.heap.size = j := Option.some.inj (h.symm.trans e); omega); (have e2 := Option.some.inj (h.symm.trans e); (try simp only [World.size_alloc] at e2); omega)))
                    have ns601 := Nat.le_trans (by first | assumption | exact Nat.le_refl _ : wd.heap.size ≤ v581.heap.size) fr595.size
                    refine hK.out _ _ nh598 (fun _ => ?_)
                    clear hK K
                    go_simp
                    refine wpAnyH_take (i := 11) (v := ?_) rfl (by kernel_rfl) (by kernel_rfl) (by kernel_rfl) (fun _ _ _ h => h) (Or.inl ⟨by kernel_rfl, ?_⟩) nh598 ?_
                    rotate_left
                    focus (intro w' hSw; go_simp; (try with_reducible rfl))
                    try simp only [put_lit, List.set]
                    refine wpAnyH_ready (rs := [12]) (by kernel_rfl) (by simp) (AllReadyH.cons rfl (fun K hK => ?_) AllReadyH.nil)
                    · skip
                      refine want_pos (by kernel_rfl) ?_
                      have zs : v593.cell? ⟨w.heap.size, 24, none⟩ = some _ := nb597.blk.cell 24
                      have qs := nb597.blk.frozen 24
                      go_simp
                      refine hK.out _ _ (Blk.far nh598 (by show w.heap.size + 1 + 1 ≠ w.heap.size; omega) _) (fun _ => ?_)
                      clear hK K
                      try simp only [put_lit, List.set]
                      refine wpAnyH_done (by kernel_rfl) ?_ _
                      go_wp2_with (fail)
                      go_meet
                      exact hist_fin nb597 hid hnp hle hk hltd (by omega) hfw own594 nm600
            · skip
              refine want_pos (by kernel_rfl) ?_
              go_simp
              have nb602 := nb434.alloc (.cells #[.int .i64 id.b, .int .i64 id.s, .int .u64 (id.u : Int), .slice (some ⟨wd.heap.size, 0, none⟩) (200 + fw) (200 + fw)] 58)
              have nh603 := Blk.alloc nh435 (.cells #[.int .i64 id.b, .int .i64 id.s, .int .u64 (id.u : Int), .slice (some ⟨wd.heap.size, 0, none⟩) (200 + fw) (200 + fw)] 58)
              have nr604 := nr437.alloc (.cells #[.int .i64 id.b, .int .i64 id.s, .int .u64 (id.u : Int), .slice (some ⟨wd.heap.size, 0, none⟩) (200 + fw) (200 + fw)] 58)
              have no605 := own432.alloc (.cells #[.int .i64 id.b, .int .i64 id.s, .int .u64 (id.u : Int), .slice (some ⟨wd.heap.size, 0, none⟩) (200 + fw) (200 + fw)] 58)
              have ns606 : wd.heap.size ≤ (v431.alloc (.cells #[.int .i64 id.b, .int .i64 id.s, .int .u64 (id.u : Int), .slice (some ⟨wd.heap.size, 0, none⟩) (200 + fw) (200 + fw)] 58)).heap.size := (by rw [World.size_alloc]; omega)
              have nl607 := Blk.new v431 58 #[.int .i64 id.b, .int .i64 id.s, .int .u64 (id.u : Int), .slice (some ⟨wd.heap.size, 0, none⟩) (200 + fw) (200 + fw)]
              refine hK.out _ _ nh603 (fun _ => ?_)
              clear hK K
              try simp only [put_lit, List.set]
              refine wpAnyH_ready (rs := [0]) (by kernel_rfl) (by simp) (AllReadyH.cons rfl (fun K hK => ?_) AllReadyH.nil)
              · skip
                refine want_pos (by kernel_rfl) ?_
                go_simp
                have nb608 := nb602.alloc (.cells #[] 58)
                have nh609 := Blk.alloc nh603 (.cells #[] 58)
                have nr610 := nr604.alloc (.cells #[] 58)
                have no611 := no605.alloc (.cells #[] 58)
                have nl612 := Blk.alloc nl607 (.cells #[] 58)
                have ns613 : wd.heap.size ≤ ((v431.alloc (.cells #[.int .i64 id.b, .int .i64 id.s, .int .u64 (id.u : Int), .slice (some ⟨wd.heap.size, 0, none⟩) (200 + fw) (200 + fw)] 58)).alloc (.cells #[] 58)).heap.size := (by rw [World.size_alloc]; omega)
                have ne614 := (Own.litB (v431.alloc (.cells #[.int .i64 id.b, .int .i64 id.s, .int .u64 (id.u : Int), .slice (some ⟨wd.heap.size, 0, none⟩) (200 + fw) (200 + fw)] 58)) 58 (size := 4) (n := 0) [] rfl (by omega)).lower (base' := wd.heap.size) (by first | assumption | exact Nat.le_refl _)
                simp only [World.size_alloc] at ne614
                refine hK.out _ _ nh609 (fun _ => ?_)
                clear hK K
                try simp only [put_lit, List.set]
                refine wpAnyH_ready (rs := [3]) (by kernel_rfl) (by simp) (AllReadyH.cons rfl (fun K hK => ?_) AllReadyH.nil)
                · skip
                  refine step_app (base := wd.heap.size) (.tmp 24) (.tmp 26) 31 (by rfl) (by rfl) (by rfl) (by rfl) slSl ne614 nr610 hone (by omega) (by omega) (by first | assumption | exact Nat.le_refl _) ?_
                  intro A615 c616 v617 own618 fr619 hat620
                  have nb621 := nb608.step fr619 (fun j e => (by have := (ne614.row j e).1; omega))
                  have nh622 := Blk.fr nh609 fr619 (fun e => (by have := (ne614.row _ e).1; omega))
                  have nr623 := nr610.fr fr619 (fun j hj e => (by have := (ne614.row j e).1; omega))
                  have nl624 := Blk.fr nl612 fr619 (fun e => (by have e' : v431.heap.size + 1 = v431.heap.size := Option.some.inj e; omega))
                  have nm625 := no611.fr fr619 (fun j hj e => (by have e1 : wd.heap.size = j := Option.some.inj hj; have e2 : v431.heap.size + 1 = j := Option.some.inj e; omega))
                  rw [Nat.zero_add, List.nil_append] at own618
                  have ns626 := Nat.le_trans (by first | assumption | exact Nat.le_refl _ : wd.heap.size ≤ ((v431.alloc (.cells #[.int .i64 id.b, .int .i64 id.s, .int .u64 (id.u : Int), .slice (some ⟨wd.heap.size, 0, none⟩) (200 + fw) (200 + fw)] 58)).alloc (.cells #[] 58)).heap.size) fr619.size
                  refine hK.out _ _ nh622 (fun _ => ?_)
                  clear hK K
                  go_simp
                  refine wpAnyH_ready (rs := [10]) (by kernel_rfl) (by simp) (AllReadyH.cons rfl (fun K hK => ?_) AllReadyH.nil)
                  · skip
                    refine step_app (base := wd.heap.size) (.tmp 27) (.tmp 33) 31 (by rfl) (by rfl) (by rfl) (by rfl) slSl own618 (Rd.blk (n := 1) (size := 4) nl624 rfl) (by simp [Value.oneCell']) (by omega) (by omega) (by first | assumption | exact Nat.le_refl _) ?_
                    intro A627 c628 v629 own630 fr631 hat632
                    have nb633 := nb621.step fr631 (fun j e => (by have := (own618.row j e).1; omega))
                    have nh634 := Blk.fr nh622 fr631 (fun e => (by have := (own618.row _ e).1; omega))
                    have nr635 := nr623.fr fr631 (fun j hj e => (by have := (own618.row j e).1; omega))
                    have nm636 := nm625.fr fr631 (fun j hj e => (by have e1 : wd.heap.size = j := Option.some.inj hj; rcases hat620 with h | h; (have e2 : v431.heap.size + 1 = j := Option.some.inj (h.symm.trans e); omega); (have e2 := Option.some.inj (h.symm.trans e); (try simp only [World.size_alloc] at e2); omega)))
                    have ns637 := Nat.le_trans (by first | assumption | exact Nat.le_refl _ : wd.heap.size ≤ v617.heap.size) fr631.size
                    refine hK.out _ _ nh634 (fun _ => ?_)
                    clear hK K
                    go_simp
                    refine wpAnyH_take (i := 11) (v := ?_) rfl (by kernel_rfl) (by kernel_rfl) (by kernel_rfl) (fun _ _ _ h => h) (Or.inl ⟨by kernel_rfl, ?_⟩) nh634 ?_
                    rotate_left
                    focus (intro w' hSw; go_simp; (try with_reducible rfl))
                    try simp only [put_lit, List.set]
                    refine wpAnyH_ready (rs := [12]) (by kernel_rfl) (by simp) (AllReadyH.cons rfl (fun K hK => ?_) AllReadyH.nil)
                    · skip
                      refine want_pos (by kernel_rfl) ?_
                      have zs : v629.cell? ⟨w.heap.size, 24, none⟩ = some _ := nb633.blk.cell 24
                      have qs := nb633.blk.frozen 24
                      go_simp
                      refine hK.out _ _ (Blk.far nh634 (by show w.heap.size + 1 + 1 ≠ w.heap.size; omega) _) (fun _ => ?_)
                      clear hK K
                      try simp only [put_lit, List.set]
                      refine wpAnyH_done (by kernel_rfl) ?_ _
                      go_wp2_with (fail)
                      go_meet
                      exact hist_fin nb633 hid hnp hle hk hltd (by omega) hfw own630 nm636
          · skip
            refine want_pos (by kernel_rfl) ?_
            go_simp
            have nb638 := nb434.alloc (.cells #[.int .i64 id.b, .int .i64 id.s, .int .u64 (id.u : Int), .slice (some ⟨wd.heap.size, 0, none⟩) (200 + fw) (200 + fw)] 58)
            have nh639 := Blk.alloc nh435 (.cells #[.int .i64 id.b, .int .i64 id.s, .int .u64 (id.u : Int), .slice (some ⟨wd.heap.size, 0, none⟩) (200 + fw) (200 + fw)] 58)
            have nz640 := cell_alloc nz436 (.cells #[.int .i64 id.b, .int .i64 id.s, .int .u64 (id.u : Int), .slice (some ⟨wd.heap.size, 0, none⟩) (200 + fw) (200 + fw)] 58)
            have nr641 := nr437.alloc (.cells #[.int .i64 id.b, .int .i64 id.s, .int .u64 (id.u : Int), .slice (some ⟨wd.heap.size, 0, none⟩) (200 + fw) (200 + fw)] 58)
            have no642 := own432.alloc (.cells #[.int .i64 id.b, .int .i64 id.s, .int .u64 (id.u : Int), .slice (some ⟨wd.heap.size, 0, none⟩) (200 + fw) (200 + fw)] 58)
            have ns643 : wd.heap.size ≤ (v431.alloc (.cells #[.int .i64 id.b, .int .i64 id.s, .int .u64 (id.u : Int), .slice (some ⟨wd.heap.size, 0, none⟩) (200 + fw) (200 + fw)] 58)).heap.size := (by rw [World.size_alloc]; omega)
            have nl644 := Blk.new v431 58 #[.int .i64 id.b, .int .i64 id.s, .int .u64 (id.u : Int), .slice (some ⟨wd.heap.size, 0, none⟩) (200 + fw) (200 + fw)]
            refine hK.out _ _ nh639 (fun _ => ?_)
            clear hK K
            try simp only [put_lit, List.set]
            refine wpAnyH_ready (rs := [0, 2]) (by kernel_rfl) (by simp) (AllReadyH.cons rfl (fun K hK => ?_) (AllReadyH.cons rfl (fun K hK => ?_) AllReadyH.nil))
            · skip
              refine want_pos (by kernel_rfl) ?_
              go_simp
              have nb645 := nb638.alloc (.cells #[] 58)
              have nh646 := Blk.alloc nh639 (.cells #[] 58)
              have nz647 := cell_alloc nz640 (.cells #[] 58)
              have nr648 := nr641.alloc (.cells #[] 58)
              have no649 := no642.alloc (.cells #[] 58)
              have nl650 := Blk.alloc nl644 (.cells #[] 58)
              have ns651 : wd.heap.size ≤ ((v431.alloc (.cells #[.int .i64 id.b, .int .i64 id.s, .int .u64 (id.u : Int), .slice (some ⟨wd.heap.size, 0, none⟩) (200 + fw) (200 + fw)] 58)).alloc (.cells #[] 58)).heap.size := (by rw [World.size_alloc]; omega)
              have ne652 := (Own.litB (v431.alloc (.cells #[.int .i64 id.b, .int .i64 id.s, .int .u64 (id.u : Int), .slice (some ⟨wd.heap.size, 0, none⟩) (200 + fw) (200 + fw)] 58)) 58 (size := 4) (n := 0) [] rfl (by omega)).lower (base' := wd.heap.size) (by first | assumption | exact Nat.le_refl _)
              simp only [World.size_alloc] at ne652
              refine hK.out _ _ nh646 (fun _ => ?_)
              clear hK K
              try simp only [put_lit, List.set]
              refine wpAnyH_ready (rs := [2]) (by kernel_rfl) (by simp) (AllReadyH.cons rfl (fun K hK => ?_) AllReadyH.nil)
              · skip
                refine want_pos (by kernel_rfl) ?_
                have zl := nz647
                go_simp
                refine hK.out _ _ nh646 (fun _ => ?_)
                clear hK K
                try simp only [put_lit, List.set]
                refine wpAnyH_ready (rs := [3]) (by kernel_rfl) (by simp) (AllReadyH.cons rfl (fun K hK => ?_) AllReadyH.nil)
                · skip
                  refine step_app (base := wd.heap.size) (.tmp 24) (.tmp 26) 31 (by rfl) (by rfl) (by rfl) (by rfl) slSl ne652 nr648 hone (by omega) (by omega) (by first | assumption | exact Nat.le_refl _) ?_
                  intro A653 c654 v655 own656 fr657 hat658
                  have nb659 := nb645.step fr657 (fun j e => (by have := (ne652.row j e).1; omega))
                  have nh660 := Blk.fr nh646 fr657 (fun e => (by have := (ne652.row _ e).1; omega))
                  have nr661 := nr648.fr fr657 (fun j hj e => (by have := (ne652.row j e).1; omega))
                  have nl662 := Blk.fr nl650 fr657 (fun e => (by have e' : v431.heap.size + 1 = v431.heap.size := Option.some.inj e; omega))
                  have nm663 := no649.fr fr657 (fun j hj e => (by have e1 : wd.heap.size = j := Option.some.inj hj; have e2 : v431.heap.size + 1 = j := Option.some.inj e; omega))
                  rw [Nat.zero_add, List.nil_append] at own656
                  have ns664 := Nat.le_trans (by first | assumption | exact Nat.le_refl _ : wd.heap.size ≤ ((v431.alloc (.cells #[.int .i64 id.b, .int .i64 id.s, .int .u64 (id.u : Int), .slice (some ⟨wd.heap.size, 0, none⟩) (200 + fw) (200 + fw)] 58)).alloc (.cells #[] 58)).heap.size) fr657.size
                  refine hK.out _ _ nh660 (fun _ => ?_)
                  clear hK K
                  go_simp
                  refine wpAnyH_ready (rs := [10]) (by kernel_rfl) (by simp) (AllReadyH.cons rfl (fun K hK => ?_) AllReadyH.nil)
                  · skip
                    refine step_app (base := wd.heap.size) (.tmp 27) (.tmp 33) 31 (by rfl) (by rfl) (by rfl) (by rfl) slSl own656 (Rd.blk (n := 1) (size := 4) nl662 rfl) (by simp [Value.oneCell']) (by omega) (by omega) (by first | assumption | exact Nat.le_refl _) ?_
                    intro A665 c666 v667 own668 fr669 hat670
                    have nb671 := nb659.step fr669 (fun j e => (by have := (own656.row j e).1; omega))
                    have nh672 := Blk.fr nh660 fr669 (fun e => (by have := (own656.row _ e).1; omega))
                    have nr673 := nr661.fr fr669 (fun j hj e => (by have := (own656.row j e).1; omega))
                    have nm674 := nm663.fr fr669 (fun j hj e => (by have e1 : wd.heap.size = j := Option.some.inj hj; rcases hat658 with h | h; (have e2 : v431.heap.size + 1 = j := Option.some.inj (h.symm.trans e); omega); (have e2 := Option.some.inj (h.symm.trans e); (try simp only [World.size_alloc] at e2); omega)))
                    have ns675 := Nat.le_trans (by first | assumption | exact Nat.le_refl _ : wd.heap.size ≤ v655.heap.size) fr669.size
                    refine hK.out _ _ nh672 (fun _ => ?_)
                    clear hK K
                    go_simp
                    refine wpAnyH_take (i := 11) (v := ?_) rfl (by kernel_rfl) (by kernel_rfl) (by kernel_rfl) (fun _ _ _ h => h) (Or.inl ⟨by kernel_rfl, ?_⟩) nh672 ?_
                    rotate_left
                    focus (intro w' hSw; go_simp; (try with_reducible rfl))
                    try simp only [put_lit, List.set]
                    refine wpAnyH_ready (rs := [12]) (by kernel_rfl) (by simp) (AllReadyH.cons rfl (fun K hK => ?_) AllReadyH.nil)
                    · skip
                      refine want_pos (by kernel_rfl) ?_
                      have zs : v667.cell? ⟨w.heap.size, 24, none⟩ = some _ := nb671.blk.cell 24
                      have qs := nb671.blk.frozen 24
                      go_simp
                      refine hK.out _ _ (Blk.far nh672 (by show w.heap.size + 1 + 1 ≠ w.heap.size; omega) _) (fun _ => ?_)
                      clear hK K
                      try simp only [put_lit, List.set]
                      refine wpAnyH_done (by kernel_rfl) ?_ _
                      go_wp2_with (fail)
                      go_meet
                      exact hist_fin nb671 hid hnp hle hk hltd (by omega) hfw own668 nm674
            · skip
              refine want_pos (by kernel_rfl) ?_
              have zl := nz640
              go_simp
              refine hK.out _ _ nh639 (fun _ => ?_)
              clear hK K
              try simp only [put_lit, List.set]
              refine wpAnyH_ready (rs := [0]) (by kernel_rfl) (by simp) (AllReadyH.cons rfl (fun K hK => ?_) AllReadyH.nil)
              · skip
                refine want_pos (by kernel_rfl) ?_
                go_simp
                have nb676 := nb638.alloc (.cells #[] 58)
                have nh677 := Blk.alloc nh639 (.cells #[] 58)
                have nr678 := nr641.alloc (.cells #[] 58)
                have no679 := no642.alloc (.cells #[] 58)
                have nl680 := Blk.alloc nl644 (.cells #[] 58)
                have ns681 : wd.heap.size ≤ ((v431.alloc (.cells #[.int .i64 id.b, .int .i64 id.s, .int .u64 (id.u : Int), .slice (some ⟨wd.heap.size, 0, none⟩) (200 + fw) (200 + fw)] 58)).alloc (.cells #[] 58)).heap.size := (by rw [World.size_alloc]; omega)
                have ne682 := (Own.litB (v431.alloc (.cells #[.int .i64 id.b, .int .i64 id.s, .int .u64 (id.u : Int), .slice (some ⟨wd.heap.size, 0, none⟩) (200 + fw) (200 + fw)] 58)) 58 (size := 4) (n := 0) [] rfl (by omega)).lower (base' := wd.heap.size) (by first | assumption | exact Nat.le_refl _)
                simp only [World.size_alloc] at ne682
                refine hK.out _ _ nh677 (fun _ => ?_)
                clear hK K
                try simp only [put_lit, List.set]
                refine wpAnyH_ready (rs := [3]) (by kernel_rfl) (by simp) (AllReadyH.cons rfl (fun K hK => ?_) AllReadyH.nil)
                · skip
                  refine step_app (base := wd.heap.size) (.tmp 24) (.tmp 26) 31 (by rfl) (by rfl) (by rfl) (by rfl) slSl ne682 nr678 hone (by omega) (by omega) (by first | assumption | exact Nat.le_refl _) ?_
                  intro A683 c684 v685 own686 fr687 hat688
                  have nb689 := nb676.step fr687 (fun j e => (by have := (ne682.row j e).1; omega))
                  have nh690 := Blk.fr nh677 fr687 (fun e => (by have := (ne682.row _ e).1; omega))
                  have nr691 := nr678.fr fr687 (fun j hj e => (by have := (ne682.row j e).1; omega))
                  have nl692 := Blk.fr nl680 fr687 (fun e => (by have e' : v431.heap.size + 1 = v431.heap.size := Option.some.inj e; omega))
                  have nm693 := no679.fr fr687 (fun j hj e => (by have e1 : wd.heap.size = j := Option.some.inj hj; have e2 : v431.heap.size + 1 = j := Option.some.inj e; omega))
                  rw [Nat.zero_add, List.nil_append] at own686
                  have ns694 := Nat.le_trans (by first | assumption | exact Nat.le_refl _ : wd.heap.size ≤ ((v431.alloc (.cells #[.int .i64 id.b, .int .i64 id.s, .int .u64 (id.u : Int), .slice (some ⟨wd.heap.size, 0, none⟩) (200 + fw) (200 + fw)] 58)).alloc (.cells #[] 58)).heap.size) fr687.size
                  refine hK.out _ _ nh690 (fun _ => ?_)
                  clear hK K
                  go_simp
                  refine wpAnyH_ready (rs := [10]) (by kernel_rfl) (by simp) (AllReadyH.cons rfl (fun K hK => ?_) AllReadyH.nil)
                  · skip
                    refine step_app (base := wd.heap.size) (.tmp 27) (.tmp 33) 31 (by rfl) (by rfl) (by rfl) (by rfl) slSl own686 (Rd.blk (n := 1) (size := 4) nl692 rfl) (by simp [Value.oneCell']) (by omega) (by omega) (by first | assumption | exact Nat.le_refl _) ?_
                    intro A695 c696 v697 own698 fr699 hat700
                    have nb701 := nb689.step fr699 (fun j e => (by have := (own686.row j e).1; omega))
                    have nh702 := Blk.fr nh690 fr699 (fun e => (by have := (own686.row _ e).1; omega))
                    have nr703 := nr691.fr fr699 (fun j hj e => (by have := (own686.row j e).1; omega))
                    have nm704 := nm693.fr fr699 (fun j hj e => (by have e1 : wd.heap.size = j := Option.some.inj hj; rcases hat688 with h | h; (have e2 : v431.heap.size + 1 = j := Option.some.inj (h.symm.trans e); omega); (have e2 := Option.some.inj (h.symm.trans e); (try simp only [World.size_alloc] at e2); omega)))
                    have ns705 := Nat.le_trans (by first | assumption | exact Nat.le_refl _ : wd.heap.size ≤ v685.heap.size) fr699.size
                    refine hK.out _ _ nh702 (fun _ => ?_)
                    clear hK K
                    go_simp
                    refine wpAnyH_take (i := 11) (v := ?_) rfl (by kernel_rfl) (by kernel_rfl) (by kernel_rfl) (fun _ _ _ h => h) (Or.inl ⟨by kernel_rfl, ?_⟩) nh702 ?_
                    rotate_left
                    focus (intro w' hSw; go_simp; (try with_reducible rfl))
                    try simp only [put_lit, List.set]
                    refine wpAnyH_ready (rs := [12]) (by kernel_rfl) (by simp) (AllReadyH.cons rfl (fun K hK => ?_) AllReadyH.nil)
                    · skip
                      refine want_pos (by kernel_rfl) ?_
                      have zs : v697.cell? ⟨w.heap.size, 24, none⟩ = some _ := nb701.blk.cell 24
                      have qs := nb701.blk.frozen 24
                      go_simp
                      refine hK.out _ _ (Blk.far nh702 (by show w.heap.size + 1 + 1 ≠ w.heap.size; omega) _) (fun _ => ?_)
                      clear hK K
                      try simp only [put_lit, List.set]
                      refine wpAnyH_done (by kernel_rfl) ?_ _
                      go_wp2_with (fail)
                      go_meet
                      exact hist_fin nb701 hid hnp hle hk hltd (by omega) hfw own698 nm704
  case rest =>
  clear bs hbi
  obtain ⟨y, hb, hres, yok, yfew, yfr, yat⟩ := hcut
  generalize wc = w5 at *
  have hone : y.cells.all (·.oneCell') = true := by unfold OpL.cells; simp [Value.oneCell']
  have fin : Hid (∀ wz, Fr (One (w.heap.size + 1)) w5 wz → BentPost k w (.returned (.agg y.cells)) wz) := fun wz hf =>
    ⟨y, rfl, yok, yfew, yat.out wz (hf.mono (fun j _ e => .inr e)), yfr.trans hf (fun j hj e => absurd hj (by have e' : j = w.heap.size + 1 := e; omega))⟩
  clear yok yfew yfr yat hm hw hid hu' eu
  have tok1 : True := trivial
  go_wp2_with (first
    | (have _t := tok1; refine wpList_load_row rfl 35 (.tmp 3) rfl rfl hb Tryz.underlying35 rfl hi ?_; clear tok1 _t)
    | (refine wpList_store_row rfl 35 (.tmp 6) (.tmp 156) rfl rfl rfl rfl hres hi rfl hone ?_; have hfz := (Fr.refl (One (w.heap.size + 1)) w5).setRow (g := w.heap.size + 1) (fun _ => rfl) y.cells; have hz2 := hres.setRow (cs := y.cells); generalize w5.setRow (w.heap.size + 1) y.cells = wz at hfz hz2 ⊢; (repeat (first | go_values | go_skip | go_guarded | go_step)); exact ret_blk (t := 35) rfl rfl hz2 rfl Tryz.underlying35 (by kernel_rfl) rfl (fin.out wz hfz)))
end Oq
end Go.Proofs.YtahcddlgghipjaaGreatDoor
