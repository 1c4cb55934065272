/-
  Reading a whole operation: what is put is read; what is read was put so; what is cut off is short.
  Plain Lean; no program; no condition.
-/
import Derived.Test.YtahcddlgghipjaaGreatDoorOpMem
namespace Go.Proofs.YtahcddlgghipjaaGreatDoor
namespace Oq
open Pk
structure Op.okR (o : Op) : Prop where
  by_ : I64 o.by_
  sq : I64 o.sq
  kind : I64 o.kind
  at_ : I64 o.at_
  past : (o.past.length ≤ 1000 ∧ ∀ x ∈ o.past, Id.ok x)
  dev : I64 o.dev
  old : I64 o.old
  mem : I64 o.mem
  role : I64 o.role
  path : (o.path.length ≤ 1000 ∧ ∀ x ∈ o.path, Nd.ok x)
  epoch : Id.ok o.epoch
  n : I64 o.n
  body : o.body.length ≤ 9223372036854775807
  refs : (o.refs.length ≤ 1000 ∧ ∀ x ∈ o.refs, U64 x)
  of : Id.ok o.of
  guards : (o.guards.length ≤ 1000 ∧ ∀ x ∈ o.guards, I64 x)
  need : I64 o.need
  wait : I64 o.wait
  boxes : (o.boxes.length ≤ 1000 ∧ ∀ x ∈ o.boxes, Bx.ok x)
  pub : U64 o.pub
  hist : (o.hist.length ≤ 1000 ∧ ∀ x ∈ o.hist, Sl.ok x)
  r : U64 o.r
  s : U64 o.s

def rdAll : Rdr ((((((((((((((((((((((Int × Int) × Int) × Int) × List Id) × Int) × Int) × Int) × Int) × List Nd) × Id) × Int) × List UInt8) × List Nat) × Id) × List Int) × Int) × Int) × List Bx) × Nat) × List Sl) × Nat) × Nat) := seq (seq (seq (seq (seq (seq (seq (seq (seq (seq (seq (seq (seq (seq (seq (seq (seq (seq (seq (seq (seq (seq rdInt rdInt) rdInt) rdInt) (lstR rdId)) rdInt) rdInt) rdInt) rdInt) (lstR rdNd)) rdId) rdInt) rdText) (lstR rd)) rdId) (lstR rdInt)) rdInt) rdInt) (lstR rdBx)) rd) (lstR rdSl)) rd) rd
def mkOp (p : ((((((((((((((((((((((Int × Int) × Int) × Int) × List Id) × Int) × Int) × Int) × Int) × List Nd) × Id) × Int) × List UInt8) × List Nat) × Id) × List Int) × Int) × Int) × List Bx) × Nat) × List Sl) × Nat) × Nat)) : Op := ⟨p.1.1.1.1.1.1.1.1.1.1.1.1.1.1.1.1.1.1.1.1.1.1, p.1.1.1.1.1.1.1.1.1.1.1.1.1.1.1.1.1.1.1.1.1.2, p.1.1.1.1.1.1.1.1.1.1.1.1.1.1.1.1.1.1.1.1.2, p.1.1.1.1.1.1.1.1.1.1.1.1.1.1.1.1.1.1.1.2, p.1.1.1.1.1.1.1.1.1.1.1.1.1.1.1.1.1.1.2, p.1.1.1.1.1.1.1.1.1.1.1.1.1.1.1.1.1.2, p.1.1.1.1.1.1.1.1.1.1.1.1.1.1.1.1.2, p.1.1.1.1.1.1.1.1.1.1.1.1.1.1.1.2, p.1.1.1.1.1.1.1.1.1.1.1.1.1.1.2, p.1.1.1.1.1.1.1.1.1.1.1.1.1.2, p.1.1.1.1.1.1.1.1.1.1.1.1.2, p.1.1.1.1.1.1.1.1.1.1.1.2, p.1.1.1.1.1.1.1.1.1.1.2, p.1.1.1.1.1.1.1.1.1.2, p.1.1.1.1.1.1.1.1.2, p.1.1.1.1.1.1.1.2, p.1.1.1.1.1.1.2, p.1.1.1.1.1.2, p.1.1.1.1.2, p.1.1.1.2, p.1.1.2, p.1.2, p.2⟩
def unOp (o : Op) : ((((((((((((((((((((((Int × Int) × Int) × Int) × List Id) × Int) × Int) × Int) × Int) × List Nd) × Id) × Int) × List UInt8) × List Nat) × Id) × List Int) × Int) × Int) × List Bx) × Nat) × List Sl) × Nat) × Nat) := ((((((((((((((((((((((o.by_, o.sq), o.kind), o.at_), o.past), o.dev), o.old), o.mem), o.role), o.path), o.epoch), o.n), o.body), o.refs), o.of), o.guards), o.need), o.wait), o.boxes), o.pub), o.hist), o.r), o.s)
def rdOp : Rdr Op := mapR rdAll mkOp
theorem put_eq (o : Op) : o.put = Pk.int o.by_ ++ Pk.int o.sq ++ Pk.int o.kind ++ Pk.int o.at_ ++ lst Id.bytes o.past ++ Pk.int o.dev ++ Pk.int o.old ++ Pk.int o.mem ++ Pk.int o.role ++ lst Nd.bytes o.path ++ Id.bytes o.epoch ++ Pk.int o.n ++ text o.body ++ lst Pk.num o.refs ++ Id.bytes o.of ++ lst Pk.int o.guards ++ Pk.int o.need ++ Pk.int o.wait ++ lst Bx.bytes o.boxes ++ Pk.num o.pub ++ lst Sl.bytes o.hist ++ Pk.num o.r ++ Pk.num o.s := rfl
theorem good_op : Good rdOp Op.put Op.okR := by
  have h := ((((((((((((((((((((((good_int).seq (good_int)).seq (good_int)).seq (good_int)).seq (good_id.lst)).seq (good_int)).seq (good_int)).seq (good_int)).seq (good_int)).seq (good_nd.lst)).seq (good_id)).seq (good_int)).seq (good_text)).seq (good_num.lst)).seq (good_id)).seq (good_int.lst)).seq (good_int)).seq (good_int)).seq (good_bx.lst)).seq (good_num)).seq (good_sl.lst)).seq (good_num)).seq (good_num)
  refine Good.map h (g := mkOp) (h := unOp) (fun _ => rfl) (fun _ => rfl) (fun _ => rfl) ?_
  intro o
  exact ⟨fun k => ⟨⟨⟨⟨⟨⟨⟨⟨⟨⟨⟨⟨⟨⟨⟨⟨⟨⟨⟨⟨⟨⟨k.by_, k.sq⟩, k.kind⟩, k.at_⟩, k.past⟩, k.dev⟩, k.old⟩, k.mem⟩, k.role⟩, k.path⟩, k.epoch⟩, k.n⟩, k.body⟩, k.refs⟩, k.of⟩, k.guards⟩, k.need⟩, k.wait⟩, k.boxes⟩, k.pub⟩, k.hist⟩, k.r⟩, k.s⟩, fun k => ⟨k.1.1.1.1.1.1.1.1.1.1.1.1.1.1.1.1.1.1.1.1.1.1, k.1.1.1.1.1.1.1.1.1.1.1.1.1.1.1.1.1.1.1.1.1.2, k.1.1.1.1.1.1.1.1.1.1.1.1.1.1.1.1.1.1.1.1.2, k.1.1.1.1.1.1.1.1.1.1.1.1.1.1.1.1.1.1.1.2, k.1.1.1.1.1.1.1.1.1.1.1.1.1.1.1.1.1.1.2, k.1.1.1.1.1.1.1.1.1.1.1.1.1.1.1.1.1.2, k.1.1.1.1.1.1.1.1.1.1.1.1.1.1.1.1.2, k.1.1.1.1.1.1.1.1.1.1.1.1.1.1.1.2, k.1.1.1.1.1.1.1.1.1.1.1.1.1.1.2, k.1.1.1.1.1.1.1.1.1.1.1.1.1.2, k.1.1.1.1.1.1.1.1.1.1.1.1.2, k.1.1.1.1.1.1.1.1.1.1.1.2, k.1.1.1.1.1.1.1.1.1.1.2, k.1.1.1.1.1.1.1.1.1.2, k.1.1.1.1.1.1.1.1.2, k.1.1.1.1.1.1.1.2, k.1.1.1.1.1.1.2, k.1.1.1.1.1.2, k.1.1.1.1.2, k.1.1.1.2, k.1.1.2, k.1.2, k.2⟩⟩

theorem Op.ok.okR {o : Op} (h : o.ok) : o.okR where
  by_ := h.by_
  sq := h.sq
  kind := h.kind
  at_ := h.at_
  past := h.past
  dev := h.dev
  old := h.old
  mem := h.mem
  role := h.role
  path := h.path
  epoch := h.epoch
  n := h.n
  body := Nat.le_trans h.body (by decide)
  refs := h.refs
  of := h.of
  guards := h.guards
  need := h.need
  wait := h.wait
  boxes := h.boxes
  pub := h.pub
  hist := ⟨h.hist.1, fun x hx => ⟨(h.hist.2 x hx).1, Nat.le_trans (h.hist.2 x hx).2 (by decide)⟩⟩
  r := h.r
  s := h.s

/-- What Get answers. -/
def get (bs : List UInt8) : Op × Int :=
  if Pk.endE bs (rdOp bs 0 0).2.1 (rdOp bs 0 0).2.2 ≠ 0 then (Op.zero, Pk.endE bs (rdOp bs 0 0).2.1 (rdOp bs 0 0).2.2) else ((rdOp bs 0 0).1, 0)
theorem get_put {o : Op} (h : o.okR) : get o.put = (o, 0) := by
  have hb := good_op.back o.put 0 o [] h (by rw [List.drop_zero, List.append_nil])
  unfold get
  rw [hb]
  have he : Pk.endE o.put (0 + o.put.length) 0 = 0 := by unfold Pk.endE; rw [if_neg (by omega)]
  show (if Pk.endE o.put (0 + o.put.length) 0 ≠ 0 then _ else _) = _
  rw [he]
  rfl
theorem get_inv {bs : List UInt8} {o : Op} (h : get bs = (o, 0)) : o.okR ∧ o.put = bs := by
  unfold get at h
  by_cases hc : Pk.endE bs (rdOp bs 0 0).2.1 (rdOp bs 0 0).2.2 ≠ 0
  · rw [if_pos hc] at h
    have hz : Pk.endE bs (rdOp bs 0 0).2.1 (rdOp bs 0 0).2.2 = 0 := by injection h
    exact absurd hz hc
  · rw [if_neg hc] at h
    have hc' := Decidable.not_not.1 hc
    unfold Pk.endE at hc'
    by_cases hd : (rdOp bs 0 0).2.2 = 0 ∧ (rdOp bs 0 0).2.1 < bs.length
    · rw [if_pos hd] at hc'
      exact absurd hc' (by decide)
    · rw [if_neg hd] at hc'
      obtain ⟨_, h2, h3, r, h4⟩ := good_op.inv bs 0 0 hc'
      have ho : (rdOp bs 0 0).1 = o := congrArg Prod.fst h
      rw [ho] at h2 h3 h4
      refine ⟨h2, ?_⟩
      rw [List.drop_zero] at h4
      have hl : bs.length = o.put.length + r.length := by rw [h4, List.length_append]
      have hr : r = [] := List.eq_nil_of_length_eq_zero (by omega)
      rw [h4, hr, List.append_nil]
theorem get_cut {o : Op} (h : o.okR) {j : Nat} (hj : j < o.put.length) : get (o.put.take j) = (Op.zero, 9) := by
  have h9 := good_op.cut (o.put.take j) 0 o j h hj (List.drop_zero)
  unfold get
  have he : Pk.endE (o.put.take j) (rdOp (o.put.take j) 0 0).2.1 (rdOp (o.put.take j) 0 0).2.2 = 9 := by unfold Pk.endE; rw [if_neg (by rw [h9]; simp), h9]
  rw [he, if_pos (by decide)]
theorem get_more {o : Op} (h : o.okR) (r : List UInt8) (hr : 0 < r.length) : get (o.put ++ r) = (Op.zero, 2) := by
  have hb := good_op.back (o.put ++ r) 0 o r h (List.drop_zero)
  unfold get
  rw [hb]
  have he : Pk.endE (o.put ++ r) (0 + o.put.length) 0 = 2 := by unfold Pk.endE; rw [if_pos ⟨rfl, by rw [List.length_append]; omega⟩]
  show (if Pk.endE (o.put ++ r) (0 + o.put.length) 0 ≠ 0 then (Op.zero, Pk.endE (o.put ++ r) (0 + o.put.length) 0) else _) = _
  rw [he, if_pos (by decide)]
theorem get_bad {bs : List UInt8} (h : (get bs).2 ≠ 0) : (get bs).1 = Op.zero := by
  unfold get at h ⊢
  by_cases hc : Pk.endE bs (rdOp bs 0 0).2.1 (rdOp bs 0 0).2.2 ≠ 0
  · rw [if_pos hc]
  · rw [if_neg hc] at h
    exact absurd rfl h
theorem put_inj {a b : Op} (ha : a.okR) (hb : b.okR) (h : a.put = b.put) : a = b := by
  have h1 := get_put ha
  rw [h, get_put hb] at h1
  exact (congrArg Prod.fst h1).symm
end Oq
end Go.Proofs.YtahcddlgghipjaaGreatDoor
