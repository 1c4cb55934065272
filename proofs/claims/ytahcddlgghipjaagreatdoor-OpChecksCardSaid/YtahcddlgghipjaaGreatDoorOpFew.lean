/-
  An operation of the right form has short lists. Plain Lean; no condition.
-/
import Derived.Test.YtahcddlgghipjaaGreatDoorOpOk
import Derived.Test.YtahcddlgghipjaaGreatDoorFewDef
import Derived.Test.YtahcddlgghipjaaGreatDoorOpPut
import Derived.Test.YtahcddlgghipjaaGreatDoorOpParse
namespace Go.Proofs.YtahcddlgghipjaaGreatDoor
namespace Oq
theorem few_of_chk {o : Op} (h : o.chk = 0) : Few 20 o := by
  rw [chk_ok] at h
  obtain ⟨hk, h2, h3, h4, h5, _, _⟩ := h
  have hbx : o.boxes.length ≤ 20 := by
    unfold Op.bareB at h2
    simp only [Bool.and_eq_true, Bool.or_eq_true] at h2
    have hb := h2.1.2
    unfold Op.longB at h5
    simp only [Bool.or_eq_false_iff] at h5
    have hl := h5.2
    have hg : o.guards.length ≤ 6 := by simpa using h5.1.2
    rcases hb with ((hb | hb) | hb) | hb
    · rw [List.isEmpty_iff] at hb
      rw [hb]; simp
    · rw [beq_iff_eq] at hb
      simp [hb] at hl
      omega
    · rw [beq_iff_eq] at hb
      simp [hb] at hl
      omega
    · rw [beq_iff_eq] at hb
      simp [hb] at hl
      omega
  unfold Op.longB at h5
  simp only [Bool.or_eq_false_iff, List.any_eq_false] at h5
  obtain ⟨⟨⟨⟨⟨⟨⟨⟨l1, l2⟩, l3⟩, l4⟩, l5⟩, l6⟩, l7⟩, l8⟩, _⟩ := h5
  simp at l1 l2 l3 l4 l5 l6 l7 l8
  exact ⟨by omega, by omega, by omega, by omega, hbx, by omega, fun y hy => by have := l1 y hy; omega, by omega, fun y hy => by have := l2 y hy; omega⟩
theorem Nd.short (x : Nd) (h : x.xs.length ≤ 20) : x.bytes.length ≤ 1000 := by
  unfold Nd.bytes
  rw [List.length_append]
  have h1 := Pk.num_len x.p
  have h2 := lst_le x.xs (fun y _ => Bx.bytes_len y)
  omega
theorem Sl.short (x : Sl) (h : x.y.length ≤ 300) : x.bytes.length ≤ 400 := by
  unfold Sl.bytes
  rw [List.length_append]
  have h1 := Id.bytes_len x.f
  have h2 := Pk.text_len x.y
  omega
/-- Short lists make short bytes. -/
theorem few_len {k : Nat} {o : Op} (h : Few k o) (hk : k ≤ 100) : o.put.length ≤ 500000 := by
  have h1 := lst_le o.past (fun y _ => Id.bytes_len y)
  have h2 := lst_le o.path (fun y hy => Nd.short y (h.nodes y hy))
  have h3 := lst_le o.refs (fun y _ => Pk.num_len y)
  have h4 := lst_le o.guards (fun y _ => Pk.int_len y)
  have h5 := lst_le o.boxes (fun y _ => Bx.bytes_len y)
  have h6 := lst_le o.hist (fun y hy => Sl.short y (h.seals y hy))
  have h7 := Pk.text_len o.body
  have g1 := h.past
  have g2 := h.path
  have g3 := h.refs
  have g4 := h.guards
  have g5 := h.boxes
  have g6 := h.hist
  have g7 := h.body
  have i1 := Pk.int_len o.by_
  have i2 := Pk.int_len o.sq
  have i3 := Pk.int_len o.kind
  have i4 := Pk.int_len o.at_
  have i5 := Pk.int_len o.dev
  have i6 := Pk.int_len o.old
  have i7 := Pk.int_len o.mem
  have i8 := Pk.int_len o.role
  have i9 := Pk.int_len o.n
  have i10 := Pk.int_len o.need
  have i11 := Pk.int_len o.wait
  have i12 := Pk.num_len o.pub
  have i13 := Id.bytes_len o.epoch
  have i14 := Id.bytes_len o.of
  have i15 := Pk.num_len o.r
  have i16 := Pk.num_len o.s
  unfold Op.put Op.bare
  simp only [List.length_append]
  omega
theorem mem_lst {α : Type} {enc : α → List UInt8} {l : List α} {x : α} (h : x ∈ l) : (enc x).length ≤ (lst enc l).length := by
  unfold lst
  rw [List.length_append]
  have : (enc x).length ≤ (l.flatMap enc).length := by
    induction l with
    | nil => cases h
    | cons y l ih =>
      rw [List.flatMap_cons, List.length_append]
      rcases List.mem_cons.1 h with rfl | h
      · omega
      · have := ih h; omega
  omega
theorem text_ge (b : List UInt8) : b.length ≤ (Pk.text b).length := by
  unfold Pk.text
  rw [List.length_append]
  omega
/-- What is read from short bytes has short texts. -/
theorem ok_of_put {o : Op} (h : o.okR) (hl : o.put.length ≤ 1000000) : o.ok := by
  have hb := text_ge o.body
  have hp : (Pk.text o.body).length ≤ o.put.length ∧ (lst Sl.bytes o.hist).length ≤ o.put.length := by
    unfold Op.put Op.bare
    simp only [List.length_append]
    omega
  exact ⟨h.by_, h.sq, h.kind, h.at_, h.past, h.dev, h.old, h.mem, h.role, h.path, h.epoch, h.n, by omega, h.refs, h.of, h.guards, h.need, h.wait, h.boxes, h.pub, ⟨h.hist.1, fun x hx => ⟨(h.hist.2 x hx).1, by
    have h1 := mem_lst (enc := Sl.bytes) hx
    have h2 := text_ge x.y
    have h3 : (Pk.text x.y).length ≤ x.bytes.length := by unfold Sl.bytes; rw [List.length_append]; omega
    omega⟩⟩, h.r, h.s⟩
end Oq
end Go.Proofs.YtahcddlgghipjaaGreatDoor
