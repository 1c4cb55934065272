/-
  The reference of layer 11: the bytes of an operation (ints, nums, boxes, Bytes, Put, SameOp).
  Conditions: the operation reads; numbers are of their kinds; lists are not too long.
-/
import Derived.Test.YtahcddlgghipjaaGreatDoorOpPutB
import Derived.Test.YtahcddlgghipjaaGreatDoorRef04W
namespace Go.Proofs.YtahcddlgghipjaaGreatDoor
open Go.RowKit
attribute [local go_sem ↓] Go.wp_at_zero Go.wp_at_succ
namespace Oq

/-- Bytes that are gathered in a variable, from world w0 on: at most K. -/
structure Acc (w0 w : World) (A : Option Addr) (c L K : Nat) (D : List UInt8) : Prop where
  own : Own w w0.heap.size 5 1 A L c (D.map Bv)
  fr : Fr Non w0 w
  le : L ≤ K
section
variable {w0 w w' : World} {A : Option Addr} {c L K : Nat} {D : List UInt8}
theorem Acc.len (h : Acc w0 w A c L K D) : L = D.length := by have := h.own.len; simpa using this.symm
theorem Acc.nil (w : World) : Acc w w none 0 0 0 [] := ⟨Own.nil _ _ _ _, Fr.refl _ _, Nat.le_refl _⟩
theorem Acc.step (h : Acc w0 w A c L K D) (hf : Fr Non w w') : Acc w0 w' A c L K D := ⟨h.own.fr hf (fun _ _ e => e), h.fr.trans hf (fun _ _ e => e), h.le⟩
theorem Acc.more (h : Acc w0 w A c L K D) {K' : Nat} (hK : K ≤ K') : Acc w0 w A c L K' D := ⟨h.own, h.fr, Nat.le_trans h.le hK⟩
theorem Acc.of_new {X : List UInt8} (hown : Own w' w.heap.size 5 1 A X.length c (X.map Bv)) (hf : Fr Non w w') (hX : X.length ≤ K) : Acc w w' A c X.length K X := ⟨hown, hf, hX⟩
theorem Acc.post {w1 : World} (h : Acc w0 w A c L K D) (hf : Fr Non w1 w0) {D' : List UInt8} (e : D' = D) : NewB w1 D' (.returned (.slice A L c)) w := by
  subst e
  have hl := h.len
  subst hl
  exact ⟨A, c, rfl, h.own.lower hf.size, hf.trans h.fr (fun _ _ e => e)⟩
end
theorem wpList_acc {P : Program} {ops : Array Oper} {rest : List Oper} {o : Oper} {a : Act} {Q : Exit → Act → World → Prop} {w0 w : World} (s x : Operand) (t : TypeId) (hgd : o.guard = none)
    (ho : o.op = .call { callee := .builtin .append, args := #[s, x], argTypes := #[t, t] })
    {c L K cx base : Nat} {A Ax : Option Addr} {D X : List UInt8} (Kx : Nat)
    (hs : a.eval s = .slice A L c) (hx : a.eval x = .slice Ax X.length cx) (hT : SlT P t 5 (.int .u8 0) 1 1) (h : Acc w0 w A c L K D) (hr : Own w base 5 1 Ax X.length cx (X.map Bv)) (hX : X.length ≤ Kx) (hK : K + Kx ≤ 1099511627776)
    (hk : ∀ A' c' L' w', Acc w0 w' A' c' L' (K + Kx) (D ++ X) → wpList P ops Q rest (a.put o.dst (.slice A' L' c')) w') : wpList P ops Q (o :: rest) a w := by
  have hle := h.le
  refine wpList_app s x t hgd ho hs hx hT h.own hr.rd (Bv_one _) (by omega) (by omega) h.fr.size ?_
  intro A' c' w' hown hf _
  rw [← List.map_append] at hown
  exact hk A' c' _ w' ⟨hown, h.fr.trans hf (h.own.notNon (Nat.le_refl _)), by omega⟩
theorem step_acc {P : Program} {ops : Array Oper} {o : Oper} {a : Act} {Kt : Act → World → Prop} {Q : Exit → Act → World → Prop} {E : Prop} {w0 w : World} (s x : Operand) (t : TypeId) (hgd : o.guard = none)
    (ho : o.op = .call { callee := .builtin .append, args := #[s, x], argTypes := #[t, t] })
    {c L K cx base : Nat} {A Ax : Option Addr} {D X : List UInt8} (Kx : Nat)
    (hs : a.eval s = .slice A L c) (hx : a.eval x = .slice Ax X.length cx) (hT : SlT P t 5 (.int .u8 0) 1 1) (h : Acc w0 w A c L K D) (hr : Own w base 5 1 Ax X.length cx (X.map Bv)) (hX : X.length ≤ Kx) (hK : K + Kx ≤ 1099511627776)
    (hk : ∀ A' c' L' w', Acc w0 w' A' c' L' (K + Kx) (D ++ X) → Fr Non w0 w' → Kt (a.put o.dst (.slice A' L' c')) w') :
    if Region.wanted o (yielded ops a.tmps) = true then Oper.wp P o a w Kt Q else E := by
  have hle := h.le
  refine step_app s x t hgd ho hs hx hT h.own hr.rd (Bv_one _) (by omega) (by omega) h.fr.size ?_
  intro A' c' w' hown hf _
  rw [← List.map_append] at hown
  have hff := h.fr.trans hf (h.own.notNon (Nat.le_refl _))
  exact hk A' c' _ w' ⟨hown, hff, by omega⟩ hff

theorem Uv_blk {w : World} {k : Nat} {l : List Nat} (h : Blk w k 25 (l.map Uv).toArray) (n : Nat) (hn : l.length = n) : Rd w w.heap.size 1 (some ⟨k, 0, none⟩) n (l.map Uv) := by
  refine ⟨by simp [hn], .inr ⟨k, 0, rfl, h.lt, fun j u hu => ?_⟩⟩
  rw [Nat.zero_add, h.cell j, List.getElem?_toArray]
  exact hu
theorem Iv_blk {w : World} {k : Nat} {l : List Int} (h : Blk w k 3 (l.map Iv).toArray) (n : Nat) (hn : l.length = n) : Rd w w.heap.size 1 (some ⟨k, 0, none⟩) n (l.map Iv) := by
  refine ⟨by simp [hn], .inr ⟨k, 0, rfl, h.lt, fun j u hu => ?_⟩⟩
  rw [Nat.zero_add, h.cell j, List.getElem?_toArray]
  exact hu
theorem bx_flat (x : Bx) : [x.t, x.e, x.y, x.g].flatMap Pk.num = x.bytes := by unfold Bx.bytes; simp [List.flatMap_cons]

end Oq
end Go.Proofs.YtahcddlgghipjaaGreatDoor
