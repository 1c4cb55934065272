/-
  pack.Open: the In's bytes are a copy of what was handed in, in a row of its own; an own row's first cell.
-/
import Derived.Test.YtahcddlgghipjaaGreatDoorRegion
import Derived.Test.YtahcddlgghipjaaGreatDoorPackOut
namespace Go.Proofs.YtahcddlgghipjaaGreatDoor
open Go.RowKit

/-- A new In over these bytes, its bytes in a new row. -/
def OpenedPost (bs : List UInt8) (w : World) (r : Ending) (w' : World) : Prop :=
  ∃ g A c, r = .returned (.pointer (some ⟨g, 0, none⟩)) ∧ Blk w' g 111 #[.slice A bs.length c, .int .i64 0, .int .i64 0] ∧ Own w' w.heap.size 5 1 A bs.length c (bs.map Bv) ∧ Fr Non w w' ∧ w.heap.size ≤ g ∧ (∀ k, rowOf A = some k → k < g) ∧ Hid (bs.length ≤ 4611686018427387904)

theorem opened_any (B n c : Nat) (A : Option Addr) (bs : List UInt8) (w : World) (hn : Hid (bs.length = n)) (hr : Rd w B 1 A n (bs.map Bv)) (hl : n ≤ 1099511627776) :
    Calls Tryz.prog 55 #[.slice A n c] w (OpenedPost bs w) := by
  have hnil := Own.nil w w.heap.size 5 1
  go_enter Tryz.func55, Tryz.ntmps55
  go_wp2_with (first | (at_builtin; go_loud (refine wpList_app (.const (.slice none 0 0)) (.tmp 3) 28 rfl rfl rfl rfl slB hnil hr (Bv_one _) (by omega) (by omega) (Nat.le_refl _) ?_); intro A2 c2 w2 hown2 hf2 hat2))
  go_ret
  rw [Nat.zero_add, List.nil_append] at hown2
  have hs := hf2.size
  have hb := Blk.new w2 111 #[.slice A2 (0 + n) c2, .int .i64 0, .int .i64 0]
  have e2 : n = bs.length := hn.out.symm
  refine ⟨w2.heap.size, A2, c2, rfl, ?_, ?_, (hf2.mono (fun k _ hk => by cases hk)).alloc _, hs, fun k hk => (hown2.row k hk).2, ?_⟩
  · rw [Nat.zero_add] at hb; rw [← e2]; exact hb
  · rw [← e2]
    exact hown2.alloc _
  · show _ ≤ _; rw [← e2]; omega

section
variable {S : Nat → Prop} {w w' : World} {base g n c : Nat} {A : Option Addr} {bs : List UInt8}
theorem inAt_of (hb : Blk w g 111 #[.slice A bs.length c, .int .i64 0, .int .i64 0]) (ho : Own w base 5 1 A bs.length c (bs.map Bv)) (hg : ∀ k, rowOf A = some k → k < g) (hl : Hid (bs.length ≤ 4611686018427387904)) : InAt w g g bs 0 0 := by
  refine ⟨A, c, hb, ?_, Nat.le_refl _, Nat.zero_le _, hl.out, ho.cap.1⟩
  have h := ho.rd
  refine ⟨h.1, ?_⟩
  rcases h.2 with h0 | ⟨b, off, rfl, hlt, h2⟩
  · exact .inl h0
  · exact .inr ⟨b, off, rfl, hg b rfl, h2⟩
/-- The first cell of an own row of bytes that is not empty. -/
theorem Own.head (h : Own w base 5 1 A n c (bs.map Bv)) (hn : 0 < n) : ∃ (k : Nat) (cur : Array Value) (x : UInt8), A = some ⟨k, 0, none⟩ ∧ Blk w k 5 cur ∧ cur[0]? = some (Bv x) ∧ base ≤ k := by
  rcases h.2 with ⟨_, h0⟩ | ⟨g, cap, cur, hv, hb, hg, h1, h2, h3, h4⟩
  · omega
  · injection hv with hA _ _
    have hlen := h.1
    simp at hlen
    obtain ⟨x, hx⟩ : ∃ x, bs[0]? = some x := ⟨_, List.getElem?_eq_getElem (by omega)⟩
    refine ⟨g, cur, x, hA, hg, ?_, hb⟩
    have e : (cur.toList.take (n * 1))[0]? = (bs.map Bv)[0]? := by rw [h4]
    rw [List.getElem?_take_of_lt (by omega), List.getElem?_map, hx] at e
    simpa using e
theorem Own.rdAt {B : Nat} (h : Own w base 5 1 A n c (bs.map Bv)) (hB : ∀ k, rowOf A = some k → k < B) : Rd w B 1 A n (bs.map Bv) := by
  have h := h.rd
  refine ⟨h.1, ?_⟩
  rcases h.2 with h0 | ⟨b, off, rfl, hlt, h2⟩
  · exact .inl h0
  · exact .inr ⟨b, off, rfl, hB b rfl, h2⟩
end
end Go.Proofs.YtahcddlgghipjaaGreatDoor
