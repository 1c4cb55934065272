/-
  op.Get: what stores into an operation's block do.
  Plain theorems over the model's walk; no condition.
-/
import Derived.Test.YtahcddlgghipjaaGreatDoorOpGet2
import Derived.Test.YtahcddlgghipjaaGreatDoorOpenAny
namespace Go.Proofs.YtahcddlgghipjaaGreatDoor
open Go.RowKit
attribute [local go_sem ↓] Go.wp_at_zero Go.wp_at_succ
namespace Oq

/-- A block that is an operation's. -/
def OpBlk (w : World) (g : Nat) : Prop := ∃ cs, Blk w g 35 cs ∧ cs.size = 27
theorem OpBlk.cell {w : World} {g : Nat} (h : OpBlk w g) (i : Nat) (hi : i < 27) : ∃ v, w.cell? ⟨g, i, none⟩ = some v := by
  obtain ⟨cs, hb, hs⟩ := h
  rw [hb.cell i]
  exact ⟨cs[i], Array.getElem?_eq_getElem (by omega)⟩
theorem OpBlk.frozen {w : World} {g : Nat} (h : OpBlk w g) (i : Nat) : w.frozen? ⟨g, i, none⟩ = false := by
  obtain ⟨cs, hb, _⟩ := h
  exact hb.frozen i
theorem OpBlk.set {w : World} {g : Nat} (h : OpBlk w g) (i : Nat) (u : Value) : OpBlk (w.setCell ⟨g, i, none⟩ u) g := by
  obtain ⟨cs, hb, hs⟩ := h
  exact ⟨_, hb.set i u, by simp [hs]⟩
theorem OpBlk.fr {S : Nat → Prop} {w w' : World} {g : Nat} (h : OpBlk w g) (hf : Fr S w w') (hg : ¬ S g) : OpBlk w' g := by
  obtain ⟨cs, hb, hs⟩ := h
  exact ⟨cs, hb.fr hf hg, hs⟩

theorem storeAt_int (p v : Value) : Instr.storeAt 3 p v = stS 3 p v := rfl
theorem storeAt_u64 (p v : Value) : Instr.storeAt 25 p v = stS 25 p v := rfl
theorem storeAt_ident (p v : Value) : Instr.storeAt 27 p v = stS 27 p v := rfl
theorem storeAt_sig (p v : Value) : Instr.storeAt 33 p v = stS 33 p v := rfl
theorem storeAt_bytes (p v : Value) : Instr.storeAt 28 p v = stS 28 p v := rfl
theorem storeAt_u64s (p v : Value) : Instr.storeAt 29 p v = stS 29 p v := rfl
theorem storeAt_ints (p v : Value) : Instr.storeAt 22 p v = stS 22 p v := rfl
theorem storeAt_boxes (p v : Value) : Instr.storeAt 30 p v = stS 30 p v := rfl

theorem st_int (g i : Nat) (hi : i < 27) (v : Int) : ∀ w', OpBlk w' g → (stS 3 (.pointer (some ⟨g, i, none⟩)) (.int .i64 v)).run Tryz.prog w' = .ok () (w'.setCell ⟨g, i, none⟩ (.int .i64 v)) := fun w' h => by
  obtain ⟨u, hu⟩ := h.cell i hi
  have hz := h.frozen i
  unfold stS
  go_simp
theorem st_u64 (g i : Nat) (hi : i < 27) (v : Int) : ∀ w', OpBlk w' g → (stS 25 (.pointer (some ⟨g, i, none⟩)) (.int .u64 v)).run Tryz.prog w' = .ok () (w'.setCell ⟨g, i, none⟩ (.int .u64 v)) := fun w' h => by
  obtain ⟨u, hu⟩ := h.cell i hi
  have hz := h.frozen i
  unfold stS
  go_simp
theorem st_bytes (g i : Nat) (hi : i < 27) (A : Option Addr) (n c : Nat) : ∀ w', OpBlk w' g → (stS 28 (.pointer (some ⟨g, i, none⟩)) (.slice A n c)).run Tryz.prog w' = .ok () (w'.setCell ⟨g, i, none⟩ (.slice A n c)) := fun w' h => by
  obtain ⟨u, hu⟩ := h.cell i hi
  have hz := h.frozen i
  unfold stS
  go_simp
theorem st_u64s (g i : Nat) (hi : i < 27) (A : Option Addr) (n c : Nat) : ∀ w', OpBlk w' g → (stS 29 (.pointer (some ⟨g, i, none⟩)) (.slice A n c)).run Tryz.prog w' = .ok () (w'.setCell ⟨g, i, none⟩ (.slice A n c)) := fun w' h => by
  obtain ⟨u, hu⟩ := h.cell i hi
  have hz := h.frozen i
  unfold stS
  go_simp
theorem st_ints (g i : Nat) (hi : i < 27) (A : Option Addr) (n c : Nat) : ∀ w', OpBlk w' g → (stS 22 (.pointer (some ⟨g, i, none⟩)) (.slice A n c)).run Tryz.prog w' = .ok () (w'.setCell ⟨g, i, none⟩ (.slice A n c)) := fun w' h => by
  obtain ⟨u, hu⟩ := h.cell i hi
  have hz := h.frozen i
  unfold stS
  go_simp
theorem st_boxes (g i : Nat) (hi : i < 27) (A : Option Addr) (n c : Nat) : ∀ w', OpBlk w' g → (stS 30 (.pointer (some ⟨g, i, none⟩)) (.slice A n c)).run Tryz.prog w' = .ok () (w'.setCell ⟨g, i, none⟩ (.slice A n c)) := fun w' h => by
  obtain ⟨u, hu⟩ := h.cell i hi
  have hz := h.frozen i
  unfold stS
  go_simp
theorem st_ident10 (g : Nat) (b s u : Int) : ∀ w', OpBlk w' g → (stS 27 (.pointer (some ⟨g, 10, none⟩)) (.agg #[.int .i64 b, .int .i64 s, .int .u64 u])).run Tryz.prog w' = .ok () (((w'.setCell ⟨g, 10, none⟩ (.int .i64 b)).setCell ⟨g, 11, none⟩ (.int .i64 s)).setCell ⟨g, 12, none⟩ (.int .u64 u)) := fun w' h => by
  obtain ⟨u0, hu0⟩ := h.cell 10 (by omega)
  obtain ⟨u1, hu1⟩ := h.cell 11 (by omega)
  obtain ⟨u2, hu2⟩ := h.cell 12 (by omega)
  have hz0 := h.frozen 10
  have hz1 := h.frozen 11
  have hz2 := h.frozen 12
  unfold stS
  go_simp
theorem st_ident16 (g : Nat) (b s u : Int) : ∀ w', OpBlk w' g → (stS 27 (.pointer (some ⟨g, 16, none⟩)) (.agg #[.int .i64 b, .int .i64 s, .int .u64 u])).run Tryz.prog w' = .ok () (((w'.setCell ⟨g, 16, none⟩ (.int .i64 b)).setCell ⟨g, 17, none⟩ (.int .i64 s)).setCell ⟨g, 18, none⟩ (.int .u64 u)) := fun w' h => by
  obtain ⟨u0, hu0⟩ := h.cell 16 (by omega)
  obtain ⟨u1, hu1⟩ := h.cell 17 (by omega)
  obtain ⟨u2, hu2⟩ := h.cell 18 (by omega)
  have hz0 := h.frozen 16
  have hz1 := h.frozen 17
  have hz2 := h.frozen 18
  unfold stS
  go_simp
theorem st_sig (g : Nat) (r s : Int) : ∀ w', OpBlk w' g → (stS 33 (.pointer (some ⟨g, 25, none⟩)) (.agg #[.int .u64 r, .int .u64 s])).run Tryz.prog w' = .ok () ((w'.setCell ⟨g, 25, none⟩ (.int .u64 r)).setCell ⟨g, 26, none⟩ (.int .u64 s)) := fun w' h => by
  obtain ⟨u0, hu0⟩ := h.cell 25 (by omega)
  obtain ⟨u1, hu1⟩ := h.cell 26 (by omega)
  have hz0 := h.frozen 25
  have hz1 := h.frozen 26
  unfold stS
  go_simp
end Oq
end Go.Proofs.YtahcddlgghipjaaGreatDoor
