/-
  A whole struct out of a block of its own, and into it, at the operation. Plain theorems over the model's walk; no condition.
-/
import Derived.Test.YtahcddlgghipjaaGreatDoorCommon
import Derived.Test.YtahcddlgghipjaaGreatDoorProg
import Derived.Laws.Tables
namespace Go.Proofs.YtahcddlgghipjaaGreatDoor
open Go.RowKit

theorem oper_load_row {P : Program} {o : Oper} {a : Act} {K : Act → World → Prop} {Q : Exit → Act → World → Prop} {w : World} (t : TypeId) (p : Operand) (hop : o.op = Op.load t p) {g : Nat} {t' : TypeId} {cs : Array Value} {d : TypeDesc}
    (hp : a.eval p = .pointer (some ⟨g, 0, none⟩)) (hb : Blk w g t' cs) (hu : P.underlying t = some d) (hd : (match d with | .struct _ | .array _ _ => true | _ => false) = true) (hi : (P.info? t).map (·.size) = some cs.size)
    (hK : K (a.put o.dst (.agg cs)) w) : Oper.wp P o a w K Q := by
  have hrun := run_loadVar_row (P := P) w g t' t cs (0, 0) d hb hu hd hi
  unfold Oper.wp
  simp [execOp, hop, hp, Instr.loadAt, Instr.sureAddr, hrun, Result.andThen]
  exact hK
theorem wpList_load_row {P : Program} {ops : Array Oper} {rest : List Oper} {o : Oper} {a : Act} {Q : Exit → Act → World → Prop} {w : World} (hg : o.guard = none) (t : TypeId) (p : Operand) (hop : o.op = Op.load t p) {g : Nat} {t' : TypeId} {cs : Array Value} {d : TypeDesc}
    (hp : a.eval p = .pointer (some ⟨g, 0, none⟩)) (hb : Blk w g t' cs) (hu : P.underlying t = some d) (hd : (match d with | .struct _ | .array _ _ => true | _ => false) = true) (hi : (P.info? t).map (·.size) = some cs.size)
    (hK : wpList P ops Q rest (a.put o.dst (.agg cs)) w) : wpList P ops Q (o :: rest) a w :=
  wpList_plain hg fun _ hK' => oper_load_row t p hop hp hb hu hd hi (hK' _ _ hK)
theorem step_load_row {P : Program} {ops : Array Oper} {o : Oper} {a : Act} {K : Act → World → Prop} {Q : Exit → Act → World → Prop} {E : Prop} {w : World} (hg : o.guard = none) (t : TypeId) (p : Operand) (hop : o.op = Op.load t p) {g : Nat} {t' : TypeId} {cs : Array Value} {d : TypeDesc}
    (hp : a.eval p = .pointer (some ⟨g, 0, none⟩)) (hb : Blk w g t' cs) (hu : P.underlying t = some d) (hd : (match d with | .struct _ | .array _ _ => true | _ => false) = true) (hi : (P.info? t).map (·.size) = some cs.size)
    (hK : K (a.put o.dst (.agg cs)) w) : if Region.wanted o (yielded ops a.tmps) = true then Oper.wp P o a w K Q else E := by
  have hw : Region.wanted o (yielded ops a.tmps) = true := by simp [Region.wanted, hg]
  rw [if_pos hw]
  exact oper_load_row t p hop hp hb hu hd hi hK

theorem Blk.setRow {w : World} {g : Nat} {t : TypeId} {old cs : Array Value} (h : Blk w g t old) : Blk (w.setRow g cs) g t cs := by
  unfold Blk at h ⊢
  simp [World.setRow, Array.getElem?_modify, h]
theorem Blk.setRow_far {w : World} {g g' : Nat} {t : TypeId} {old cs : Array Value} (h : Blk w g t old) (hn : g ≠ g') : Blk (w.setRow g' cs) g t old := by
  unfold Blk at h ⊢
  have hn' : ¬ g' = g := fun e => hn e.symm
  simp [World.setRow, Array.getElem?_modify, h, hn']
theorem Fr.setRow {S : Nat → Prop} {a w : World} (h : Fr S a w) {g : Nat} (hg : g < a.heap.size → S g) (cs : Array Value) : Fr S a (w.setRow g cs) :=
  h.trans (S' := fun k => k = g) ⟨rfl, rfl, rfl, by simp [World.setRow], fun k _ hn => by
    have hn' : ¬ g = k := fun e => hn e.symm
    simp [World.setRow, Array.getElem?_modify, hn']⟩ (fun i hi e => by subst e; exact hg hi)
theorem setRow_size (w : World) (g : Nat) (cs : Array Value) : (w.setRow g cs).heap.size = w.heap.size := by simp [World.setRow]
theorem oper_store_row {P : Program} {o : Oper} {a : Act} {K : Act → World → Prop} {Q : Exit → Act → World → Prop} {w : World} (t : TypeId) (p v : Operand) (hop : o.op = Op.store t p v) (hdst : o.dst = none) {g : Nat} {t' : TypeId} {old cs : Array Value}
    (hp : a.eval p = .pointer (some ⟨g, 0, none⟩)) (hv : a.eval v = .agg cs) (hb : Blk w g t' old) (hi : (P.info? t).map (·.size) = some cs.size) (ho : old.size = cs.size) (h1 : cs.all (·.oneCell') = true)
    (hK : K a (w.setRow g cs)) : Oper.wp P o a w K Q := by
  have hrun := run_storeVar_row (P := P) w g t' t old cs hb hi ho h1
  unfold Oper.wp
  simp [execOp, hop, hp, hv, Instr.storeAt, Instr.sureAddr, hrun, Result.andThen]
  rw [Oper.upon_skip, hdst]
  exact hK
theorem wpList_store_row {P : Program} {ops : Array Oper} {rest : List Oper} {o : Oper} {a : Act} {Q : Exit → Act → World → Prop} {w : World} (hg : o.guard = none) (t : TypeId) (p v : Operand) (hop : o.op = Op.store t p v) (hdst : o.dst = none) {g : Nat} {t' : TypeId} {old cs : Array Value}
    (hp : a.eval p = .pointer (some ⟨g, 0, none⟩)) (hv : a.eval v = .agg cs) (hb : Blk w g t' old) (hi : (P.info? t).map (·.size) = some cs.size) (ho : old.size = cs.size) (h1 : cs.all (·.oneCell') = true)
    (hK : wpList P ops Q rest a (w.setRow g cs)) : wpList P ops Q (o :: rest) a w :=
  wpList_plain hg fun _ hK' => oper_store_row t p v hop hdst hp hv hb hi ho h1 (hK' _ _ hK)

/-- A load of a whole struct: a word that the walk does not open ('attribute [local go_sem ↓] loadAt_op' ahead of a walk; then 'hl' of ldS_blk among its hypotheses, and the block among what is held). -/
def ldS (t : TypeId) (v : Value) := Instr.loadAt t v
theorem loadAt_op (v : Value) : Instr.loadAt 35 v = ldS 35 v := rfl
theorem ldS_blk {P : Program} {t : TypeId} {d : TypeDesc} {cs : Array Value} (g : Nat) (t' : TypeId) (hu : P.underlying t = some d) (hd : (match d with | .struct _ | .array _ _ => true | _ => false) = true) (hi : (P.info? t).map (·.size) = some cs.size) :
    ∀ w', Blk w' g t' cs → (ldS t (.pointer (some ⟨g, 0, none⟩))).run P w' = .ok (.agg cs) w' := fun w' h => by
  have hrun := run_loadVar_row (P := P) w' g t' t cs (0, 0) d h hu hd hi
  unfold ldS
  simp only [Instr.loadAt, Instr.sureAddr, Sem.run_bind, Sem.run_pure, Result.andThen]
  exact hrun

/-- A store of a whole struct: a word that the walk does not open. -/
def stS (t : TypeId) (p v : Value) := Instr.storeAt t p v
theorem storeAt_op (p v : Value) : Instr.storeAt 35 p v = stS 35 p v := rfl
theorem storeAt_box (p v : Value) : Instr.storeAt 60 p v = stS 60 p v := rfl
theorem storeAt_seal (p v : Value) : Instr.storeAt 58 p v = stS 58 p v := rfl
theorem stS_blk {P : Program} {t : TypeId} {old cs : Array Value} (g : Nat) (t' : TypeId) (hi : (P.info? t).map (·.size) = some cs.size) (ho : old.size = cs.size) (h1 : cs.all (·.oneCell') = true) :
    ∀ w', Blk w' g t' old → (stS t (.pointer (some ⟨g, 0, none⟩)) (.agg cs)).run P w' = .ok () (w'.setRow g cs) := fun w' h => by
  have hrun := run_storeVar_row (P := P) w' g t' t old cs h hi ho h1
  unfold stS
  simp only [Instr.storeAt, Instr.sureAddr, Sem.run_bind, Sem.run_pure, Result.andThen]
  exact hrun
theorem cell_setRow {w : World} {r g : Nat} {cs : Array Value} {i : Nat} {v : Value} (h : w.cell? ⟨g, i, none⟩ = some v) (hne : r ≠ g) : (w.setRow r cs).cell? ⟨g, i, none⟩ = some v :=
  (Fr.setRow (S := fun k => k = r) (Fr.refl _ w) (fun _ => rfl) cs).cell h (fun e => hne (by have e' : g = r := e; exact e'.symm))
end Go.Proofs.YtahcddlgghipjaaGreatDoor
