/-
  What all seats share: hidden equations, bytes, a new row of bytes (NewB), Around and Few of the references' helpers.
  Conditions: as each theorem says.
-/
import Derived.Test.YtahcddlgghipjaaGreatDoorProg
import Derived.Test.YtahcddlgghipjaaGreatDoorBase
import Derived.Deep.RegionHeld3
import Derived.Deep.DrawnRows
import Derived.Lib.ConvBytes
namespace Go.Proofs.YtahcddlgghipjaaGreatDoor
open Go.RowKit
attribute [local go_sem ↓] Go.wp_at_zero Go.wp_at_succ

theorem hid_ex {α : Type} (x : α) : ∃ y, Hid (x = y) := ⟨x, rfl⟩
theorem hid_ex2 {α β : Type} (x : α × β) : ∃ y z, Hid (x = (y, z)) := ⟨x.1, x.2, rfl⟩
theorem hid_ex3 {α β γ : Type} (x : α × β × γ) : ∃ y z u, Hid (x = (y, z, u)) := ⟨x.1, x.2.1, x.2.2, rfl⟩

theorem byte_of {bs : List UInt8} {k : Nat} {u : Value} (h : (bs.map Bv)[k]? = some u) : ∃ x : UInt8, bs[k]? = some x ∧ u = .int .u8 (x.toNat : Int) := by
  rw [List.getElem?_map] at h
  cases hx : bs[k]? with
  | none => rw [hx] at h; cases h
  | some x => rw [hx] at h; injection h with h; exact ⟨x, rfl, h.symm⟩

theorem drop_cons {α : Type} {l : List α} {k : Nat} {x : α} (h : l[k]? = some x) : l.drop k = x :: l.drop (k + 1) := by
  obtain ⟨hk, rfl⟩ := List.getElem?_eq_some_iff.1 h
  exact List.drop_eq_getElem_cons hk

theorem beq_t {a b : Int} (h : a = b) : (a == b) = true := beq_iff_eq.2 h
theorem beq_f {a b : Int} (h : ¬ a = b) : (a == b) = false := beq_eq_false_iff_ne.2 h

theorem Fr.cell {S : Nat → Prop} {w w' : World} {p : Addr} {v : Value} (h : Fr S w w') (hc : w.cell? p = some v) (hp : ¬ S p.block) : w'.cell? p = some v := by
  rw [World.cell?_of_block (h.block p.block (World.block_lt_of_cell? w p hc) hp)]
  exact hc
/-- []byte(s): a new row. -/
theorem run_bytes {P : Program} (src dst e : TypeId) {u : TypeDesc} (hs : P.underlying src = some u) (hd : P.underlying dst = some (.slice e)) (he : P.underlying e = some (.int .u8)) (bs : List UInt8) (w : World) :
    ∃ c w', (convert src dst (.string (str bs))).run P w = .ok (.slice (some ⟨w.heap.size, 0, none⟩) bs.length c) w' ∧ Rd w' (w.heap.size + 1) 1 (some ⟨w.heap.size, 0, none⟩) bs.length (bs.map Bv) ∧ Fr Non w w' ∧ w'.heap.size = w.heap.size + 1 ∧ bs.length ≤ c ∧ (bs.length ≤ 1099511627776 → c ≤ 9223372036854775807) := by
  have h := Lib.run_convert_string_bytes w src dst e (str bs) hs hd he
  rw [str_size] at h
  refine ⟨_, _, h, ⟨by simp, .inr ⟨w.heap.size, 0, rfl, by omega, fun j v hj => ?_⟩⟩, ⟨rfl, rfl, rfl, ?_, fun k hk _ => Lib.bytesWorld_at_old w e (str bs) k hk⟩, Lib.bytesWorld_size w e (str bs), ?_⟩
  · rw [List.getElem?_map] at hj
    cases hb : bs[j]? with
    | none => rw [hb] at hj; cases hj
    | some x =>
      rw [hb] at hj
      injection hj with hj
      subst hj
      obtain ⟨hl, hx⟩ := List.getElem?_eq_some_iff.1 hb
      rw [Nat.zero_add, Lib.bytesWorld_cell w e (str bs) j (by rw [str_size]; exact hl)]
      simp [str, List.getD, hl, hx, Bv]
  · rw [Lib.bytesWorld_size]; omega
  · refine ⟨grownCap_ge _ _ _ _, fun h => ?_⟩
    exact grownCap_le_maxLen w bs.length 0 e (Nat.le_trans h (by decide))
theorem slB : SlT Tryz.prog 28 5 (.int .u8 0) 1 1 := ⟨Tryz.underlying28, by kernel_rfl, rfl, by decide⟩

/-- A slice of new bytes. -/
def NewB (w : World) (bs : List UInt8) (r : Ending) (w' : World) : Prop :=
  ∃ A c, r = .returned (.slice A bs.length c) ∧ Own w' w.heap.size 5 1 A bs.length c (bs.map Bv) ∧ Fr Non w w'

theorem NewB.mk {w w' : World} {base n c : Nat} {A : Option Addr} {xs : List Value} {bs : List UInt8} (ho : Own w' base 5 1 A n c xs) (hb : base = w.heap.size) (hx : xs = bs.map Bv) (hf : Fr Non w w') : NewB w bs (.returned (.slice A n c)) w' := by
  subst hx hb
  have hl := ho.len
  simp at hl
  subst hl
  exact ⟨A, c, rfl, ho, hf⟩

/-- A number from 0 on, below most, made of any. -/
def around (n m : Int) : Int := (if n < 0 then -(n + 1) else n) % m
theorem around_bd {n m : Int} (h : 1 ≤ m) : 0 ≤ around n m ∧ around n m < m := by
  unfold around
  exact ⟨Int.emod_nonneg _ (by omega), Int.emod_lt_of_pos _ (by omega)⟩
theorem around_any (n m : Int) (w : World) (h0 : -9223372036854775808 ≤ n) (h1 : n ≤ 9223372036854775807) (hm : 1 ≤ m) (hm' : m ≤ 9223372036854775807) :
    Calls Tryz.prog 5 #[.int .i64 n, .int .i64 m] w fun e w' => e = .returned (.int .i64 (around n m)) ∧ w = w' := by
  by_cases hn : n < 0
  · have he : Hid (around n m = (-(n + 1)).tmod m) := by
      show _ = _
      unfold around
      rw [if_pos hn, Int.tmod_eq_emod_of_nonneg (by omega)]
    go_enter Tryz.func5, Tryz.ntmps5
    go_wp2
    go_ret
    refine ⟨congrArg (fun z => Ending.returned (.int .i64 z)) ?_, rfl⟩
    rw [he.out, Int.neg_tmod]
  · have he : Hid (around n m = n % m) := by show _ = _; unfold around; rw [if_neg hn]
    go_enter Tryz.func5, Tryz.ntmps5
    go_wp2
    go_ret
    exact ⟨congrArg (fun z => Ending.returned (.int .i64 z)) he.out.symm, rfl⟩

theorem Own.notNon {w : World} {base size n c B : Nat} {e : TypeId} {A : Option Addr} {xs : List Value} (h : Own w base e size A n c xs) (hB : B ≤ base) : ∀ k, k < B → rowOf A = some k → Non k :=
  fun k hk hA => by have := (h.row k hA).1; omega

def BoolPost (b : Bool) (w : World) (r : Ending) (w' : World) : Prop := r = .returned (.bool b) ∧ Fr Non w w'
/-- What a slice of bytes is as a string. -/
theorem str_own {base n c : Nat} {A : Option Addr} {bs : List UInt8} {w : World} (h : Own w base 5 1 A n c (bs.map Bv)) : (convert 28 9 (.slice A n c)).run Tryz.prog w = .ok (.string (str bs)) w :=
  run_str 28 5 9 Tryz.underlying28 Tryz.underlying5 Tryz.underlying9 w _ _ _ c _ h.rd
end Go.Proofs.YtahcddlgghipjaaGreatDoor
