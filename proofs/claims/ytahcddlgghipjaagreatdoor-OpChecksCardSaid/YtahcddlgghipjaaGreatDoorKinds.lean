/-
  The package variable op.kinds: what 'laid' gives a walk; op.Commit.
  Conditions: as each theorem says.
-/
import Derived.Test.YtahcddlgghipjaaGreatDoorOpSort
import Derived.Test.YtahcddlgghipjaaGreatDoorRows
import Derived.ChangeVars
import Derived.RowKit
namespace Go.Proofs.YtahcddlgghipjaaGreatDoor
open Go.ChangeShapes Go.WideShapes Go.ChangeAt Go.RowKit
attribute [local go_sem ↓] Go.wp_at_zero Go.wp_at_succ

def kindsL : List Int := [0, 2064, 32793, 21, 16, 12, 480, 640, 512, 31744, 8704, 8705, 512, 33299]
def kindsC : Array Value := (kindsL.map Oq.Iv).toArray
/-- The variable lies at its place, as its text lays it. -/
def KindsAt (w : World) : Prop := ∀ k : Nat, k < 14 → w.cell? ⟨0, k, none⟩ = some (.int .i64 (kindsL.getD k 0))

theorem kinds_named : Tryz.prog.globalNamed "huddle/op.kinds" = some 0 := by kernel_rfl
theorem kinds_type : (Tryz.prog.globals[0]?).map (·.type) = some 62 := by kernel_rfl
theorem kinds_cells : Tryz.prog.cellsOf 62 = 14 := by kernel_rfl
theorem int_cells : Tryz.prog.cellsOf 3 = 1 := by kernel_rfl
theorem int_of_trod {H : Type} {enc : TypeId × Value → H} {P : Program} {w : World} {base : Nat} {sp : Nat → Bool} {held : Bool} {fuel : Nat} {t : TypeId} {k : IntKind} {c : Value} {y : DataW H × List MemPlace}
    (ht : P.underlying t = some (.int k)) (h : DataW.trod enc P w base sp held fuel t [c] = some y) : ∃ n, c = .int k n ∧ y = (.lit (.int k n), []) := by
  cases fuel with
  | zero => simp [DataW.trod] at h
  | succ fuel =>
    cases c <;> simp [DataW.trod, ht] at h
    rename_i k' n
    obtain ⟨⟨rfl, _⟩, rfl⟩ := h
    exact ⟨n, rfl, rfl⟩
theorem kinds_of_laid {W : World} (h : laidMet Tryz.prog [("huddle/op.kinds", Rows.laid_huddle_op_kinds)] W) : W.var? Tryz.prog "huddle/op.kinds" = some kindsC := by
  obtain ⟨ps, ⟨g, t, cs, fuel, p, q, hg, ht, hvar, hd, _, _⟩, _⟩ := h
  obtain rfl := Option.some.inj (kinds_named.symm.trans hg)
  obtain rfl := Option.some.inj (kinds_type.symm.trans ht)
  rw [hvar]
  congr 1
  obtain ⟨l⟩ := cs
  cases fuel with
  | zero => simp [DataW.trod] at hd
  | succ fuel =>
    simp only [DataW.trod, Tryz.underlying62, kinds_cells, int_cells] at hd
    split at hd
    · rename_i hl
      obtain ⟨c0, c1, c2, c3, c4, c5, c6, c7, c8, c9, c10, c11, c12, c13, rfl⟩ : ∃ c0 c1 c2 c3 c4 c5 c6 c7 c8 c9 c10 c11 c12 c13, l = [c0, c1, c2, c3, c4, c5, c6, c7, c8, c9, c10, c11, c12, c13] := by
        match l, hl with
        | [a0, a1, a2, a3, a4, a5, a6, a7, a8, a9, a10, a11, a12, a13], _ => exact ⟨a0, a1, a2, a3, a4, a5, a6, a7, a8, a9, a10, a11, a12, a13, rfl⟩
      have e : List.range 14 = [0, 1, 2, 3, 4, 5, 6, 7, 8, 9, 10, 11, 12, 13] := rfl
      rw [e] at hd
      simp only [Option.map_eq_some_iff, List.mapM_cons, List.mapM_nil, Option.bind_eq_bind, Option.bind_eq_some_iff, Option.pure_def, Option.some.injEq] at hd
      obtain ⟨xs, ⟨y0, h0, _, ⟨y1, h1, _, ⟨y2, h2, _, ⟨y3, h3, _, ⟨y4, h4, _, ⟨y5, h5, _, ⟨y6, h6, _, ⟨y7, h7, _, ⟨y8, h8, _, ⟨y9, h9, _, ⟨y10, h10, _, ⟨y11, h11, _, ⟨y12, h12, _, ⟨y13, h13, _, rfl, rfl⟩, rfl⟩, rfl⟩, rfl⟩, rfl⟩, rfl⟩, rfl⟩, rfl⟩, rfl⟩, rfl⟩, rfl⟩, rfl⟩, rfl⟩, rfl⟩, hx⟩ := hd
      obtain ⟨n0, rfl, rfl⟩ := int_of_trod Tryz.underlying3 h0
      obtain ⟨n1, rfl, rfl⟩ := int_of_trod Tryz.underlying3 h1
      obtain ⟨n2, rfl, rfl⟩ := int_of_trod Tryz.underlying3 h2
      obtain ⟨n3, rfl, rfl⟩ := int_of_trod Tryz.underlying3 h3
      obtain ⟨n4, rfl, rfl⟩ := int_of_trod Tryz.underlying3 h4
      obtain ⟨n5, rfl, rfl⟩ := int_of_trod Tryz.underlying3 h5
      obtain ⟨n6, rfl, rfl⟩ := int_of_trod Tryz.underlying3 h6
      obtain ⟨n7, rfl, rfl⟩ := int_of_trod Tryz.underlying3 h7
      obtain ⟨n8, rfl, rfl⟩ := int_of_trod Tryz.underlying3 h8
      obtain ⟨n9, rfl, rfl⟩ := int_of_trod Tryz.underlying3 h9
      obtain ⟨n10, rfl, rfl⟩ := int_of_trod Tryz.underlying3 h10
      obtain ⟨n11, rfl, rfl⟩ := int_of_trod Tryz.underlying3 h11
      obtain ⟨n12, rfl, rfl⟩ := int_of_trod Tryz.underlying3 h12
      obtain ⟨n13, rfl, rfl⟩ := int_of_trod Tryz.underlying3 h13
      simp [Rows.laid_huddle_op_kinds] at hx
      obtain ⟨⟨rfl, rfl, rfl, rfl, rfl, rfl, rfl, rfl, rfl, rfl, rfl, rfl, rfl, rfl⟩, _⟩ := hx
      rfl
    · cases hd
theorem kindsAt_of_laid {W : World} (h : laidMetH Tryz.prog [("huddle/op.kinds", Rows.laid_huddle_op_kinds)] W) : KindsAt W := by
  have h' : laidMet Tryz.prog [("huddle/op.kinds", Rows.laid_huddle_op_kinds)] W := h
  have hv := kinds_of_laid h'
  intro k hk
  have := World.var?_cell kinds_named hv k
  rw [this]
  unfold kindsC
  rw [List.getElem?_toArray, List.getElem?_map]
  match k, hk with
  | 0, _ => rfl
  | 1, _ => rfl
  | 2, _ => rfl
  | 3, _ => rfl
  | 4, _ => rfl
  | 5, _ => rfl
  | 6, _ => rfl
  | 7, _ => rfl
  | 8, _ => rfl
  | 9, _ => rfl
  | 10, _ => rfl
  | 11, _ => rfl
  | 12, _ => rfl
  | 13, _ => rfl
theorem KindsAt.fr {w w' : World} (h : KindsAt w) (hf : Fr Non w w') : KindsAt w' := fun k hk => hf.cell (h k hk) (fun e => e)

/-- A world in which the variable is as its text lays it. -/
noncomputable def laidWorld (os : Os) : World :=
  { World.holding Tryz.prog os ⟨#[], #[], []⟩ with heap := (World.holding Tryz.prog os ⟨#[], #[], []⟩).heap.modify 0 fun
      | .cells _ t frozen => .cells kindsC t frozen
      | o => o }
theorem laidWorld_row (os : Os) (args : Array Value) : ((laidWorld os).forCall (fun _ _ => 0) ⟨#[], args, []⟩).memory.heap[0]? = some (.cells kindsC 62 (0, 0)) := by kernel_rfl
theorem laidWorld_met (os : Os) (args : Array Value) : laidMetH Tryz.prog [("huddle/op.kinds", Rows.laid_huddle_op_kinds)] ((laidWorld os).forCall (fun _ _ => 0) ⟨#[], args, []⟩).memory := by
  show laidMet _ _ _
  refine ⟨_, ⟨0, 62, kindsC, 8, [], [], by kernel_rfl, by kernel_rfl, by kernel_rfl, by kernel_rfl, rfl, rfl⟩, by decide, fun b off h => ?_⟩
  have h' : MemPlace.cell b off ∈ (List.range 14).map (fun k => MemPlace.cell 0 k) := h
  obtain ⟨k, hk, e⟩ := List.mem_map.1 h'
  injection e with e1 e2
  subst e1 e2
  refine ⟨⟨_, _, laidWorld_row os args⟩, fun u v hc => ?_⟩
  simp only [World.cell?, laidWorld_row os args] at hc
  have hk' := List.mem_range.1 hk
  have : kindsC[k]? = some (.int .i64 (kindsL.getD k 0)) := by
    match k, hk' with
    | 0, _ => rfl
    | 1, _ => rfl
    | 2, _ => rfl
    | 3, _ => rfl
    | 4, _ => rfl
    | 5, _ => rfl
    | 6, _ => rfl
    | 7, _ => rfl
    | 8, _ => rfl
    | 9, _ => rfl
    | 10, _ => rfl
    | 11, _ => rfl
    | 12, _ => rfl
    | 13, _ => rfl
  simp [this] at hc

namespace Oq
theorem opcommit_in (k : Nat) (w : World) (hk : KindsAt w) (h1 : 1 ≤ k) (h2 : k < 14) : Calls Tryz.prog 9 #[.int .i64 (k : Int)] w fun e w' => e = .returned (.bool (commit (k : Int))) ∧ w = w' := by
  have hkk : k = 1 ∨ k = 2 ∨ k = 3 ∨ k = 4 ∨ k = 5 ∨ k = 6 ∨ k = 7 ∨ k = 8 ∨ k = 9 ∨ k = 10 ∨ k = 11 ∨ k = 12 ∨ k = 13 := by omega
  have c := hk k h2
  clear hk h1 h2
  rcases hkk with rfl | rfl | rfl | rfl | rfl | rfl | rfl | rfl | rfl | rfl | rfl | rfl | rfl
  all_goals
    go_enter Tryz.func9, Tryz.ntmps9
    go_wp2
    go_ret
    exact ⟨by first | rfl | decide | simp [commit], rfl⟩
end Oq
end Go.Proofs.YtahcddlgghipjaaGreatDoor
