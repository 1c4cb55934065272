/-
  A slice of numbers that a law is handed.
  Plain theorems over the form; no condition.
-/
import Derived.Test.YtahcddlgghipjaaGreatDoorLawOpen
import Derived.Test.YtahcddlgghipjaaGreatDoorOpMem
namespace Go.Proofs.YtahcddlgghipjaaGreatDoor
open Go.ChangeShapes Go.WideShapes Go.ChangeAt Go.RowKit Go.Deep
section
variable {H : Type} {enc : TypeId × Value → H} {P : Program} {w : World} {spare : Nat → Bool} {held : Bool}
/-- A slice of numbers that is read. -/
theorem open_ints {t e : TypeId} {v : Value} {d : DataW H} {p : List MemPlace} (ht : P.underlying t = some (.slice e)) (he : P.underlying e = some (.int .i64)) (hsz : P.cellsOf e = 1)
    {r : Reach} {b0 : Nat} (hv : Value.okWide P w r b0 t v) (h : DataW.Trod enc P w 0 spare held t v d p) :
    ∃ (A : Option Addr) (c : Nat) (l : List Int), v = .slice A l.length c ∧ l.length ≤ c ∧ c ≤ 9223372036854775807 ∧ Rd w w.heap.size 1 A l.length (l.map Oq.Iv) ∧ ∀ x ∈ l, Oq.I64 x := by
  obtain ⟨a0, l0, c0, rfl⟩ := okWide_slice ht hv
  obtain ⟨fuel, hf⟩ := h
  obtain ⟨A, n, c, xs, hcs, hl, hnc, hc, hr, hall⟩ := open_rd ht hsz (by omega) hf
  have hcs' : Value.slice a0 l0 c0 = .slice A n c := by simpa [Value.cells] using hcs
  obtain ⟨l, rfl, hok⟩ := map_of (f := fun b => [Oq.Iv b]) (Q := Oq.I64) xs (fun c' hc' => by
    obtain ⟨hcl, m, y, hy⟩ := hall c' hc'
    obtain ⟨z, rfl, _, hz⟩ := DataW.trod_int he hy
    exact ⟨z, rfl, i64_bd hz⟩)
  have hll : l.length = n := by simpa using hl
  subst hll
  refine ⟨A, c, l, hcs', hnc, hc, ?_, hok⟩
  rw [← flat1 Oq.Iv l]
  exact hr
end
end Go.Proofs.YtahcddlgghipjaaGreatDoor
