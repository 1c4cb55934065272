/-
  The arguments of the laws of layer 4, opened: a slice of things to be written.
  Plain theorems over the form; no condition.
-/
import Derived.Test.YtkppihpdhildjaaPackOpen
import Derived.Test.YtkppihpdhildjaaPackPut
namespace Go.Proofs.Ytkppihpdhildjaa
open Go.ChangeShapes Go.WideShapes Go.ChangeAt Go.RowKit Go.Deep

section
variable {H : Type} {enc : TypeId × Value → H} {w : World} {spare : Nat → Bool} {held : Bool}
theorem open_od1 {v : Value} {d : DataW H} {p : List MemPlace} {r : Reach} {b0 : Nat} (hv : Value.okWide Try.prog w r b0 35 v) (h : DataW.Trod enc Try.prog w 0 spare held 35 v d p) : ∃ o : OD, v = OV o.d o.n o.s ∧ o.ok := by
  obtain ⟨cs, rfl, hsz⟩ := okWide_struct Try.underlying35 hv
  obtain ⟨fuel, hf⟩ := h
  have c3 : Try.prog.cellsOf 35 = 3 := by kernel_rfl
  rw [c3] at hsz
  have hc : (Value.agg cs).cells = cs := rfl
  rw [hc] at hf
  obtain ⟨o, ho, hok⟩ := open_od (by simpa using hsz) hf
  refine ⟨o, ?_, hok⟩
  have : cs = o.cells.toArray := by rw [← ho]
  rw [this]; rfl
end
end Go.Proofs.Ytkppihpdhildjaa
