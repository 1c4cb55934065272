/-
  A signature that is handed in, opened.
  Plain theorem over the form; no condition.
-/
import Derived.Test.YthmlaigpdpdpjaaDoorLawOpen
namespace Go.Proofs.YthmlaigpdpdpjaaDoor
open Go.ChangeShapes Go.WideShapes Go.ChangeAt Go.RowKit Go.Deep

section
variable {H : Type} {enc : TypeId × Value → H} {w : World} {spare : Nat → Bool} {held : Bool}
set_option maxRecDepth 100000 in
theorem open_sig {v : Value} {d : DataW H} {p : List MemPlace} {r : Reach} {b0 : Nat} (hv : Value.okWide Tryd.prog w r b0 33 v) (h : DataW.Trod enc Tryd.prog w 0 spare held 33 v d p) :
    ∃ R S : Nat, v = .agg #[.int .u64 (R : Int), .int .u64 (S : Int)] ∧ R < 18446744073709551616 ∧ S < 18446744073709551616 := by
  obtain ⟨cs, rfl, hsz⟩ := okWide_struct Tryd.underlying33 hv
  obtain ⟨fuel, hf⟩ := h
  have c2 : Tryd.prog.cellsOf 33 = 2 := by kernel_rfl
  have ci : Tryd.prog.cellsOf 26 = 1 := by kernel_rfl
  rw [c2] at hsz
  have hc : (Value.agg cs).cells = cs := rfl
  rw [hc] at hf
  obtain ⟨cl⟩ := cs
  obtain ⟨xs, n, _, _, _, hlen, hg⟩ := DataW.trod_struct Tryd.underlying33 hf
  match cl, hsz with
  | [c0, c1], _ =>
    match xs, hlen with
    | [y0, y1], _ =>
      have h0 := hg 0 _ rfl
      have h1 := hg 1 _ rfl
      obtain ⟨d, e0, _, w0⟩ := DataW.trod_int Tryd.underlying26 h0
      obtain ⟨n, e1, _, w1⟩ := DataW.trod_int Tryd.underlying26 h1
      have e0' : c0 = .int .u64 d := by simpa [ci] using e0
      have e1' : c1 = .int .u64 n := by simpa [ci] using e1
      subst e0' e1'
      obtain ⟨R, rfl, hR⟩ := u64_bd w0
      obtain ⟨S, rfl, hS⟩ := u64_bd w1
      exact ⟨R, S, rfl, hR, hS⟩
end
end Go.Proofs.YthmlaigpdpdpjaaDoor
