/-
  A name that is handed in, opened.
  Plain theorem over the form; no condition.
-/
import Derived.Test.YthmlaigpdpdpjaaDoorLawOpen
import Derived.Test.YthmlaigpdpdpjaaDoorOpMem
namespace Go.Proofs.YthmlaigpdpdpjaaDoor
open Go.ChangeShapes Go.WideShapes Go.ChangeAt Go.RowKit Go.Deep

section
variable {H : Type} {enc : TypeId × Value → H} {w : World} {spare : Nat → Bool} {held : Bool}
set_option maxRecDepth 100000 in
theorem open_ident {v : Value} {d : DataW H} {p : List MemPlace} {r : Reach} {b0 : Nat} (hv : Value.okWide Tryd.prog w r b0 28 v) (h : DataW.Trod enc Tryd.prog w 0 spare held 28 v d p) :
    ∃ x : Oq.Id, v = .agg #[.int .i64 x.b, .int .i64 x.s, .int .u64 (x.u : Int)] := by
  obtain ⟨cs, rfl, hsz⟩ := okWide_struct Tryd.underlying28 hv
  obtain ⟨fuel, hf⟩ := h
  have c2 : Tryd.prog.cellsOf 28 = 3 := by kernel_rfl
  have ci : Tryd.prog.cellsOf 26 = 1 := by kernel_rfl
  have cj : Tryd.prog.cellsOf 3 = 1 := by kernel_rfl
  rw [c2] at hsz
  have hc : (Value.agg cs).cells = cs := rfl
  rw [hc] at hf
  obtain ⟨cl⟩ := cs
  obtain ⟨xs, n, _, _, _, hlen, hg⟩ := DataW.trod_struct Tryd.underlying28 hf
  match cl, hsz with
  | [c0, c1, a2], _ =>
    match xs, hlen with
    | [y0, y1, y2], _ =>
      have h0 := hg 0 _ rfl
      have h1 := hg 1 _ rfl
      have h2 := hg 2 _ rfl
      obtain ⟨d, e0, _, w0⟩ := DataW.trod_int Tryd.underlying3 h0
      obtain ⟨n, e1, _, w1⟩ := DataW.trod_int Tryd.underlying3 h1
      obtain ⟨m, e2, _, w2⟩ := DataW.trod_int Tryd.underlying26 h2
      have e0' : c0 = .int .i64 d := by simpa [cj] using e0
      have e1' : c1 = .int .i64 n := by simpa [cj] using e1
      have e2' : a2 = .int .u64 m := by simpa [cj, ci] using e2
      subst e0' e1' e2'
      obtain ⟨u, rfl, hu⟩ := u64_bd w2
      exact ⟨⟨d, n, u⟩, rfl⟩
end
end Go.Proofs.YthmlaigpdpdpjaaDoor
