/-
  The arguments of the laws of layer 4, opened: a slice of things to be written.
  Plain theorems over the form; no condition.
-/
import Derived.Test.YtkppihpdhildjaaLawOpen
import Derived.Test.YtkppihpdhildjaaPackPut
namespace Go.Proofs.Ytkppihpdhildjaa
open Go.ChangeShapes Go.WideShapes Go.ChangeAt Go.RowKit Go.Deep

section
variable {H : Type} {enc : TypeId × Value → H} {w : World} {spare : Nat → Bool} {held : Bool}
theorem open_od {fuel : Nat} {cs : List Value} {x : DataW H × List MemPlace} (hl : cs.length = 3) (h : DataW.trod enc Try.prog w 0 spare held fuel 35 cs = some x) : ∃ o : OD, cs = o.cells ∧ o.ok := by
  have ci : Try.prog.cellsOf 3 = 1 := by kernel_rfl
  have cs1 : Try.prog.cellsOf 9 = 1 := by kernel_rfl
  obtain ⟨xs, n, _, _, _, hlen, hg⟩ := DataW.trod_struct Try.underlying35 h
  match cs, hl with
  | [c0, c1, c2], _ =>
    match xs, hlen with
    | [y0, y1, y2], _ =>
      have h0 := hg 0 _ rfl
      have h1 := hg 1 _ rfl
      have h2 := hg 2 _ rfl
      obtain ⟨d, e0, _, w0⟩ := DataW.trod_int Try.underlying3 h0
      obtain ⟨n, e1, _, w1⟩ := DataW.trod_int Try.underlying3 h1
      obtain ⟨s, e2, _, w2⟩ := DataW.trod_string Try.underlying9 h2
      have e0' : c0 = .int .i64 d := by simpa [ci] using e0
      have e1' : c1 = .int .i64 n := by simpa [ci] using e1
      have e2' : c2 = .string s := by simpa [cs1] using e2
      subst e0' e1' e2'
      have b0 := i64_bd w0
      have b1 := i64_bd w1
      refine ⟨⟨d, n, s.data.toList⟩, rfl, b0.1, b0.2, b1.1, b1.2, ?_⟩
      have hs : s.size = s.data.toList.length := by rw [Array.length_toList]; rfl
      rw [← hs]
      exact w2
/-- A slice of things to be written. -/
theorem open_ods {v : Value} {d : DataW H} {p : List MemPlace} {r : Reach} {b0 : Nat} (hv : Value.okWide Try.prog w r b0 31 v) (h : DataW.Trod enc Try.prog w 0 spare held 31 v d p) :
    ∃ (A : Option Addr) (c : Nat) (l : List OD), v = .slice A l.length c ∧ l.length ≤ c ∧ c ≤ 9223372036854775807 ∧ Rd w w.heap.size 3 A l.length (l.flatMap OD.cells) ∧ ∀ o ∈ l, OD.ok o := by
  obtain ⟨a0, l0, c0, rfl⟩ := okWide_slice Try.underlying31 hv
  obtain ⟨fuel, hf⟩ := h
  obtain ⟨A, n, c, xs, hcs, hl, hnc, hc, hr, hall⟩ := open_rd Try.underlying31 (size := 3) (by kernel_rfl) (by omega) hf
  have hcs' : Value.slice a0 l0 c0 = .slice A n c := by simpa [Value.cells] using hcs
  obtain ⟨l, rfl, hok⟩ := map_of (f := OD.cells) (Q := OD.ok) xs (fun c' hc' => by
    obtain ⟨hcl, m, y, hy⟩ := hall c' hc'
    exact open_od hcl hy)
  have hll : l.length = n := by simpa using hl
  subst hll
  rw [flatM] at hr
  exact ⟨A, c, l, hcs', hnc, hc, hr, hok⟩
end
end Go.Proofs.Ytkppihpdhildjaa
