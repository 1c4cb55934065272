/-
  What may turn while a result's own rows are written: cells of rows, never their shape (Turn).
  Plain theorems over the model's worlds; no condition.
-/
import Derived.Test.YthmlaigpdpdpjaaGreatDoorGen2
namespace Go.Proofs.YthmlaigpdpdpjaaGreatDoor
open Go.RowKit
namespace Oq

/-- From block B on cells have turned; no block its shape, no operation, and of a node not its slice. -/
structure Turn (B : Nat) (a w : World) : Prop where
  os : w.os = a.os
  tape : w.tape = a.tape
  output : w.output = a.output
  size : a.heap.size ≤ w.heap.size
  low : ∀ k : Nat, k < B → k < a.heap.size → w.heap[k]? = a.heap[k]?
  shape : ∀ (k : Nat) (cs : Array Value) (t : TypeId) (fr : Nat × Nat), a.heap[k]? = some (.cells cs t fr) → ∃ cs' : Array Value, w.heap[k]? = some (.cells cs' t fr) ∧ cs'.size = cs.size ∧ (t = 35 → cs' = cs) ∧ (t = 49 → ∀ i, cs'[i * 2 + 1]? = cs[i * 2 + 1]?)

section
variable {B base size n c : Nat} {a w : World} {t : TypeId} {A : Option Addr} {xs : List Value}
theorem Turn.refl (B : Nat) (a : World) : Turn B a a := ⟨rfl, rfl, rfl, Nat.le_refl _, fun _ _ _ => rfl, fun _ cs _ _ h => ⟨cs, h, rfl, fun _ => rfl, fun _ _ => rfl⟩⟩
theorem Turn.fr (h : Turn B a w) : Fr (From B) a w := ⟨h.os, h.tape, h.output, h.size, fun k hk hn => h.low k (by unfold From at hn; omega) hk⟩
theorem Turn.set (h : Turn B a w) {k : Nat} {cs : Array Value} {fr : Nat × Nat} (hk : B ≤ k) (hb : a.heap[k]? = some (.cells cs t fr)) (j : Nat) (v : Value) (h1 : t ≠ 35) (h2 : t = 49 → ∀ i, j ≠ i * 2 + 1) : Turn B a (w.setCell ⟨k, j, none⟩ v) := by
  refine ⟨h.os, h.tape, h.output, by show _ ≤ (w.setCell ⟨k, j, none⟩ v).heap.size; simp [World.setCell]; exact h.size, fun k' hk' hk2 => ?_, fun k' cs' t' fr' hb' => ?_⟩
  · have hne : k' ≠ k := by omega
    rw [Below.heap_setCell w ⟨k, j, none⟩ v k' hne]
    exact h.low k' hk' hk2
  · obtain ⟨ds, hd, hs, ho, hn⟩ := h.shape k' cs' t' fr' hb'
    by_cases hkk : k' = k
    · subst hkk
      rw [hb] at hb'
      injection hb' with hb'
      injection hb' with e1 e2 e3
      subst e1 e2 e3
      refine ⟨ds.setIfInBounds j v, ?_, by simpa using hs, fun e => absurd e h1, fun e i => ?_⟩
      · simp [World.setCell, Array.getElem?_modify, hd]
      · rw [Array.getElem?_setIfInBounds_ne (h2 e i)]
        exact hn e i
    · exact ⟨ds, by rw [Below.heap_setCell w ⟨k, j, none⟩ v k' hkk]; exact hd, hs, ho, hn⟩
theorem Turn.op {g : Nat} {cs : Array Value} (h : Turn B a w) (hb : Blk a g 35 cs) : Blk w g 35 cs := by
  obtain ⟨ds, hd, _, ho, _⟩ := h.shape g cs _ _ hb
  rw [ho rfl] at hd
  exact hd
/-- A cell of a row: it is there, and may be written. -/
theorem Turn.cell (h : Turn B a w) (hr : RowAt a base t size A n c xs) (hB : B ≤ base) {j : Nat} (hj : j < n * size) (h1 : t ≠ 35) (h2 : t = 49 → ∀ i, j ≠ i * 2 + 1) :
    ∃ k v, A = some ⟨k, 0, none⟩ ∧ w.cell? ⟨k, j, none⟩ = some v ∧ w.frozen? ⟨k, j, none⟩ = false ∧ ∀ u, Turn B a (w.setCell ⟨k, j, none⟩ u) := by
  obtain ⟨⟨⟨hl, hc⟩, _⟩, h4⟩ := hr
  rcases h4 with h0 | ⟨k, cs, fr, rfl, hk, hb, hz⟩
  · subst h0; omega
  · obtain ⟨ds, hd, hs, _, _⟩ := h.shape k cs t fr hb
    have hc' : ∃ u, a.cell? ⟨k, j, none⟩ = some u := by
      rcases hc with h0 | ⟨b, off, e, _, hc⟩
      · subst h0; omega
      · injection e with e
        injection e with e1 e2
        subst e1 e2
        have hjl : j < xs.length := by omega
        have := hc j xs[j] (List.getElem?_eq_getElem hjl)
        rw [Nat.zero_add] at this
        exact ⟨_, this⟩
    obtain ⟨u, hu⟩ := hc'
    have hjs : j < cs.size := by
      rcases Nat.lt_or_ge j cs.size with hlt | hge
      · exact hlt
      · exfalso
        have e := cell_of_row a k j cs t fr hb
        rw [hu] at e
        rw [Array.getElem?_eq_none hge] at e
        cases e
    refine ⟨k, ds[j]'(by omega), rfl, ?_, ?_, fun u => h.set (by omega) hb j u h1 h2⟩
    · rw [cell_of_row w k j ds t fr hd]
      exact Array.getElem?_eq_getElem _
    · have e := hz j hj
      unfold World.frozen? at e ⊢
      rw [hb] at e
      rw [hd]
      exact e
/-- A node's slice stays. -/
theorem Turn.node (h : Turn B a w) {l : List NdL} (hr : RowAt a base 49 2 A n c (l.flatMap NdL.cells)) {i : Nat} {x : NdL} (hx : l[i]? = some x) :
    ∃ k, A = some ⟨k, 0, none⟩ ∧ w.cell? ⟨k, i * 2 + 1, none⟩ = some (.slice x.A x.xs.length x.c) := by
  obtain ⟨b, off, e, _, _, hc⟩ := NdL.el hr.1.1 hx
  rcases hr.2 with h0 | ⟨k, cs, fr, e2, hk, hb, hz⟩
  · exfalso
    have h5 := (List.getElem?_eq_some_iff.1 hx).1
    have h6 := hr.1.1.1
    rw [flat_len (f := NdL.cells) (fun _ => (rfl : _ = 2))] at h6
    subst h0
    omega
  · rw [e] at e2
    injection e2 with e2
    injection e2 with e3 e4
    subst e3 e4
    rw [Nat.zero_add] at hc
    refine ⟨b, e, ?_⟩
    obtain ⟨ds, hd, hs, _, hn⟩ := h.shape b cs _ fr hb
    rw [cell_of_row w b _ ds _ fr hd, hn rfl i, ← cell_of_row a b _ cs _ fr hb]
    exact hc
end
/-- Own rows while what lies ahead of them turns. -/
theorem RowAt.above {S : Nat → Prop} {w w' : World} {base size n c : Nat} {t : TypeId} {A : Option Addr} {xs : List Value} (h : RowAt w base t size A n c xs) (hf : Fr S w w') (hS : ∀ k, base ≤ k → ¬ S k) : RowAt w' base t size A n c xs :=
  h.fr hf (fun h0 k hk => by
    rcases h.2 with h1 | ⟨k', cs, fr, e, hb, _⟩
    · exact absurd h1 h0
    · subst e
      have e' : k' = k := by have h2 : some k' = some k := hk; exact Option.some.inj h2
      exact hS k (by omega))
theorem OpL.own.above {S : Nat → Prop} {w w' : World} {base : Nat} {x : OpL} (h : x.own w base) (hf : Fr S w w') (hS : ∀ k, base ≤ k → ¬ S k) : x.own w' base where
  past := h.past.above hf hS
  path := h.path.above hf hS
  nodes y hy := (h.nodes y hy).above hf hS
  body := h.body.above hf hS
  refs := h.refs.above hf hS
  guards := h.guards.above hf hS
  boxes := h.boxes.above hf hS
  hist := h.hist.above hf hS
  seals y hy := (h.seals y hy).above hf hS
end Oq
end Go.Proofs.YthmlaigpdpdpjaaGreatDoor
