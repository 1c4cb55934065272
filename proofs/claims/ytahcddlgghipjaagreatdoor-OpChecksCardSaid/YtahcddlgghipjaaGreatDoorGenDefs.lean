/-
  The references' generator of operations (huddleref11.Op): what it answers is right by its form.
  Conditions: as every slice has.
-/
import Derived.Test.YtahcddlgghipjaaGreatDoorGen3
import Derived.Deep.RegionLaw
import Derived.Deep.CutBlock
namespace Go.Proofs.YtahcddlgghipjaaGreatDoor
open Go.RowKit
attribute [local go_sem ↓] Go.wp_at_zero Go.wp_at_succ
namespace Oq
attribute [local go_sem] Bool.not_false Bool.not_true

/-- An operation that has numbers, a past and a path; the rest is nothing. -/
def OpL.base (b s k a : Int) (pA : Option Addr) (pC : Nat) (past : List Id) (qA : Option Addr) (qC : Nat) (path : List NdL) : OpL :=
  { OpL.zero with by_ := b, sq := s, kind := k, at_ := a, pastA := pA, pastC := pC, past := past, pathA := qA, pathC := qC, path := path }
def PastOk (k : Int) (past : List Id) : Prop := past.length ≤ 12 ∧ (∀ x ∈ past, x.named = true) ∧ Row past ∧ (past = [] ↔ k = 1)
/-- Behind the past. -/
def P1 (w0 w : World) (B g go : Nat) (L : List Int) (b s k a : Int) : Prop :=
  ∃ (i : Nat) (pA : Option Addr) (pC : Nat) (past : List Id), Gs w0 w B g go L i (OpL.base b s k a pA pC past none 0 []) ∧ i ≤ 40 ∧ PastOk k past
/-- Behind the path. -/
def P2 (w0 w : World) (B g go : Nat) (L : List Int) (b s k a : Int) : Prop :=
  ∃ (i : Nat) (pA : Option Addr) (pC : Nat) (past : List Id) (qA : Option Addr) (qC : Nat) (path : List NdL), Gs w0 w B g go L i (OpL.base b s k a pA pC past qA qC path) ∧ i ≤ 200 ∧ Pre b s k a past (path.map NdL.nd)
/-- Behind the kind's own. -/
def P3 (w0 w : World) (B g go : Nat) (L : List Int) (b s k : Int) : Prop :=
  ∃ (i : Nat) (x : OpL), Gs w0 w B g go L i x ∧ i ≤ 400 ∧ x.by_ = b ∧ x.sq = s ∧ x.kind = k ∧ x.histA = none ∧ x.histC = 0 ∧ x.hist = [] ∧ x.op.chk = 0 ∧ x.r = 0 ∧ x.s = 0
/-- Whole. -/
def P4 (w0 w : World) (B g go : Nat) (L : List Int) (b s : Int) : Prop :=
  ∃ (i : Nat) (x : OpL), Gs w0 w B g go L i x ∧ x.by_ = b ∧ x.sq = s ∧ x.op.chk = 0 ∧ x.r = 0 ∧ x.s = 0
def GenPost (L : List Int) (w : World) (r : Ending) (w' : World) : Prop :=
  ∃ x : OpL, r = .returned (.agg x.cells) ∧ x.by_ = 1 + nx L 1 6 ∧ x.sq = 1 + nx L 2 20 ∧ x.op.chk = 0 ∧ x.r = 0 ∧ x.s = 0 ∧ x.own w' w.heap.size ∧ Fr Non w w'

theorem chain_lt {l : List Int} (h : l.Pairwise (· < ·)) : chain (fun a b => decide (a < b)) l = true := by
  induction l with
  | nil => rfl
  | cons x l ih =>
    cases l with
    | nil => rfl
    | cons y l =>
      have h' := List.pairwise_cons.1 h
      show (decide (x < y) && chain (fun a b => decide (a < b)) (y :: l)) = true
      rw [ih h'.2, decide_eq_true (h'.1 y (List.mem_cons_self ..))]; rfl
/-- Nodes as the generator makes them. -/
def NdL.gen (y : NdL) : Prop := (1 ≤ y.p ∧ y.p < FP) ∧ y.xs.length ≤ 12 ∧ ∀ b ∈ y.xs, b.may = true
theorem Bx.gen.may {x : Bx} (h : x.gen) : x.may = true := by
  have h1 := h.t; have h2 := h.e; have h3 := h.y; have h4 := h.g
  unfold Bx.may
  rw [pub_t (by unfold FP; omega), pub_t (by unfold FP; omega)]
  unfold fOk FP
  simp; omega
theorem pre_ok {b s k a : Int} {past : List Id} {path : List NdL} (h : PastOk k past) (hk : 1 ≤ k ∧ k ≤ 13) (hb : 1 ≤ b ∧ b ≤ 6) (hs : 1 ≤ s ∧ s ≤ 20) (ha : 0 ≤ a ∧ a < 500) (hl : path.length ≤ 3) (hp : ∀ y ∈ path, y.gen) (hc : path = [] ∨ commit k = true) : Pre b s k a past (path.map NdL.nd) where
  kind := hk
  by_ := by omega
  sq := by omega
  at_ := by omega
  past := h
  path := by
    refine ⟨by rw [List.length_map]; omega, fun x hx => ?_, hc.imp (fun e => by rw [e]; rfl) id⟩
    obtain ⟨y, hy, rfl⟩ := List.mem_map.1 hx
    exact hp y hy
theorem Id.gen.named {x : Id} (h : x.gen) : x.named = true := named_gen (by have := h.b; omega) (by have := h.s; omega) (by have := h.u; unfold FP; omega)
theorem past_ok {k : Int} {past : List Id} {M : Nat} (hk : ¬ k = 1) (h1 : past.length + 0 ≤ M) (h2 : M ≤ 3) (h3 : ∀ x ∈ past, x.gen) (h4 : past.Nodup) (h5 : past ≠ []) : PastOk k (sortIds past) := by
  have hp := sortIds_perm past
  refine ⟨by rw [hp.length_eq]; omega, fun x hx => (h3 x (hp.mem_iff.1 hx)).named, sortIds_strict h4, fun e => ?_, fun e => absurd e hk⟩
  rw [e] at hp
  exact absurd (List.Perm.nil_eq hp).symm h5

theorem OpL.own.lower {w : World} {base base' : Nat} {x : OpL} (h : x.own w base) (hb : base' ≤ base) : x.own w base' :=
  ⟨h.past.lower hb, h.path.lower hb, fun y hy => (h.nodes y hy).lower hb, h.body.lower hb, h.refs.lower hb, h.guards.lower hb, h.boxes.lower hb, h.hist.lower hb, fun y hy => (h.seals y hy).lower hb⟩
end Oq
end Go.Proofs.YtahcddlgghipjaaGreatDoor
