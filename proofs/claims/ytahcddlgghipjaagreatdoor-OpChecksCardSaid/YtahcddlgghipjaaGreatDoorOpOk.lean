/-
  An operation of the right form has numbers of their kinds.
  Plain Lean; no program; no condition.
-/
import Derived.Test.YtahcddlgghipjaaGreatDoorOpSame
namespace Go.Proofs.YtahcddlgghipjaaGreatDoor
namespace Oq

def NumsOk (o : Op) : Prop := I64 o.dev ∧ I64 o.old ∧ I64 o.mem ∧ I64 o.role ∧ I64 o.n ∧ I64 o.need ∧ I64 o.wait ∧ U64 o.pub ∧ o.epoch.ok ∧ o.of.ok
theorem Id.ok_zero {x : Id} (h : Id.eq x Id.zero = true) : x.ok := Id.zero_of h
theorem nums_ok {o : Op} (hk : 1 ≤ o.kind ∧ o.kind ≤ 13) (h2 : o.bareB = true) (h3 : o.numsB = true) (h5 : o.longB = false) : NumsOk o := by
  have hkk : o.kind = 1 ∨ o.kind = 2 ∨ o.kind = 3 ∨ o.kind = 4 ∨ o.kind = 5 ∨ o.kind = 6 ∨ o.kind = 7 ∨ o.kind = 8 ∨ o.kind = 9 ∨ o.kind = 10 ∨ o.kind = 11 ∨ o.kind = 12 ∨ o.kind = 13 := by omega
  have hg : o.guards.length ≤ 6 := by
    unfold Op.longB at h5
    simp only [Bool.or_eq_false_iff] at h5
    have := h5.1.2
    simpa using this
  clear h5 hk
  unfold Op.bareB at h2
  unfold Op.numsB at h3
  rcases hkk with e | e | e | e | e | e | e | e | e | e | e | e | e
  all_goals
    simp [e, hasOf, commit, inR, pubOk] at h2 h3
    have z : ∀ n : Int, n = 0 → I64 n := fun n h => by rw [h]; exact ⟨by decide, by decide⟩
    have u : ∀ n : Nat, n = 0 → U64 n := fun n h => by rw [h]; show (0 : Nat) < _; decide
    have i1 : ∀ n : Int, -9223372036854775808 ≤ n → n ≤ 9223372036854775807 → I64 n := fun n a b => ⟨a, b⟩
    have u1 : ∀ n : Nat, n < FP → U64 n := fun n h => U64.of h
    refine ⟨?_, ?_, ?_, ?_, ?_, ?_, ?_, ?_, ?_, ?_⟩
    all_goals first
      | exact i1 _ (by omega) (by omega)
      | exact u _ (by omega)
      | exact u1 _ (by omega)
      | exact Id.named_ok (by simp [h3])
      | exact Id.ok_zero (by simp [h2])
theorem ok_of_chk {o : Op} (h : o.chk = 0) (hr : U64 o.r) (hs : U64 o.s) : o.ok := by
  rw [chk_ok] at h
  obtain ⟨hk, h2, h3, h4, h5, _, _⟩ := h
  obtain ⟨n1, n2, n3, n4, n5, n6, n7, n8, n9, n10⟩ := nums_ok hk h2 h3 h5
  unfold Op.numsB at h3
  simp only [Bool.and_eq_true] at h3
  have b1 := inR_of h3.1.1.1
  have b2 := inR_of h3.1.1.2
  have b3 := inR_of h3.1.2
  unfold Op.itemsB at h4
  simp only [Bool.and_eq_true, List.all_eq_true] at h4
  obtain ⟨⟨⟨⟨⟨g1, g2⟩, g3⟩, g4⟩, g5⟩, g6⟩ := h4
  have hbx : o.boxes.length ≤ 1000 := by
    unfold Op.bareB at h2
    simp only [Bool.and_eq_true, Bool.or_eq_true] at h2
    have hb := h2.1.2
    unfold Op.longB at h5
    simp only [Bool.or_eq_false_iff] at h5
    have hl := h5.2
    have hg : o.guards.length ≤ 6 := by simpa using h5.1.2
    rcases hb with ((hb | hb) | hb) | hb
    · rw [List.isEmpty_iff] at hb
      rw [hb]; simp
    · rw [beq_iff_eq] at hb
      simp [hb] at hl
      omega
    · rw [beq_iff_eq] at hb
      simp [hb] at hl
      omega
    · rw [beq_iff_eq] at hb
      simp [hb] at hl
      omega
  unfold Op.longB at h5
  simp only [Bool.or_eq_false_iff, List.any_eq_false] at h5
  obtain ⟨⟨⟨⟨⟨⟨⟨⟨l1, l2⟩, l3⟩, l4⟩, l5⟩, l6⟩, l7⟩, l8⟩, _⟩ := h5
  simp at l1 l2 l3 l4 l5 l6 l7 l8
  exact ⟨⟨by omega, by omega⟩, ⟨by omega, by omega⟩, ⟨by omega, by omega⟩, ⟨by omega, by omega⟩, ⟨by omega, fun x hx => Id.named_ok (g3 x hx)⟩, n1, n2, n3, n4, ⟨by omega, fun x hx => ⟨U64.of (pub_of (g4 x hx).1).2, by have := l1 x hx; omega, fun b hb => Bx.may_ok ((g4 x hx).2 b hb)⟩⟩, n9, n5, by omega, ⟨by omega, fun x hx => U64.of (f_of (g2 x hx))⟩, n10, ⟨by omega, fun x hx => by have := inR_of (g1 x hx); exact ⟨by omega, by omega⟩⟩, n6, n7, ⟨hbx, fun x hx => Bx.may_ok (g5 x hx)⟩, n8, ⟨by omega, fun x hx => ⟨Id.named_ok (g6 x hx), by have := l2 x hx; omega⟩⟩, hr, hs⟩
end Oq
end Go.Proofs.YtahcddlgghipjaaGreatDoor
