/-
  The reference's way to read a number: where it ends, and what it is, from its last byte on; and that this is the other way's answer.
  Plain Lean; no program; no condition.
-/
import Derived.Test.YtkppihpdhildjaaPackSpec
namespace Go.Proofs.Ytkppihpdhildjaa
namespace Pk
/-- Where the first byte below 128 stands. -/
def fin : List UInt8 → Option Nat
  | [] => none
  | x :: r => if x.toNat < 128 then some 0 else (fin r).map (· + 1)
/-- The number of sevens of bits, the lowest ones first. -/
def val : List UInt8 → Nat
  | [] => 0
  | x :: r => x.toNat % 128 + 128 * val r

theorem fin_lt : ∀ (l : List UInt8) (j : Nat), fin l = some j → ∃ h : j < l.length, l[j].toNat < 128
  | [], j, h => by simp [fin] at h
  | x :: r, j, h => by
    unfold fin at h
    by_cases hx : x.toNat < 128
    · rw [if_pos hx] at h; injection h with h; subst h; exact ⟨by simp, by simpa using hx⟩
    · rw [if_neg hx] at h
      cases hf : fin r with
      | none => rw [hf] at h; simp at h
      | some i =>
        rw [hf] at h; simp at h; subst h
        obtain ⟨h1, h2⟩ := fin_lt r i hf
        exact ⟨by simp; omega, by simpa using h2⟩
theorem fin_ge : ∀ (l : List UInt8) (j : Nat), (∀ k, fin l = some k → j < k) → j < l.length → ∃ h : j < l.length, 128 ≤ l[j].toNat
  | [], j, _, h => by simp at h
  | x :: r, j, hf, h => by
    have hx : ¬ x.toNat < 128 := fun hx => by have := hf 0 (by simp [fin, hx]); omega
    match j with
    | 0 => exact ⟨by simp, by simpa using hx⟩
    | j + 1 =>
      obtain ⟨h1, h2⟩ := fin_ge r j (fun k hk => by have := hf (k + 1) (by simp [fin, hx, hk]); omega) (by simpa using h)
      exact ⟨h, by simpa using h2⟩

theorem go_fin_none : ∀ (l : List UInt8) (k u : Nat), k ≤ 9 → fin l = none → go k u l = if 10 ≤ k + l.length then .inl 7 else .inl 9
  | [], k, u, hk, _ => by simp [go]; omega
  | x :: r, k, u, hk, h => by
    unfold fin at h
    have hx : ¬ x.toNat < 128 := fun hx => by rw [if_pos hx] at h; cases h
    rw [if_neg hx] at h
    have hr : fin r = none := by simpa using h
    unfold go
    by_cases h9 : k = 9
    · rw [if_pos (.inl ⟨h9, by omega⟩), if_pos (by simp; omega)]
    · rw [if_neg (by omega), if_neg hx, go_fin_none r (k + 1) _ (by omega) hr]
      congr 1
      simp; omega
theorem go_fin_some : ∀ (l : List UInt8) (k u j : Nat) (y : UInt8), k ≤ 9 → fin l = some j → l[j]? = some y →
    go k u l = if 10 ≤ k + j ∨ (k + j = 9 ∧ 1 < y.toNat) ∨ (0 < k + j ∧ y.toNat = 0) then .inl 7 else .inr (u + val (l.take (j + 1)) * 2 ^ (7 * k), k + j + 1)
  | [], k, u, j, y, hk, h, _ => by simp [fin] at h
  | x :: r, k, u, j, y, hk, h, hy => by
    unfold fin at h
    by_cases hx : x.toNat < 128
    · rw [if_pos hx] at h
      injection h with h; subst h
      have : x = y := by simpa using hy
      subst this
      unfold go
      by_cases hb : (k = 9 ∧ 1 < x.toNat) ∨ (x.toNat = 0 ∧ 0 < k)
      · rw [if_pos hb, if_pos (by omega)]
      · rw [if_neg hb, if_pos hx, if_neg (by omega)]
        simp [val]
    · rw [if_neg hx] at h
      cases hf : fin r with
      | none => rw [hf] at h; simp at h
      | some i =>
        rw [hf] at h; simp at h; subst h
        have hy' : r[i]? = some y := by simpa using hy
        unfold go
        by_cases h9 : k = 9
        · rw [if_pos (.inl ⟨h9, by omega⟩), if_pos (by omega)]
        · rw [if_neg (by omega), if_neg hx, go_fin_some r (k + 1) _ i y (by omega) hf hy', show k + 1 + i = k + (i + 1) by omega]
          congr 2
          simp only [List.take_succ_cons, val, pow7]
          rw [Nat.add_mul, Nat.mul_comm 128 (val _), Nat.mul_assoc, Nat.mul_comm (2 ^ (7 * k)) 128, Nat.add_assoc]

theorem val_drop (l : List UInt8) (k : Nat) (x : UInt8) (h : l[k]? = some x) : val (l.drop k) = val (l.drop (k + 1)) * 128 + x.toNat % 128 := by
  obtain ⟨hk, rfl⟩ := List.getElem?_eq_some_iff.1 h
  rw [List.drop_eq_getElem_cons hk, val]; omega
theorem val_mono (l : List UInt8) : ∀ k, val (l.drop k) ≤ val l
  | 0 => by simp
  | k + 1 => by
    refine Nat.le_trans ?_ (val_mono l k)
    rcases Nat.lt_or_ge k l.length with h | h
    · rw [List.drop_eq_getElem_cons h, val]; omega
    · rw [List.drop_eq_nil_of_le (by omega)]; simp [val]

/-- The reference's answer at a place. -/
theorem rd_none {bs : List UInt8} {a : Nat} (h : fin (bs.drop a) = none) : rd bs a 0 = (0, a, if 10 ≤ bs.length - a then 7 else 9) := by
  unfold rd
  rw [if_pos rfl, go_fin_none _ 0 0 (by omega) h]
  simp only [Nat.zero_add, List.length_drop]
  by_cases h1 : 10 ≤ bs.length - a
  · rw [if_pos h1, if_pos h1]
  · rw [if_neg h1, if_neg h1]
theorem rd_some {bs : List UInt8} {a j : Nat} {y : UInt8} (h : fin (bs.drop a) = some j) (hy : bs[a + j]? = some y) :
    rd bs a 0 = if 10 ≤ j ∨ (j = 9 ∧ 1 < y.toNat) ∨ (0 < j ∧ y.toNat = 0) then (0, a, 7) else (val ((bs.drop a).take (j + 1)), a + (j + 1), 0) := by
  unfold rd
  rw [if_pos rfl, go_fin_some _ 0 0 j y (by omega) h (by rw [List.getElem?_drop]; exact hy)]
  simp only [Nat.zero_add]
  by_cases h1 : 10 ≤ j ∨ (j = 9 ∧ 1 < y.toNat) ∨ (0 < j ∧ y.toNat = 0)
  · rw [if_pos h1, if_pos h1]
  · rw [if_neg h1, if_neg h1]
    simp
end Pk
end Go.Proofs.Ytkppihpdhildjaa
