/-
  Numbers and texts as bytes, as plain functions on lists: writing, reading, and that each undoes the other.
  Plain Lean; no program; no condition.
-/
import Derived.Laws.BitsAllLaws
namespace Go.Proofs.YtahcddlgghipjaaGreatDoor
namespace Pk

/-- The sevens of bits of a number, with fuel. -/
def numF : Nat → Nat → List UInt8
  | 0, _ => []
  | f + 1, n => if n < 128 then [UInt8.ofNat n] else UInt8.ofNat (n % 128 + 128) :: numF f (n / 128)
def num (n : Nat) : List UInt8 := numF 10 n
def fold (n : Int) : Nat := if n < 0 then (-2 * n - 1).toNat else (2 * n).toNat
def unfold (u : Nat) : Int := if u % 2 = 1 then -((u / 2 : Nat) : Int) - 1 else ((u / 2 : Nat) : Int)
def int (n : Int) : List UInt8 := num (fold n)
def text (s : List UInt8) : List UInt8 := int s.length ++ s
def bool (b : Bool) : List UInt8 := int (if b then 1 else 0)
def ident (b s : Int) (u : Nat) : List UInt8 := int b ++ int s ++ num u

/-- The number that stands next: what is wrong, or the number and how many bytes it has. -/
def go : Nat → Nat → List UInt8 → Sum Int (Nat × Nat)
  | _, _, [] => .inl 9
  | k, u, x :: r =>
    if (k = 9 ∧ 1 < x.toNat) ∨ (x.toNat = 0 ∧ 0 < k) then .inl 7
    else if x.toNat < 128 then .inr (u + x.toNat % 128 * 2 ^ (7 * k), k + 1)
    else go (k + 1) (u + x.toNat % 128 * 2 ^ (7 * k)) r

/-- Reading at a place: the number, the place behind it, what is wrong. -/
def rd (bs : List UInt8) (a : Nat) (e : Int) : Nat × Nat × Int :=
  if e = 0 then match go 0 0 (bs.drop a) with
    | .inl c => (0, a, c)
    | .inr (v, k) => (v, a + k, 0)
  else (0, a, e)

theorem fold_lt {n : Int} (h0 : -9223372036854775808 ≤ n) (h1 : n ≤ 9223372036854775807) : fold n < 18446744073709551616 := by
  unfold fold; split <;> omega
theorem unfold_fold {n : Int} : unfold (fold n) = n := by
  unfold fold unfold; split <;> split <;> omega
theorem fold_unfold (u : Nat) : fold (unfold u) = u := by
  unfold unfold; split <;> unfold fold <;> split <;> omega
theorem unfold_bd {u : Nat} (h : u < 18446744073709551616) : -9223372036854775808 ≤ unfold u ∧ unfold u ≤ 9223372036854775807 := by
  unfold unfold; split <;> omega

theorem numF_ne (f n : Nat) : numF (f + 1) n ≠ [] := by unfold numF; split <;> simp
theorem num_pos (n : Nat) : 0 < (num n).length := List.length_pos_iff.2 (numF_ne 9 n)
theorem numF_len : ∀ (f n : Nat), (numF f n).length ≤ f
  | 0, _ => by simp [numF]
  | f + 1, n => by
    unfold numF; split
    · simp
    · have := numF_len f (n / 128); simp; omega
theorem num_len (n : Nat) : (num n).length ≤ 10 := numF_len 10 n
theorem int_len (n : Int) : (int n).length ≤ 10 := num_len _
theorem text_len (s : List UInt8) : (text s).length ≤ 10 + s.length := by
  unfold text; rw [List.length_append]; have := int_len s.length; omega
theorem ident_len (b s : Int) (u : Nat) : (ident b s u).length ≤ 30 := by
  unfold ident; simp only [List.length_append]; have := int_len b; have := int_len s; have := num_len u; omega
theorem bool_len (b : Bool) : (bool b).length ≤ 10 := num_len _

theorem tn (n : Nat) (h : n < 256) : (UInt8.ofNat n).toNat = n := by
  rw [UInt8.toNat_ofNat']; omega

theorem pow7 (k : Nat) : 2 ^ (7 * (k + 1)) = 2 ^ (7 * k) * 128 := by
  rw [show 7 * (k + 1) = 7 * k + 7 from by omega, Nat.pow_add]

/-- What is written is read. -/
theorem go_num (r : List UInt8) : ∀ (f k u m : Nat), k + f = 9 → m < 2 * 128 ^ f → (0 < k → 0 < m) →
    go k u (numF (f + 1) m ++ r) = .inr (u + m * 2 ^ (7 * k), k + (numF (f + 1) m).length)
  | f, k, u, m, hk, hm, hp => by
    unfold numF
    by_cases h : m < 128
    · rw [if_pos h]
      simp only [List.cons_append, List.nil_append, List.length_cons, List.length_nil, go]
      rw [tn m (by omega)]
      have h9 : ¬ ((k = 9 ∧ 1 < m) ∨ (m = 0 ∧ 0 < k)) := by
        rintro (⟨h1, h2⟩ | ⟨h1, h2⟩)
        · have : f = 0 := by omega
          subst this; omega
        · have := hp h2; omega
      rw [if_neg h9, if_pos h, Nat.mod_eq_of_lt h]
    · rw [if_neg h]
      simp only [List.cons_append, List.length_cons, go]
      rw [tn (m % 128 + 128) (by omega)]
      have hf : f ≠ 0 := by rintro rfl; omega
      obtain ⟨f', rfl⟩ : ∃ f', f = f' + 1 := ⟨f - 1, by omega⟩
      have h9 : ¬ ((k = 9 ∧ 1 < m % 128 + 128) ∨ (m % 128 + 128 = 0 ∧ 0 < k)) := by omega
      rw [if_neg h9, if_neg (by omega)]
      have hd : m / 128 < 2 * 128 ^ f' := by
        rw [Nat.div_lt_iff_lt_mul (by omega)]; rw [Nat.pow_succ] at hm; omega
      rw [go_num r f' (k + 1) _ (m / 128) (by omega) hd (fun _ => by omega)]
      have e1 : (m % 128 + 128) % 128 = m % 128 := by omega
      rw [e1, pow7]
      have e2 : u + m % 128 * 2 ^ (7 * k) + m / 128 * (2 ^ (7 * k) * 128) = u + m * 2 ^ (7 * k) := by
        have hm' : m * 2 ^ (7 * k) = (m % 128 + 128 * (m / 128)) * 2 ^ (7 * k) := by rw [Nat.mod_add_div]
        rw [hm', Nat.add_mul, Nat.mul_comm (2 ^ (7 * k)) 128, ← Nat.mul_assoc, Nat.mul_comm (m / 128) 128, Nat.add_assoc]
      rw [e2]
      congr 2
      omega

theorem go_num0 (n : Nat) (h : n < 18446744073709551616) (r : List UInt8) : go 0 0 (num n ++ r) = .inr (n, (num n).length) := by
  have := go_num r 9 0 0 n rfl (by simpa using h) (fun h => absurd h (by omega))
  simpa [num] using this

/-- What is read is what was written. -/
theorem go_inv : ∀ (l : List UInt8) (k u v K : Nat), k ≤ 9 → go k u l = .inr (v, K) →
    ∃ m, m < 2 * 128 ^ (9 - k) ∧ (0 < k → 0 < m) ∧ v = u + m * 2 ^ (7 * k) ∧ K = k + (numF (10 - k) m).length ∧ ∃ r, l = numF (10 - k) m ++ r
  | [], k, u, v, K, _, h => by simp [go] at h
  | x :: r, k, u, v, K, hk, h => by
    unfold go at h
    have hx := x.toNat_lt
    by_cases hb : (k = 9 ∧ 1 < x.toNat) ∨ (x.toNat = 0 ∧ 0 < k)
    · rw [if_pos hb] at h; cases h
    · rw [if_neg hb] at h
      have h10 : 10 - k = (9 - k) + 1 := by omega
      by_cases hl : x.toNat < 128
      · rw [if_pos hl] at h
        injection h with h; injection h with h1 h2
        refine ⟨x.toNat, ?_, fun hp => by omega, ?_, ?_, r, ?_⟩
        · by_cases h9 : k = 9
          · subst h9; simp; omega
          · have : 128 ^ 1 ≤ 128 ^ (9 - k) := Nat.pow_le_pow_right (by omega) (by omega)
            omega
        · rw [← h1, Nat.mod_eq_of_lt hl]
        · rw [h10]; unfold numF; rw [if_pos hl]; simp [← h2]
        · rw [h10]; unfold numF; rw [if_pos hl]; simp
      · rw [if_neg hl] at h
        have hk9 : k ≠ 9 := by omega
        obtain ⟨m, hm, hp, hv, hK, r', hr⟩ := go_inv r (k + 1) _ v K (by omega) h
        have hp' := hp (by omega)
        have hd : (x.toNat % 128 + 128 * m) / 128 = m := by omega
        have hmod : (x.toNat % 128 + 128 * m) % 128 + 128 = x.toNat := by omega
        have h9k : 9 - k = (9 - (k + 1)) + 1 := by omega
        have hnum : numF (10 - k) (x.toNat % 128 + 128 * m) = x :: numF (10 - (k + 1)) m := by
          rw [h10]
          conv => lhs; unfold numF
          rw [if_neg (by omega), hd, hmod, show 10 - (k + 1) = 9 - k from by omega]
          congr 1
          exact UInt8.toNat_inj.1 (tn _ (by omega))
        refine ⟨x.toNat % 128 + 128 * m, ?_, fun _ => by omega, ?_, ?_, r', ?_⟩
        · rw [h9k, Nat.pow_succ]; omega
        · rw [hv, pow7, Nat.add_mul, Nat.mul_comm (2 ^ (7 * k)) 128, ← Nat.mul_assoc, Nat.mul_comm m 128, Nat.add_assoc]
        · rw [hnum, hK]; simp; omega
        · rw [hnum, hr]; rfl

theorem go_inv0 {l : List UInt8} {v K : Nat} (h : go 0 0 l = .inr (v, K)) : v < 18446744073709551616 ∧ K = (num v).length ∧ ∃ r, l = num v ++ r := by
  obtain ⟨m, hm, _, hv, hK, r, hr⟩ := go_inv l 0 0 v K (by omega) h
  have : v = m := by omega
  subst this
  exact ⟨by simpa using hm, by simpa [num] using hK, r, by simpa [num] using hr⟩
theorem go_le {l : List UInt8} {v K : Nat} (h : go 0 0 l = .inr (v, K)) : K ≤ l.length := by
  obtain ⟨_, rfl, r, rfl⟩ := go_inv0 h
  simp

/-- A number that is cut off is short. -/
theorem go_cut : ∀ (f k u m j : Nat), k + f = 9 → m < 2 * 128 ^ f → (0 < k → 0 < m) → j < (numF (f + 1) m).length → go k u ((numF (f + 1) m).take j) = .inl 9
  | f, k, u, m, 0, _, _, _, _ => by simp [go]
  | f, k, u, m, j + 1, hk, hm, hp, hj => by
    unfold numF at hj ⊢
    by_cases h : m < 128
    · rw [if_pos h] at hj; simp at hj
    · rw [if_neg h] at hj ⊢
      have hf : f ≠ 0 := by rintro rfl; omega
      obtain ⟨f', rfl⟩ : ∃ f', f = f' + 1 := ⟨f - 1, by omega⟩
      simp only [List.take_succ_cons, go]
      rw [tn (m % 128 + 128) (by omega), if_neg (by omega), if_neg (by omega)]
      have hd : m / 128 < 2 * 128 ^ f' := by
        rw [Nat.div_lt_iff_lt_mul (by omega)]; rw [Nat.pow_succ] at hm; omega
      exact go_cut f' (k + 1) _ (m / 128) j (by omega) hd (fun _ => by omega) (by simpa using hj)
theorem go_cut0 (n : Nat) (h : n < 18446744073709551616) {j : Nat} (hj : j < (num n).length) : go 0 0 ((num n).take j) = .inl 9 :=
  go_cut 9 0 0 n j rfl (by simpa using h) (fun h => absurd h (by omega)) hj

theorem go_err : ∀ (l : List UInt8) (k u : Nat) (c : Int), go k u l = .inl c → c = 9 ∨ c = 7
  | [], k, u, c, h => by simp [go] at h; omega
  | x :: r, k, u, c, h => by
    unfold go at h
    split at h
    · injection h with h; omega
    · split at h
      · cases h
      · exact go_err r _ _ c h

theorem rd_ne {bs : List UInt8} {a : Nat} {e : Int} (h : e ≠ 0) : rd bs a e = (0, a, e) := by unfold rd; rw [if_neg h]
theorem rd_lt (bs : List UInt8) (a : Nat) (e : Int) : (rd bs a e).1 < 18446744073709551616 := by
  unfold rd
  split
  · split
    · simp
    · rename_i h; exact (go_inv0 h).1
  · simp
theorem rd_le {bs : List UInt8} {a : Nat} (e : Int) (ha : a ≤ bs.length) : (rd bs a e).2.1 ≤ bs.length := by
  unfold rd
  split
  · split
    · exact ha
    · rename_i h; have := go_le h; simp at this; show a + _ ≤ _; omega
  · exact ha
theorem rd_mono (bs : List UInt8) (a : Nat) (e : Int) : a ≤ (rd bs a e).2.1 := by
  unfold rd
  split
  · split
    · exact Nat.le_refl _
    · exact Nat.le_add_right _ _
  · exact Nat.le_refl _
theorem rd_err {bs : List UInt8} {a : Nat} {e : Int} (h : (rd bs a e).2.2 ≠ 0) : (rd bs a e).1 = 0 ∧ (rd bs a e).2.1 = a := by
  unfold rd at h ⊢
  by_cases he : e = 0
  · rw [if_pos he] at h ⊢
    revert h
    split
    · exact fun _ => ⟨rfl, rfl⟩
    · exact fun h => absurd rfl h
  · rw [if_neg he]
    exact ⟨rfl, rfl⟩
theorem rd_e (bs : List UInt8) (a : Nat) (e : Int) : (rd bs a e).2.2 = 0 ∨ (rd bs a e).2.2 = 9 ∨ (rd bs a e).2.2 = 7 ∨ (rd bs a e).2.2 = e := by
  unfold rd
  split
  · split
    · rename_i h; rcases go_err _ _ _ _ h with rfl | rfl <;> simp
    · simp
  · simp
/-- Reading a number that was written there. -/
theorem rd_num {bs : List UInt8} {a n : Nat} {r : List UInt8} (hn : n < 18446744073709551616) (h : bs.drop a = num n ++ r) : rd bs a 0 = (n, a + (num n).length, 0) := by
  unfold rd; rw [if_pos rfl, h, go_num0 n hn]
theorem rd_inv {bs : List UInt8} {a : Nat} {e : Int} (h : (rd bs a e).2.2 = 0) : e = 0 ∧ (rd bs a e).2.1 = a + (num (rd bs a e).1).length ∧ ∃ r, bs.drop a = num (rd bs a e).1 ++ r := by
  unfold rd at h ⊢
  split at h
  · rename_i he
    split at h
    · rename_i c hc
      have hc' : c = 0 := h
      rcases go_err _ _ _ _ hc with h1 | h1 <;> omega
    · rename_i v K hg
      obtain ⟨_, hK, hr⟩ := go_inv0 hg
      rw [if_pos he]
      exact ⟨he, by show a + K = _; rw [hK], hr⟩
  · rename_i he; exact absurd h he
end Pk
end Go.Proofs.YtahcddlgghipjaaGreatDoor
