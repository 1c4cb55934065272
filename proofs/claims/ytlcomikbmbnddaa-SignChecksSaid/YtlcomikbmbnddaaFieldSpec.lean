/-
  Numbers modulo 2^61 - 1: products, powers by squares. Plain Lean.
-/
import Derived.Test.YtlcomikbmbnddaaBase
namespace Go.Proofs.Ytlcomikbmbnddaa
namespace Fd

/-- A product of two numbers below 2^61 - 1, folded. -/
theorem fold_mul (m : Nat) : (m % 18446744073709551616 % 2305843009213693951 + m / 18446744073709551616 * 8) % 2305843009213693951 = m % 2305843009213693951 := by omega
theorem mul_lt {a b : Nat} (ha : a < 2305843009213693951) (hb : b < 2305843009213693951) : a * b < 5316911983139663487003542222693990401 :=
  Nat.lt_of_le_of_lt (Nat.mul_le_mul (show a ≤ 2305843009213693950 by omega) (show b ≤ 2305843009213693950 by omega)) (by decide)
def mul (a b : Nat) : Nat := a * b % 2305843009213693951
theorem mul_bd (a b : Nat) : mul a b < 2305843009213693951 := Nat.mod_lt _ (by omega)
theorem mul_mod (a b : Nat) : (a % 2305843009213693951) * (b % 2305843009213693951) % 2305843009213693951 = mul a b := (Nat.mul_mod a b _).symm

/-- The squares of a number, for each bit of n, with that bit. -/
def sqs : Nat → Nat → Nat → List (Nat × Bool)
  | 0, _, _ => []
  | f + 1, b, n => if n = 0 then [] else (b, n % 2 == 1) :: sqs f (mul b b) (n / 2)
def foldS : List (Nat × Bool) → Nat → Nat
  | [], o => o
  | (b, t) :: r, o => foldS r (if t then mul o b else o)
def pow (a n : Nat) : Nat := foldS (sqs 64 (a % 2305843009213693951) n) 1

theorem pow_mod (b k : Nat) : (b % 2305843009213693951) ^ k % 2305843009213693951 = b ^ k % 2305843009213693951 := (Nat.pow_mod b k _).symm
theorem foldS_eq : ∀ (f b n o : Nat), n < 2 ^ f → foldS (sqs f b n) o % 2305843009213693951 = o * b ^ n % 2305843009213693951 := by
  intro f
  induction f with
  | zero =>
    intro b n o hn
    have : n = 0 := by simpa using hn
    subst this
    simp [sqs, foldS]
  | succ f ih =>
    intro b n o hn
    unfold sqs
    by_cases h : n = 0
    · subst h; simp [foldS]
    · rw [if_neg h]
      unfold foldS
      rw [ih _ _ _ (by rw [Nat.pow_succ] at hn; omega)]
      have hsq : (mul b b) ^ (n / 2) % 2305843009213693951 = (b ^ (2 * (n / 2))) % 2305843009213693951 := by
        unfold mul
        rw [pow_mod, Nat.pow_mul, Nat.pow_two]
      have hn2 : n = 2 * (n / 2) + n % 2 := by omega
      by_cases h1 : n % 2 = 1
      · have hb : (n % 2 == 1) = true := by simp [h1]
        rw [hb, if_pos rfl, Nat.mul_mod, hsq]
        unfold mul
        rw [Nat.mod_mod, ← Nat.mul_mod]
        conv => rhs; rw [hn2, h1, Nat.pow_add, Nat.pow_one]
        rw [Nat.mul_assoc, Nat.mul_comm b]
      · have hb : (n % 2 == 1) = false := by simp; omega
        rw [hb, if_neg (by simp), Nat.mul_mod, hsq, ← Nat.mul_mod]
        conv => rhs; rw [hn2, show n % 2 = 0 by omega, Nat.add_zero]
theorem foldS_lt : ∀ (l : List (Nat × Bool)) (o : Nat), o < 2305843009213693951 → foldS l o < 2305843009213693951
  | [], _, h => h
  | (b, t) :: r, o, h => foldS_lt r _ (by cases t <;> simp <;> first | exact h | exact mul_bd _ _)
theorem pow_lt (a n : Nat) : pow a n < 2305843009213693951 := foldS_lt _ _ (by omega)
theorem pow_eq (a n : Nat) (hn : n < 18446744073709551616) : pow a n = a ^ n % 2305843009213693951 := by
  have h := foldS_eq 64 (a % 2305843009213693951) n 1 (by omega)
  rw [Nat.one_mul, pow_mod] at h
  exact (Nat.mod_eq_of_lt (pow_lt a n)).symm.trans h
theorem sqs_lt : ∀ (f b n : Nat) (x : Nat × Bool), b < 2305843009213693951 → x ∈ sqs f b n → x.1 < 2305843009213693951 := by
  intro f
  induction f with
  | zero => intro b n x _ hx; simp [sqs] at hx
  | succ f ih =>
    intro b n x hb hx
    unfold sqs at hx
    by_cases h : n = 0
    · rw [if_pos h] at hx; simp at hx
    · rw [if_neg h] at hx
      rcases List.mem_cons.1 hx with rfl | hx
      · exact hb
      · exact ih _ _ _ (mul_bd _ _) hx
end Fd
end Go.Proofs.Ytlcomikbmbnddaa
