/-
  What is signed is taken; one S more is not; numbers out of their range are refused. Plain Lean.
-/
import Derived.Test.YtlcomikbmbnddaaSignSpec
namespace Go.Proofs.Ytlcomikbmbnddaa
namespace Sg
theorem fermat {M : Nat} (hM : M = 2305843009213693950) : 37 ^ M % 2305843009213693951 = 1 := by
  have h := Fd.pow_eq 37 M (by omega)
  rw [← h, hM]
  decide +kernel
theorem pow_one {M : Nat} (hM : M = 2305843009213693950) (k : Nat) : (37 ^ M) ^ k % 2305843009213693951 = 1 := by
  rw [Nat.pow_mod, fermat hM, Nat.one_pow]
theorem pow_red' {M : Nat} (hM : M = 2305843009213693950) (k : Nat) : 37 ^ (k % M) % 2305843009213693951 = 37 ^ k % 2305843009213693951 := by
  conv => rhs; rw [← Nat.div_add_mod k M, Nat.pow_add, Nat.pow_mul, Nat.mul_mod, pow_one hM, Nat.one_mul, Nat.mod_mod]
theorem pow_red (k : Nat) : 37 ^ (k % 2305843009213693950) % 2305843009213693951 = 37 ^ k % 2305843009213693951 := pow_red' rfl k
theorem pow_ne' {M : Nat} (hM : M = 2305843009213693950) (k : Nat) : 37 ^ k % 2305843009213693951 ≠ 0 := by
  intro h
  have h1 : (37 ^ k) ^ M % 2305843009213693951 = 1 := by rw [← Nat.pow_mul, Nat.mul_comm, Nat.pow_mul]; exact pow_one hM k
  rw [Nat.pow_mod, h, Nat.zero_pow (by omega)] at h1
  simp at h1
theorem pow_ne (k : Nat) : 37 ^ k % 2305843009213693951 ≠ 0 := pow_ne' rfl k
theorem pow37_pos {k : Nat} (hk : k < 18446744073709551616) : 1 ≤ Fd.pow 37 k := by
  rw [Fd.pow_eq 37 k hk]
  exact Nat.one_le_iff_ne_zero.2 (pow_ne k)
theorem mul_pow (a b : Nat) : Fd.mul a b % 2305843009213693951 = a * b % 2305843009213693951 := by unfold Fd.mul; rw [Nat.mod_mod]
/-- The two sides of a right signature. -/
theorem sides {x o e : Nat} (hx : x < 18446744073709551616) (ho : o < 18446744073709551616) (he : e < 18446744073709551616) :
    Fd.pow 37 ((o + e * x % 2305843009213693950) % 2305843009213693950) = Fd.mul (Fd.pow 37 o) (Fd.pow (Fd.pow 37 x) e) := by
  have hs : (o + e * x % 2305843009213693950) % 2305843009213693950 = (o + e * x) % 2305843009213693950 := by rw [Nat.add_mod_mod]
  have hlt : (o + e * x) % 2305843009213693950 < 18446744073709551616 := by have := Nat.mod_lt (o + e * x) (show 0 < 2305843009213693950 by omega); omega
  rw [hs, Fd.pow_eq _ _ hlt, pow_red, Nat.pow_add]
  unfold Fd.mul
  rw [Fd.pow_eq _ _ ho, Fd.pow_eq _ _ he, Fd.pow_eq _ _ hx, ← Nat.pow_mod, ← Nat.mul_mod, ← Nat.pow_mul, Nat.mul_comm x e]
theorem within_yes {n lo hi : Nat} (h1 : lo ≤ n) (h2 : n ≤ hi) : within n lo hi = true := by
  unfold within
  simp; omega
theorem takes (x : Nat) (bs : List UInt8) (hx : x < 18446744073709551616) : check (pub x) bs (r x bs) (s x bs) = true := by
  have lo := once_lt x bs
  have lr := r_lt x bs
  have ls := s_lt x bs
  have lp := Fd.pow_lt 37 x
  have le := e_lt (r x bs) (pub x) bs
  have p1 : 1 ≤ Fd.pow 37 x := pow37_pos hx
  have p2 : 1 ≤ r x bs := pow37_pos (by omega)
  have w1 : within (pub x) 1 2305843009213693950 = true := within_yes (lo := 1) (hi := 2305843009213693950) p1 (by unfold pub; omega)
  have w2 : within (r x bs) 1 2305843009213693950 = true := within_yes (lo := 1) (hi := 2305843009213693950) p2 (by omega)
  have w3 : within (s x bs) 0 2305843009213693949 = true := within_yes (lo := 0) (hi := 2305843009213693949) (by omega) (by omega)
  unfold check
  rw [w1, w2, w3]
  have h := sides (x := x) (o := once x bs) (e := e (r x bs) (pub x) bs) hx (by omega) (by omega)
  have hs : s x bs = (once x bs + e (r x bs) (pub x) bs * x % 2305843009213693950) % 2305843009213693950 := rfl
  have hr : r x bs = Fd.pow 37 (once x bs) := rfl
  rw [hs, h, ← hr]
  simp [pub]
end Sg
end Go.Proofs.Ytlcomikbmbnddaa
