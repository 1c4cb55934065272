/-
  The reference of layer 8: times, Pub, m, e.
  Conditions: the numbers are of their kind; the bytes are fewer than 2^40.
-/
import Derived.Test.YtlcomikbmbnddaaRef02Of
import Derived.Test.YtlcomikbmbnddaaSignSpec
namespace Go.Proofs.Ytlcomikbmbnddaa
open Go.RowKit
attribute [local go_sem ↓] Go.wp_at_zero Go.wp_at_succ

namespace R8
theorem step (M o x h : Nat) : ((o + x) % M + (x + x) % M * h) % M = (o + x * (2 * h + 1)) % M := by
  have e : o + x * (2 * h + 1) = (o + x) + (x + x) * h := by rw [Nat.mul_add, Nat.add_mul, Nat.mul_one, ← Nat.mul_assoc, Nat.mul_two, Nat.add_mul]; omega
  rw [e, Nat.add_mod (o + x) ((x + x) * h), Nat.mul_mod (x + x) h, Nat.add_mod ((o + x) % M), Nat.mod_mod, Nat.mul_mod ((x + x) % M), Nat.mod_mod]
theorem step0 (M o x h : Nat) : (o + (x + x) % M * h) % M = (o + x * (2 * h)) % M := by
  have e : x * (2 * h) = (x + x) * h := by rw [← Nat.mul_assoc, Nat.mul_two]
  rw [e, Nat.add_mod o ((x + x) * h), Nat.mul_mod (x + x) h, Nat.add_mod o, Nat.mul_mod ((x + x) % M), Nat.mod_mod]
end R8

theorem order08_any (w : World) : Calls Try.prog 23 #[] w fun e w' => e = .returned (.int .u64 2305843009213693950) ∧ w = w' := by
  go_enter Try.func23, Try.ntmps23
  go_wp2
  go_ret
  exact ⟨rfl, rfl⟩

set_option maxHeartbeats 2000000 in
theorem times08_any (a b : Nat) (w : World) : Calls Try.prog 31 #[.int .u64 (a : Int), .int .u64 (b : Int)] w fun e w' => e = .returned (.int .u64 ((a * b % 2305843009213693950 : Nat) : Int)) ∧ w = w' := by
  obtain ⟨x, hx⟩ := hid_ex (a % 2305843009213693950)
  obtain ⟨y, hy⟩ := hid_ex (b % 2305843009213693950)
  have lx : x < 2305843009213693950 := by rw [← hx.out]; exact Nat.mod_lt _ (by omega)
  have ly : y < 2305843009213693950 := by rw [← hy.out]; exact Nat.mod_lt _ (by omega)
  have hres : Hid ((0 + x * y) % 2305843009213693950 = a * b % 2305843009213693950) := by show _ = _; rw [Nat.zero_add, ← hx.out, ← hy.out, ← Nat.mul_mod]
  obtain ⟨r, hr⟩ := hid_ex (a * b % 2305843009213693950)
  rw [hr.out] at hres ⊢
  obtain ⟨fa, fa'⟩ := R1.nn 2305843009213693950 rfl hx.out
  obtain ⟨fb, fb'⟩ := R1.nn 2305843009213693950 rfl hy.out
  have z1 : ¬ (2305843009213693950 : Int) = 0 := by decide
  have ho : Hid (∀ w, Calls Try.prog 23 #[] w fun e w' => e = .returned (.int .u64 2305843009213693950) ∧ w = w') := fun w => order08_any w
  clear hx hy
  go_enter Try.func31, Try.ntmps31
  unfold Hid at ho
  generalize eM : (2305843009213693950 : Int) = M at *
  have hM := Lib.hid eM
  have ho' := Lib.hid ho
  clear eM ho
  go_wp2_with (fail)
  refine (ho'.out _).mono ?_
  rintro _ _ ⟨rfl, rfl⟩
  go_wp2_with (fail)
  refine (ho'.out _).mono ?_
  rintro _ _ ⟨rfl, rfl⟩
  go_wp2_with (fail)
  go_loopw [0, 1, 5] (fun p q o wr => ∃ x' y' o' : Nat, p = .int .u64 (x' : Int) ∧ q = .int .u64 (y' : Int) ∧ o = .int .u64 (o' : Int) ∧ x' < 2305843009213693950 ∧ y' < 2305843009213693950 ∧ o' < 2305843009213693950 ∧ Hid ((o' + x' * y') % 2305843009213693950 = r) ∧ wr = w) (fun _ q _ _ => (intOf q).toNat)
  case atStart => exact ⟨x, y, 0, rfl, rfl, rfl, lx, ly, by omega, hres, rfl⟩
  case round =>
    obtain ⟨x', y', o', rfl, rfl, rfl, lx', ly', lo', hd, rfl⟩ := hrel
    by_cases hz : y' = 0
    · subst hz
      have e : o' = r := by have h := hd.out; rw [Nat.mul_zero, Nat.add_zero, Nat.mod_eq_of_lt lo'] at h; exact h
      go_wp2
      go_ret
      exact ⟨by rw [← e]; rfl, rfl⟩
    · have hyp : (0 : Int) < (y' : Int) := by omega
      have l1 : (o' + x') % 2305843009213693950 < 2305843009213693950 := Nat.mod_lt _ (by omega)
      have l2 : (x' + x') % 2305843009213693950 < 2305843009213693950 := Nat.mod_lt _ (by omega)
      have s1 := R8.step 2305843009213693950 o' x' (y' / 2)
      have s0 := R8.step0 2305843009213693950 o' x' (y' / 2)
      obtain ⟨ox, hox⟩ := hid_ex ((o' + x') % 2305843009213693950)
      obtain ⟨xx, hxx⟩ := hid_ex ((x' + x') % 2305843009213693950)
      obtain ⟨g1, g1'⟩ := R1.nn M hM.out hox.out
      obtain ⟨g2, g2'⟩ := R1.nn M hM.out hxx.out
      rw [Int.natCast_add] at g1 g1' g2 g2'
      rw [hox.out] at l1 s1
      rw [hxx.out] at l2 s1 s0
      have s1' := Lib.hid s1
      have s0' := Lib.hid s0
      clear s1 s0
      have hparity : y' % 2 = 1 ∨ y' % 2 = 0 := by omega
      rcases hparity with hp | hp
      · have hpz : ((y' : Int) % 2 == 1) = true := by simp; omega
        have hd2 : Hid ((ox + xx * (y' / 2)) % 2305843009213693950 = r) := by show _ = _; rw [s1'.out, show 2 * (y' / 2) + 1 = y' by omega]; exact hd.out
        clear hd hp
        go_wp2_with (first | (go_at_call 23; refine (ho'.out _).mono ?_; rintro _ _ ⟨rfl, rfl⟩))
        exact ⟨⟨xx, y' / 2, ox, rfl, by go_num, rfl, l2, by omega, l1, hd2, by first | rfl | trivial⟩, by simp [intOf]; omega⟩
      · have hpz : ((y' : Int) % 2 == 1) = false := by simp; omega
        have hd2 : Hid ((o' + xx * (y' / 2)) % 2305843009213693950 = r) := by show _ = _; rw [s0'.out, show 2 * (y' / 2) = y' by omega]; exact hd.out
        clear hd hp
        go_wp2_with (first | (go_at_call 23; refine (ho'.out _).mono ?_; rintro _ _ ⟨rfl, rfl⟩))
        exact ⟨⟨xx, y' / 2, o', rfl, by go_num, rfl, l2, by omega, lo', hd2, by first | rfl | trivial⟩, by simp [intOf]; omega⟩
end Go.Proofs.Ytlcomikbmbnddaa
