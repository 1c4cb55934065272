/-
  SignKeys: a secret's public key is that of boxes, and of two secrets together it is both public keys' product.
  Condition: none.
-/
import Derived.Test.YtlcomikbmbnddaaSignLives
namespace Go.Proofs.Ytlcomikbmbnddaa
open Go.RowKit Go.Shelf
attribute [local go_sem ↓] Go.wp_at_zero Go.wp_at_succ

theorem boxPub_any (n : Nat) (w : World) (hn : n < 18446744073709551616) : Calls Try.prog 21 #[.int .u64 (n : Int)] w (PowPost (Sg.pub n) w) := by
  have hp : Hid (∀ w, Calls Try.prog 20 #[.int .u64 37, .int .u64 (n : Int)] w (PowPost (Sg.pub n) w)) := fun w => pow_any 37 n w (by omega) hn
  go_enter Try.func21, Try.ntmps21
  go_wp2_with (fail)
  refine (hp.out _).mono ?_
  rintro _ w1 ⟨rfl, hf1⟩
  go_wp2
  go_ret
  exact ⟨rfl, hf1⟩

namespace Sg
theorem pub_add {a b : Nat} (ha : a < 18446744073709551616) (hb : b < 18446744073709551616) : pub ((a + b) % 2305843009213693950) = Fd.mul (pub a) (pub b) := by
  have hlt : (a + b) % 2305843009213693950 < 18446744073709551616 := by have := Nat.mod_lt (a + b) (show 0 < 2305843009213693950 by omega); omega
  unfold pub Fd.mul
  rw [Fd.pow_eq _ _ hlt, Fd.pow_eq _ _ ha, Fd.pow_eq _ _ hb, pow_red, Nat.pow_add, ← Nat.mul_mod]
end Sg

set_option maxHeartbeats 1000000 in
theorem keys_any (n m : Nat) (w : World) (hn : n < 18446744073709551616) (hm : m < 18446744073709551616) :
    Calls Try.prog 9 #[.int .u64 (n : Int), .int .u64 (m : Int)] w (BoolPost true w) := by
  have s1 := Lib.hid (fun w => secret08_any n w hn)
  have s2 := Lib.hid (fun w => secret08_any m w hm)
  have la : 1 + n % 2305843009213693949 < 2305843009213693950 := by omega
  have lb : 1 + m % 2305843009213693949 < 2305843009213693950 := by omega
  obtain ⟨a, ha⟩ := hid_ex (1 + n % 2305843009213693949)
  obtain ⟨b, hb⟩ := hid_ex (1 + m % 2305843009213693949)
  rw [ha.out] at s1 la
  rw [hb.out] at s2 lb
  have hsum := Lib.hid (Sg.pub_add (a := a) (b := b) (by omega) (by omega))
  have ls : (a + b) % 2305843009213693950 < 2305843009213693950 := Nat.mod_lt _ (by omega)
  have h2 : ((a : Int) + (b : Int)) % 2305843009213693950 = (((a + b) % 2305843009213693950 : Nat) : Int) := by omega
  have h3 : ((a : Int) + (b : Int)).tmod 2305843009213693950 = (((a + b) % 2305843009213693950 : Nat) : Int) := by rw [Int.tmod_eq_emod_of_nonneg (by omega), h2]
  obtain ⟨t, ht⟩ := hid_ex ((a + b) % 2305843009213693950)
  rw [ht.out] at hsum ls h2 h3
  have pa : 1 ≤ Sg.pub a := Sg.pow37_pos (by omega)
  have la' := Fd.pow_lt 37 a
  have lb' := Fd.pow_lt 37 b
  have ka := Lib.hid (fun w => pub_any a w (by omega))
  have kb := Lib.hid (fun w => pub_any b w (by omega))
  have kt := Lib.hid (fun w => pub_any t w (by omega))
  have kx := Lib.hid (fun w => boxPub_any a w (by omega))
  have la2 : Sg.pub a < 2305843009213693951 := la'
  have lb2 : Sg.pub b < 2305843009213693951 := lb'
  clear la' lb'
  obtain ⟨p, hp⟩ := hid_ex (Sg.pub a)
  obtain ⟨q, hq⟩ := hid_ex (Sg.pub b)
  obtain ⟨u, hu⟩ := hid_ex (Sg.pub t)
  rw [hp.out] at ka kx pa la2 hsum
  rw [hq.out] at kb lb2 hsum
  rw [hu.out] at kt hsum
  have km : Hid (∀ w, Calls Try.prog 22 #[.int .u64 (p : Int), .int .u64 (q : Int)] w fun e w' => e = .returned (.int .u64 (u : Int)) ∧ w = w') := fun w => by rw [hsum.out]; exact mul_any p q (by omega) (by omega) w
  have hz : ((p : Int) == 0) = false := by simp; omega
  have hM0 : ¬ (2305843009213693950 : Int) = 0 := by omega
  by_cases ht0 : t = 0
  · have htz : ((t : Int) == 0) = true := by simp [ht0]
    clear ht0
    go_enter Try.func9, Try.ntmps9
    generalize (2305843009213693950 : Int) = M at *
    go_wp2_with (fail)
    refine (s1.out _).mono ?_
    rintro _ _ ⟨rfl, rfl⟩
    go_wp2_with (fail)
    refine (s2.out _).mono ?_
    rintro _ _ ⟨rfl, rfl⟩
    go_wp2_with (fail)
    refine (ka.out _).mono ?_
    rintro _ w1 ⟨rfl, hf1⟩
    go_wp2_with (fail)
    refine (kx.out _).mono ?_
    rintro _ w2 ⟨rfl, hf2⟩
    go_wp2_with (fail)
    refine (ka.out _).mono ?_
    rintro _ w3 ⟨rfl, hf3⟩
    go_wp2_with (fail)
    refine (lives08_any _).mono ?_
    rintro _ w4 ⟨rfl, hf4⟩
    go_wp2
    go_ret
    exact ⟨rfl, ((hf1.trans hf2 (fun _ _ e => e)).trans hf3 (fun _ _ e => e)).trans hf4 (fun _ _ e => e)⟩
  · have htz : ((t : Int) == 0) = false := by simp; omega
    clear ht0
    go_enter Try.func9, Try.ntmps9
    generalize (2305843009213693950 : Int) = M at *
    go_wp2_with (fail)
    refine (s1.out _).mono ?_
    rintro _ _ ⟨rfl, rfl⟩
    go_wp2_with (fail)
    refine (s2.out _).mono ?_
    rintro _ _ ⟨rfl, rfl⟩
    go_wp2_with (fail)
    refine (ka.out _).mono ?_
    rintro _ w1 ⟨rfl, hf1⟩
    go_wp2_with (fail)
    refine (kx.out _).mono ?_
    rintro _ w2 ⟨rfl, hf2⟩
    go_wp2_with (fail)
    refine (ka.out _).mono ?_
    rintro _ w3 ⟨rfl, hf3⟩
    go_wp2_with (fail)
    refine (kt.out _).mono ?_
    rintro _ w5 ⟨rfl, hf5⟩
    go_wp2_with (fail)
    refine (ka.out _).mono ?_
    rintro _ w6 ⟨rfl, hf6⟩
    go_wp2_with (fail)
    refine (kb.out _).mono ?_
    rintro _ w7 ⟨rfl, hf7⟩
    go_wp2_with (fail)
    refine (km.out _).mono ?_
    rintro _ _ ⟨rfl, rfl⟩
    go_wp2_with (fail)
    refine (lives08_any _).mono ?_
    rintro _ w4 ⟨rfl, hf4⟩
    go_wp2
    go_ret
    exact ⟨rfl, (((((hf1.trans hf2 (fun _ _ e => e)).trans hf3 (fun _ _ e => e)).trans hf5 (fun _ _ e => e)).trans hf6 (fun _ _ e => e)).trans hf7 (fun _ _ e => e)).trans hf4 (fun _ _ e => e)⟩
end Go.Proofs.Ytlcomikbmbnddaa
