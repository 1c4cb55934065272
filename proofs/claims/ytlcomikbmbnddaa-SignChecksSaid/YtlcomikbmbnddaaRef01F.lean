/-
  The reference of layer 1: Mul, Add, Pow: the document's numbers are the field's.
  Conditions: the arguments are of their kind.
-/
import Derived.Test.YtlcomikbmbnddaaField
import Derived.Deep.RegionHeld3
namespace Go.Proofs.Ytlcomikbmbnddaa
open Go.RowKit
attribute [local go_sem ↓] Go.wp_at_zero Go.wp_at_succ

namespace R1
/-- The halves of a product modulo 2^61 - 1. -/
theorem halves (al ah bl bh : Nat) (h1 : al < 4294967296) (h2 : ah < 536870912) (h3 : bl < 4294967296) (h4 : bh < 536870912) :
    ∃ low m1 m2 mid high me mq lp : Nat, low = al * bl ∧ m1 = ah * bl ∧ m2 = al * bh ∧ mid = m1 + m2 ∧ high = ah * bh ∧ me = mid % 536870912 ∧ mq = mid / 536870912 ∧ lp = low % 2305843009213693951 ∧
      low < 18446744073709551616 ∧ m1 < 2305843009213693952 ∧ m2 < 2305843009213693952 ∧ high < 288230376151711744 ∧ me < 536870912 ∧ mq < 8589934592 ∧ lp < 2305843009213693951 := by
  have p1 : al * bl ≤ 4294967295 * 4294967295 := Nat.mul_le_mul (by omega) (by omega)
  have p2 : ah * bl ≤ 536870911 * 4294967295 := Nat.mul_le_mul (by omega) (by omega)
  have p3 : al * bh ≤ 4294967295 * 536870911 := Nat.mul_le_mul (by omega) (by omega)
  have p4 : ah * bh ≤ 536870911 * 536870911 := Nat.mul_le_mul (by omega) (by omega)
  exact ⟨_, _, _, _, _, _, _, _, rfl, rfl, rfl, rfl, rfl, rfl, rfl, rfl, by omega, by omega, by omega, by omega, by omega, by omega, Nat.mod_lt _ (by omega)⟩
theorem split (x : Nat) (hx : x < 2305843009213693952) : ∃ l h : Nat, l < 4294967296 ∧ h < 536870912 ∧ x = h * 4294967296 + l ∧ x % 4294967296 = l ∧ x / 4294967296 = h := ⟨x % 4294967296, x / 4294967296, by omega, by omega, by omega, rfl, rfl⟩
theorem whole (al ah bl bh low mid high me mq lp : Nat) (e1 : low = al * bl) (e2 : mid = ah * bl + al * bh) (e3 : high = ah * bh) (e4 : me = mid % 536870912) (e5 : mq = mid / 536870912) (e6 : lp = low % 2305843009213693951) :
    (lp + me * 4294967296 + mq + 8 * high) % 2305843009213693951 = (ah * 4294967296 + al) * (bh * 4294967296 + bl) % 2305843009213693951 := by
  have h : (ah * 4294967296 + al) * (bh * 4294967296 + bl) = high * 18446744073709551616 + mid * 4294967296 + low := by
    rw [Lib.split_mul, ← e1, ← e3]
    have : ah * bl + al * bh = mid := e2.symm
    rw [this]
  rw [h, e4, e5, e6]
  omega
theorem nn {a b c : Nat} (B : Int) (hB : (b : Int) = B) (h : a % b = c) : (a : Int) % B = (c : Int) ∧ (a : Int).tmod B = (c : Int) := by
  subst h hB
  rw [Int.tmod_eq_emod_of_nonneg (by omega)]
  exact ⟨(Int.natCast_emod a b).symm, (Int.natCast_emod a b).symm⟩
theorem dd {a b c : Nat} (B : Int) (hB : (b : Int) = B) (h : a / b = c) : (a : Int) / B = (c : Int) ∧ (a : Int).tdiv B = (c : Int) := by
  subst h hB
  rw [Int.tdiv_eq_ediv_of_nonneg (by omega)]
  exact ⟨(Int.natCast_ediv a b).symm, (Int.natCast_ediv a b).symm⟩
theorem ww {a b c : Nat} (B : Int) (hB : (b : Int) = B) (h : c = a * b) (hc : c < 18446744073709551616) : IntKind.u64.wrap ((a : Int) * B) = (c : Int) := by
  subst hB
  rw [← Int.natCast_mul, ← h, IntKind.wrap_u64]; omega
theorem w1 {k : Nat} (hk : k < 18446744073709551616) : IntKind.u64.wrap (k : Int) = (k : Int) := by rw [IntKind.wrap_u64]; omega
end R1

set_option maxHeartbeats 2000000 in
theorem mul01_any (a b : Nat) (w : World) (_ha : a < 18446744073709551616) (_hb : b < 18446744073709551616) :
    Calls Try.prog 34 #[.int .u64 (a : Int), .int .u64 (b : Int)] w fun e w' => e = .returned (.int .u64 (Fd.mul a b : Int)) ∧ ∃ n, w' = w.drewN n := by
  obtain ⟨x, hx⟩ := hid_ex (a % 2305843009213693951)
  obtain ⟨y, hy⟩ := hid_ex (b % 2305843009213693951)
  have lx : x < 2305843009213693951 := by rw [← hx.out]; exact Nat.mod_lt _ (by omega)
  have ly : y < 2305843009213693951 := by rw [← hy.out]; exact Nat.mod_lt _ (by omega)
  obtain ⟨al, ah, lal, lah, exx, e1, e2⟩ := R1.split x (Nat.lt_trans lx (by decide))
  obtain ⟨bl, bh, lbl, lbh, eyy, e3, e4⟩ := R1.split y (Nat.lt_trans ly (by decide))
  obtain ⟨low, m1, m2, mid, high, me, mq, lp, d1, d2, d3, d4, d5, d6, d7, d8, g1, g2, g3, g4, g5, g6, g7⟩ := R1.halves al ah bl bh lal lah lbl lbh
  have hres : Hid ((lp + me * 4294967296 + mq + 8 * high) % 2305843009213693951 = Fd.mul a b) := by
    show _ = _
    rw [R1.whole al ah bl bh low mid high me mq lp d1 (by rw [d4, d2, d3]) d5 d6 d7 d8, ← exx, ← eyy, ← hx.out, ← hy.out, Fd.mul_mod]
  obtain ⟨r, hr⟩ := hid_ex (Fd.mul a b)
  rw [hr.out] at hres ⊢
  obtain ⟨meh, hmeh⟩ := hid_ex (me * 4294967296)
  rw [hmeh.out] at hres
  have lmeh : meh < 2305843009213693952 := by rw [← hmeh.out]; omega
  obtain ⟨fa, fa'⟩ := R1.nn 2305843009213693951 rfl hx.out
  obtain ⟨fb, fb'⟩ := R1.nn 2305843009213693951 rfl hy.out
  obtain ⟨f1, f1'⟩ := R1.nn 4294967296 rfl e1
  obtain ⟨f2, f2'⟩ := R1.dd 4294967296 rfl e2
  obtain ⟨f3, f3'⟩ := R1.nn 4294967296 rfl e3
  obtain ⟨f4, f4'⟩ := R1.dd 4294967296 rfl e4
  obtain ⟨f5, f5'⟩ := R1.nn 536870912 rfl d6.symm
  obtain ⟨f6, f6'⟩ := R1.dd 536870912 rfl d7.symm
  obtain ⟨f7, f7'⟩ := R1.nn 2305843009213693951 rfl d8.symm
  obtain ⟨f8, f8'⟩ := R1.nn 2305843009213693951 rfl hres.out
  have k1 := R1.ww bl rfl d1 g1
  have k2 := R1.ww bl rfl d2 (Nat.lt_trans g2 (by decide))
  have k3 := R1.ww bh rfl d3 (Nat.lt_trans g3 (by decide))
  have k4 := R1.ww bh rfl d5 (Nat.lt_trans g4 (by decide))
  have k5 := R1.ww (c := meh) 4294967296 rfl hmeh.out.symm (Nat.lt_trans lmeh (by decide))
  have k6 : IntKind.u64.wrap ((m1 : Int) + (m2 : Int)) = (mid : Int) := by rw [IntKind.wrap_u64, d4]; omega
  rw [show ((lp + meh + mq + 8 * high : Nat) : Int) = (lp : Int) + (meh : Int) + (mq : Int) + 8 * (high : Int) by omega] at f8 f8'
  clear hx hy lx ly exx e1 e2 eyy e3 e4 d1 d2 d3 d4 d5 d6 d7 d8 hres hmeh lal lbl
  have wah := R1.w1 (Nat.lt_trans lah (by decide))
  have wbh := R1.w1 (Nat.lt_trans lbh (by decide))
  have wmq := R1.w1 (Nat.lt_trans g6 (by decide))
  clear lah lbh
  have z1 : ¬ (2305843009213693951 : Int) = 0 := by decide
  have z2 : ¬ (4294967296 : Int) = 0 := by decide
  have z3 : ¬ (536870912 : Int) = 0 := by decide
  go_enter Try.func34, Try.ntmps34
  generalize (2305843009213693951 : Int) = P at *
  generalize (4294967296 : Int) = H at *
  generalize (536870912 : Int) = E at *
  go_wp2
  go_quiet (fail)
  go_wp2
  go_quiet (fail)
  go_wp2
  go_quiet (fail)
  go_wp2
  go_quiet (fail)
  go_wp2
  go_ret
  exact ⟨rfl, _, by simp only [World.drewN_drewN]; rfl⟩

theorem add01_any (a b : Nat) (w : World) : Calls Try.prog 49 #[.int .u64 (a : Int), .int .u64 (b : Int)] w fun e w' => e = .returned (.int .u64 (num (a + b) : Int)) ∧ w = w' := by
  obtain ⟨x, hx⟩ := hid_ex (a % 2305843009213693951)
  obtain ⟨y, hy⟩ := hid_ex (b % 2305843009213693951)
  have lx : x < 2305843009213693951 := by rw [← hx.out]; exact Nat.mod_lt _ (by omega)
  have ly : y < 2305843009213693951 := by rw [← hy.out]; exact Nat.mod_lt _ (by omega)
  have hres : (x + y) % 2305843009213693951 = num (a + b) := by rw [← hx.out, ← hy.out]; exact (Nat.add_mod a b _).symm
  obtain ⟨r, hr⟩ := hid_ex (num (a + b))
  rw [hr.out] at hres ⊢
  obtain ⟨fa, fa'⟩ := R1.nn 2305843009213693951 rfl hx.out
  obtain ⟨fb, fb'⟩ := R1.nn 2305843009213693951 rfl hy.out
  obtain ⟨f8, f8'⟩ := R1.nn 2305843009213693951 rfl hres
  rw [show ((x + y : Nat) : Int) = (x : Int) + (y : Int) by omega] at f8 f8'
  have z1 : ¬ (2305843009213693951 : Int) = 0 := by decide
  clear hres hx hy
  go_enter Try.func49, Try.ntmps49
  generalize (2305843009213693951 : Int) = P at *
  go_wp2
  go_ret
  exact ⟨rfl, rfl⟩

/-- Pow: by squares, too. -/
theorem pow01_any (a n : Nat) (w : World) (_ha : a < 18446744073709551616) (hn : n < 18446744073709551616) : Calls Try.prog 24 #[.int .u64 (a : Int), .int .u64 (n : Int)] w fun e w' => e = .returned (.int .u64 (Fd.pow a n : Int)) ∧ ∃ k, w' = w.drewN k := by
  obtain ⟨x, hx⟩ := hid_ex (a % 2305843009213693951)
  have lx : x < 2305843009213693951 := by rw [← hx.out]; exact Nat.mod_lt _ (by omega)
  have hpow : Hid (Fd.foldS (Fd.sqs 64 x n) 1 = Fd.pow a n) := by show _ = _; unfold Fd.pow; rw [hx.out]
  obtain ⟨r, hr⟩ := hid_ex (Fd.pow a n)
  rw [hr.out] at hpow ⊢
  obtain ⟨fa, fa'⟩ := R1.nn 2305843009213693951 rfl hx.out
  have z1 : ¬ (2305843009213693951 : Int) = 0 := by decide
  clear hx
  go_enter Try.func24, Try.ntmps24
  generalize (2305843009213693951 : Int) = P at *
  go_wp2
  go_loopw [5, 6, 7] (fun o b m wr => ∃ o' b' m' f k : Nat, o = .int .u64 (o' : Int) ∧ b = .int .u64 (b' : Int) ∧ m = .int .u64 (m' : Int) ∧ o' < 2305843009213693951 ∧ b' < 2305843009213693951 ∧ m' < 18446744073709551616 ∧ m' < 2 ^ f ∧ Hid (Fd.foldS (Fd.sqs f b' m') o' = r) ∧ wr = w.drewN k) (fun _ _ m _ => (intOf m).toNat)
  case atStart => exact ⟨1, x, n, 64, 0, rfl, rfl, rfl, by omega, lx, hn, by omega, hpow, rfl⟩
  case round =>
    obtain ⟨o, b, m, f, k, rfl, rfl, rfl, lo, lb, lm, hf, hd, rfl⟩ := hrel
    by_cases hz : m = 0
    · subst hz
      have e : o = r := by have h := hd.out; cases f <;> simpa [Fd.sqs, Fd.foldS] using h
      subst e
      go_wp2
      go_ret
      exact ⟨rfl, k, rfl⟩
    · obtain ⟨f, rfl⟩ : ∃ f', f = f' + 1 := ⟨f - 1, by rcases f with _ | f; · simp at hf; omega
                                                       · rfl⟩
      have hd2 : Fd.foldS (Fd.sqs f (Fd.mul b b) (m / 2)) (if (m % 2 == 1) = true then Fd.mul o b else o) = r := by have h := hd.out; rw [Fd.sqs, if_neg hz] at h; exact h
      have hmp : (0 : Int) < (m : Int) := by omega
      have hb2 := Fd.mul_bd b b
      have ho2 := Fd.mul_bd o b
      have k1 := Lib.hid (fun w => mul01_any o b w (by omega) (by omega))
      have k2 := Lib.hid (fun w => mul01_any b b w (by omega) (by omega))
      obtain ⟨bb, hbb⟩ := hid_ex (Fd.mul b b)
      obtain ⟨ob, hob⟩ := hid_ex (Fd.mul o b)
      rw [hbb.out] at hd2 hb2 k2
      rw [hob.out] at hd2 ho2 k1
      have hf2 : m / 2 < 2 ^ f := by rw [Nat.pow_succ] at hf; omega
      clear hd hf hz
      have hparity : m % 2 = 1 ∨ m % 2 = 0 := by omega
      rcases hparity with hp | hp
      · have hpz : ((m : Int) % 2 == 1) = true := by simp; omega
        rw [hp] at hd2
        have hd3 : Hid (Fd.foldS (Fd.sqs f bb (m / 2)) ob = r) := hd2
        clear hd2 hp
        go_wp2_with (fail)
        refine (k1.out _).mono ?_
        rintro _ _ ⟨rfl, n1, rfl⟩
        go_wp2_with (fail)
        refine (k2.out _).mono ?_
        rintro _ _ ⟨rfl, n2, rfl⟩
        go_wp2
        exact ⟨⟨ob, bb, m / 2, f, k + n1 + n2, rfl, rfl, by go_num, ho2, hb2, by omega, hf2, hd3, by first | rfl | trivial⟩, by simp [intOf]; omega⟩
      · have hpz : ((m : Int) % 2 == 1) = false := by simp; omega
        rw [hp] at hd2
        have hd3 : Hid (Fd.foldS (Fd.sqs f bb (m / 2)) o = r) := hd2
        clear hd2 hp
        go_wp2_with (fail)
        refine (k2.out _).mono ?_
        rintro _ _ ⟨rfl, n2, rfl⟩
        go_wp2
        exact ⟨⟨o, bb, m / 2, f, k + n2, rfl, rfl, by go_num, lo, hb2, by omega, hf2, hd3, by first | rfl | trivial⟩, by simp [intOf]; omega⟩
end Go.Proofs.Ytlcomikbmbnddaa
