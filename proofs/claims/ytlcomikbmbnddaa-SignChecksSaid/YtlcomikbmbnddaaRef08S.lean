/-
  The reference of layer 8: Pub, m, e, Sign.
  Conditions: the numbers are of their kind; the bytes are fewer than 2^40.
-/
import Derived.Test.YtlcomikbmbnddaaRef08
import Derived.Test.YtlcomikbmbnddaaSign2
namespace Go.Proofs.Ytlcomikbmbnddaa
open Go.RowKit
attribute [local go_sem ↓] Go.wp_at_zero Go.wp_at_succ

theorem pub08_any (n : Nat) (w : World) (hn : n < 18446744073709551616) : Calls Try.prog 13 #[.int .u64 (n : Int)] w (PowPost (Sg.pub n) w) := by
  have hp : Hid (∀ w, Calls Try.prog 24 #[.int .u64 37, .int .u64 (n : Int)] w fun e w' => e = .returned (.int .u64 (Sg.pub n : Int)) ∧ ∃ k, w' = w.drewN k) := fun w => pow01_any 37 n w (by omega) hn
  go_enter Try.func13, Try.ntmps13
  go_wp2_with (fail)
  refine (hp.out _).mono ?_
  rintro _ _ ⟨rfl, k, rfl⟩
  go_wp2
  go_ret
  exact ⟨rfl, (Fr.refl _ _).drewN _⟩

theorem m08_any (B n c : Nat) (A : Option Addr) (bs : List UInt8) (w : World) (hlen : Hid (bs.length = n)) (hn : n ≤ 1099511627775) (hB : B ≤ w.heap.size) (hr : Rd w B 1 A n (bs.map Bv)) :
    Calls Try.prog 30 #[.slice A n c] w (PowPost (Sg.m bs) w) := by
  have hby : Hid (Calls Try.prog 42 #[.string ⟨#[115, 105, 103, 110, 101, 100]⟩, .slice A n c] w (PowPost (Sg.m bs) w)) := ofBytes02_any Sg.lSigned B n c A bs w hlen hn (by decide) hB hr
  go_enter Try.func30, Try.ntmps30
  go_wp2_with (fail)
  refine hby.out.mono ?_
  rintro _ w1 ⟨rfl, hf1⟩
  go_wp2
  go_ret
  exact ⟨rfl, hf1⟩

theorem e08_any (r pub B n c : Nat) (A : Option Addr) (bs : List UInt8) (w : World) (hr0 : r < 18446744073709551616) (hp : pub < 18446744073709551616) (hlen : Hid (bs.length = n)) (hn : n ≤ 1099511627775) (hB : B ≤ w.heap.size) (hr : Rd w B 1 A n (bs.map Bv)) :
    Calls Try.prog 32 #[.int .u64 (r : Int), .int .u64 (pub : Int), .slice A n c] w (PowPost (Sg.e r pub bs) w) := by
  have he : Hid (Sg.e r pub bs = Hs.of Sg.lSig [r, pub, Sg.m bs]) := rfl
  have hm := Sg.m_lt bs
  have hby := Lib.hid (m08_any B n c A bs w hlen hn hB hr)
  obtain ⟨v, hv⟩ := hid_ex (Sg.m bs)
  rw [hv.out] at he hm hby
  rw [he.out]
  go_enter Try.func32, Try.ntmps32
  go_wp2_with (fail)
  refine hby.out.mono ?_
  rintro _ w1 ⟨rfl, hf1⟩
  go_wp2_with (fail)
  have hnew := Blk.new w1 22 #[.int .u64 (r : Int), .int .u64 (pub : Int), .int .u64 (v : Int)]
  have hrd : Rd (w1.alloc (.cells #[.int .u64 (r : Int), .int .u64 (pub : Int), .int .u64 (v : Int)] 22)) (w1.heap.size + 1) 1 (some ⟨w1.heap.size, 0, none⟩) 3 ([r, pub, v].map Wv) := by
    refine ⟨rfl, .inr ⟨w1.heap.size, 0, rfl, by omega, fun j u hu => ?_⟩⟩
    rw [hnew.cell]
    match j, hu with
    | 0, hu => simpa [Wv] using hu
    | 1, hu => simpa [Wv] using hu
    | 2, hu => simpa [Wv] using hu
  refine (of02_any Sg.lSig [r, pub, v] _ 3 3 _ _ rfl (by decide) (by omega) hrd (by simp; omega)).mono ?_
  rintro _ w2 ⟨rfl, hf2⟩
  go_wp2
  go_ret
  exact ⟨rfl, (hf1.alloc _).trans hf2 (fun _ _ e => e)⟩

theorem sum_named (o X S : Nat) (ho : o < 2305843009213693950) (hX : X < 2305843009213693950) (hS : Hid ((o + X) % 2305843009213693950 = S)) : ((o : Int) + (X : Int)) % 2305843009213693950 = (S : Int) ∧ ((o : Int) + (X : Int)).tmod 2305843009213693950 = (S : Int) := by
  have h2 : ((o : Int) + (X : Int)) % 2305843009213693950 = (S : Int) := by rw [← hS.out]; omega
  exact ⟨h2, by rw [Int.tmod_eq_emod_of_nonneg (by omega), h2]⟩

set_option maxHeartbeats 2000000 in
theorem sign08_any (secret B n c : Nat) (A : Option Addr) (bs : List UInt8) (w : World) (hs : secret < 18446744073709551616) (hlen : Hid (bs.length = n)) (hn : n ≤ 1099511627775) (hB : B ≤ w.heap.size) (hr : Rd w B 1 A n (bs.map Bv)) :
    Calls Try.prog 15 #[.int .u64 (secret : Int), .slice A n c] w (SignPost secret bs w) := by
  have hb0 := Blk.new w 28 #[.int .u64 0, .int .u64 0]
  have hf0 : Fr Non w (w.alloc (.cells #[.int .u64 0, .int .u64 0] 28)) := (Fr.refl _ _).alloc _
  have hr0 := hr.alloc (.cells #[.int .u64 0, .int .u64 0] 28)
  have lp := Fd.pow_lt 37 secret
  have lm := Sg.m_lt bs
  have lo := Sg.once_lt secret bs
  have lr := Sg.r_lt secret bs
  have hx1 : Hid (Sg.x secret bs = Sg.e (Sg.r secret bs) (Sg.pub secret) bs * secret % 2305843009213693950) := rfl
  have hs1 : Hid ((Sg.once secret bs + Sg.x secret bs) % 2305843009213693950 = Sg.s secret bs) := rfl
  have lx := Sg.x_lt secret bs
  have ls := Sg.s_lt secret bs
  have hpow : Hid (∀ w, Calls Try.prog 24 #[.int .u64 37, .int .u64 (Sg.once secret bs : Int)] w fun e w' => e = .returned (.int .u64 (Sg.r secret bs : Int)) ∧ ∃ k, w' = w.drewN k) := fun w => pow01_any 37 (Sg.once secret bs) w (by omega) (by omega)
  have lp' : Sg.pub secret < 2305843009213693951 := lp
  have le := Sg.e_lt (Sg.r secret bs) (Sg.pub secret) bs
  have honce : Hid (Sg.once secret bs = Hs.secret Sg.lNonce [secret, Sg.m bs]) := rfl
  have hpubc := Lib.hid (fun w => pub08_any secret w hs)
  obtain ⟨P, hP⟩ := hid_ex (Sg.pub secret)
  obtain ⟨m, hm⟩ := hid_ex (Sg.m bs)
  obtain ⟨o, ho⟩ := hid_ex (Sg.once secret bs)
  obtain ⟨R, hR⟩ := hid_ex (Sg.r secret bs)
  rw [hR.out, hP.out] at hx1 le
  rw [hR.out, ho.out] at hpow
  rw [ho.out] at hs1 lo honce
  rw [hm.out] at honce lm
  rw [hR.out] at lr
  rw [hP.out] at lp' hpubc
  obtain ⟨E, hE⟩ := hid_ex (Sg.e R P bs)
  rw [hE.out] at hx1 le
  have htimes : Hid (∀ w, Calls Try.prog 31 #[.int .u64 (E : Int), .int .u64 (secret : Int)] w fun e w' => e = .returned (.int .u64 (Sg.x secret bs : Int)) ∧ w = w') := fun w => by rw [hx1.out]; exact times08_any E secret w
  obtain ⟨X, hX⟩ := hid_ex (Sg.x secret bs)
  obtain ⟨S, hS⟩ := hid_ex (Sg.s secret bs)
  rw [hX.out] at htimes lx hs1
  rw [hS.out] at hs1 ls
  obtain ⟨v1, v2⟩ := sum_named o X S lo lx hs1
  have hord : Hid (∀ w, Calls Try.prog 23 #[] w fun e w' => e = .returned (.int .u64 2305843009213693950) ∧ w = w') := fun w => order08_any w
  have z1 : ¬ (2305843009213693950 : Int) = 0 := by decide
  go_enter Try.func15, Try.ntmps15
  go_wp2_with (fail)
  refine (m08_any B n c A bs _ hlen hn (by simp; omega) hr0).mono ?_
  rw [hm.out]
  rintro _ w2 ⟨rfl, hf2⟩
  go_wp2_with (fail)
  have hnew := Blk.new w2 22 #[.int .u64 (secret : Int), .int .u64 (m : Int)]
  have hrd : Rd (w2.alloc (.cells #[.int .u64 (secret : Int), .int .u64 (m : Int)] 22)) (w2.heap.size + 1) 1 (some ⟨w2.heap.size, 0, none⟩) 2 ([secret, m].map Wv) := by
    refine ⟨rfl, .inr ⟨w2.heap.size, 0, rfl, by omega, fun j u hu => ?_⟩⟩
    rw [hnew.cell]
    match j, hu with
    | 0, hu => simpa [Wv] using hu
    | 1, hu => simpa [Wv] using hu
  refine (secret02_any Sg.lNonce [secret, m] _ 2 2 _ _ rfl (by decide) (by omega) hrd (by simp; omega)).mono ?_
  rw [← honce.out]
  rintro _ w3 ⟨rfl, hf3⟩
  go_wp2_with (fail)
  refine (hpow.out _).mono ?_
  rintro _ _ ⟨rfl, k4, rfl⟩
  go_wp2_with (fail)
  refine (hpubc.out _).mono ?_
  rintro _ w4 ⟨rfl, hf4⟩
  have hz2 := hf2.size
  have hz3 := hf3.size
  have hz4 := hf4.size
  simp only [World.size_alloc] at hz2 hz3
  have hz4' : w3.heap.size ≤ w4.heap.size := hz4
  have hr4 := ((((hr0.fr hf2 (fun _ _ e => e)).alloc (.cells #[.int .u64 (secret : Int), .int .u64 (m : Int)] 22)).fr hf3 (fun _ _ e => e)).drewN k4).fr hf4 (fun _ _ e => e)
  go_wp2_with (fail)
  refine (e08_any R P B n c A bs w4 (by omega) (by omega) hlen hn (by omega) hr4).mono ?_
  rw [hE.out]
  rintro _ w5 ⟨rfl, hf5⟩
  go_wp2_with (fail)
  refine (htimes.out _).mono ?_
  rintro _ _ ⟨rfl, rfl⟩
  unfold Hid at hord
  generalize (2305843009213693950 : Int) = M at *
  have hord' := Lib.hid hord
  clear hord
  go_wp2_with (fail)
  refine (hord'.out _).mono ?_
  rintro _ _ ⟨rfl, rfl⟩
  have hb6 := (((((hb0.fr hf2 (fun e => e)).alloc (.cells #[.int .u64 (secret : Int), .int .u64 (m : Int)] 22)).fr hf3 (fun e => e)).drewN k4).fr hf4 (fun e => e)).fr hf5 (fun e => e)
  have hff := (((((hf0.trans hf2 (fun _ _ e => e)).alloc (.cells #[.int .u64 (secret : Int), .int .u64 (m : Int)] 22)).trans hf3 (fun _ _ e => e)).drewN k4).trans hf4 (fun _ _ e => e)).trans hf5 (fun _ _ e => e)
  have hc0 := hb6.cell 0
  have hc1 := hb6.cell 1
  have hz0 := hb6.frozen 0
  have hz1 := hb6.frozen 1
  go_wp2
  refine ret_blk rfl rfl ((hb6.set 0 _).set 1 _) rfl Try.underlying28 (by kernel_rfl) rfl ⟨?_, (hff.setNew (Nat.le_refl _) _ _).setNew (Nat.le_refl _) _ _⟩
  rw [hR.out, hS.out]
  rfl
end Go.Proofs.Ytlcomikbmbnddaa
