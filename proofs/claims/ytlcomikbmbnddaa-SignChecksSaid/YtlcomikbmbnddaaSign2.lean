/-
  Signatures: Sign, Check, what lives.
  Conditions: the numbers are of their kind; the bytes are fewer than 2^40.
-/
import Derived.Test.YtlcomikbmbnddaaSign
namespace Go.Proofs.Ytlcomikbmbnddaa
open Go.RowKit Go.Shelf
attribute [local go_sem ↓] Go.wp_at_zero Go.wp_at_succ

/-- A signature as a value. -/
def SigV (R S : Nat) : Value := .agg #[.int .u64 (R : Int), .int .u64 (S : Int)]
def SignPost (secret : Nat) (bs : List UInt8) (w : World) (r : Ending) (w' : World) : Prop := r = .returned (SigV (Sg.r secret bs) (Sg.s secret bs)) ∧ Fr Non w w'

theorem add_sign_any (x y z : Nat) (w : World) (hx : x < 2305843009213693951) (hy : y < 2305843009213693951) (hz : Hid ((x + y) % 2305843009213693950 = z)) :
    Calls Try.prog 28 #[.int .u64 (x : Int), .int .u64 (y : Int)] w fun e w' => e = .returned (.int .u64 (z : Int)) ∧ w = w' := by
  have h1 : IntKind.u64.wrap ((x : Int) + (y : Int)) = ((x + y : Nat) : Int) := by rw [IntKind.wrap_u64]; omega
  have h2 : ((x : Int) + (y : Int)) % 2305843009213693950 = (z : Int) := by rw [← hz.out]; omega
  have h3 : ((x : Int) + (y : Int)).tmod 2305843009213693950 = (z : Int) := by rw [Int.tmod_eq_emod_of_nonneg (by omega), h2]
  have hz' : z < 2305843009213693950 := by rw [← hz.out]; omega
  go_enter Try.func28, Try.ntmps28
  have h5 : ¬ (2305843009213693950 : Int) = 0 := by omega
  have h6 : IntKind.u64.wrap (z : Int) = (z : Int) := by rw [IntKind.wrap_u64]; omega
  generalize (2305843009213693950 : Int) = M at *
  go_wp2
  go_ret
  exact ⟨rfl, rfl⟩

set_option maxHeartbeats 2000000 in
theorem sign_any (secret B n c : Nat) (A : Option Addr) (bs : List UInt8) (w : World) (hs : secret < 18446744073709551616) (hlen : Hid (bs.length = n)) (hnc : n ≤ c) (hn : n ≤ 1099511627775) (hB : B ≤ w.heap.size) (hr : Rd w B 1 A n (bs.map Bv)) :
    Calls Try.prog 14 #[.int .u64 (secret : Int), .slice A n c] w (SignPost secret bs w) := by
  have hb0 := Blk.new w 28 #[.int .u64 0, .int .u64 0]
  have hf0 : Fr Non w (w.alloc (.cells #[.int .u64 0, .int .u64 0] 28)) := (Fr.refl _ _).alloc _
  have hr0 := hr.alloc (.cells #[.int .u64 0, .int .u64 0] 28)
  have lp := Fd.pow_lt 37 secret
  have lm := Sg.m_lt bs
  have lo := Sg.once_lt secret bs
  have lr := Sg.r_lt secret bs
  have hx1 : Hid (Sg.x secret bs = Sg.e (Sg.r secret bs) (Sg.pub secret) bs * secret % 2305843009213693950) := rfl
  have hs1 : Hid ((Sg.once secret bs + Sg.x secret bs) % 2305843009213693950 = Sg.s secret bs) := rfl
  have lx := Sg.x_lt secret bs
  have ls := Sg.s_lt secret bs
  have hpow : Hid (∀ w, Calls Try.prog 20 #[.int .u64 37, .int .u64 (Sg.once secret bs : Int)] w (PowPost (Sg.r secret bs) w)) := fun w => pow_any 37 (Sg.once secret bs) w (by omega) (by omega)
  have lp' : Sg.pub secret < 2305843009213693951 := lp
  have le := Sg.e_lt (Sg.r secret bs) (Sg.pub secret) bs
  have honce : Hid (Sg.once secret bs = Hs.secret Sg.lNonce [secret, Sg.m bs]) := rfl
  have hpubc := Lib.hid (fun w => pub_any secret w hs)
  obtain ⟨P, hP⟩ := hid_ex (Sg.pub secret)
  obtain ⟨m, hm⟩ := hid_ex (Sg.m bs)
  obtain ⟨o, ho⟩ := hid_ex (Sg.once secret bs)
  obtain ⟨R, hR⟩ := hid_ex (Sg.r secret bs)
  rw [hR.out, hP.out] at hx1 le
  rw [hR.out, ho.out] at hpow
  rw [ho.out] at hs1 lo honce
  rw [hm.out] at honce lm
  rw [hR.out] at lr
  rw [hP.out] at lp' hpubc
  obtain ⟨E, hE⟩ := hid_ex (Sg.e R P bs)
  rw [hE.out] at hx1 le
  have hmulm : Hid (∀ w, Calls Try.prog 25 #[.int .u64 2305843009213693950, .int .u64 (E : Int), .int .u64 (secret : Int)] w (MulPost (Sg.x secret bs) w)) := fun w => by rw [hx1.out]; exact mulm_any E secret w (by omega) hs
  obtain ⟨X, hX⟩ := hid_ex (Sg.x secret bs)
  obtain ⟨S, hS⟩ := hid_ex (Sg.s secret bs)
  rw [hX.out] at hmulm lx hs1
  rw [hS.out] at hs1 ls
  have hadd := Lib.hid (fun w => add_sign_any o X S w (by omega) (by omega) hs1)
  go_enter Try.func14, Try.ntmps14
  go_wp2_with (fail)
  refine (hpubc.out _).mono ?_
  rintro _ w1 ⟨rfl, hf1⟩
  have hs1w := hf1.size
  simp only [World.size_alloc] at hs1w
  go_wp2_with (fail)
  refine (sums_any P 0 B n c A bs w1 (by omega) (by omega) hlen hnc hn (by omega) (hr0.fr hf1 (fun _ _ e => e))).mono ?_
  rw [hm.out]
  generalize Sg.e 0 P bs = E0
  rintro _ w2 ⟨rfl, hf2⟩
  have hs2w := hf2.size
  go_wp2_with (fail)
  have hnew := Blk.new w2 22 #[.int .u64 (secret : Int), .int .u64 (m : Int)]
  have hrd : Rd (w2.alloc (.cells #[.int .u64 (secret : Int), .int .u64 (m : Int)] 22)) (w2.heap.size + 1) 1 (some ⟨w2.heap.size, 0, none⟩) 2 ([secret, m].map Wv) := by
    refine ⟨rfl, .inr ⟨w2.heap.size, 0, rfl, by omega, fun j u hu => ?_⟩⟩
    rw [hnew.cell]
    match j, hu with
    | 0, hu => simpa [Wv] using hu
    | 1, hu => simpa [Wv] using hu
  refine (secret_any Sg.lNonce [secret, m] _ 2 2 _ _ rfl (by decide) (by omega) hrd (by simp; omega)).mono ?_
  rw [← honce.out]
  rintro _ w3 ⟨rfl, hf3⟩
  have hs3w := hf3.size
  simp only [World.size_alloc] at hs3w
  go_wp2_with (fail)
  refine (hpow.out _).mono ?_
  rintro _ w4 ⟨rfl, hf4⟩
  have hs4w := hf4.size
  have hr4 := (((((hr0.fr hf1 (fun _ _ e => e)).fr hf2 (fun _ _ e => e)).alloc (.cells #[.int .u64 (secret : Int), .int .u64 (m : Int)] 22)).fr hf3 (fun _ _ e => e)).fr hf4 (fun _ _ e => e))
  go_wp2_with (fail)
  refine (sums_any P R B n c A bs w4 (by omega) (by omega) hlen hnc hn (by omega) hr4).mono ?_
  rw [hm.out, hE.out]
  rintro _ w5 ⟨rfl, hf5⟩
  go_wp2_with (fail)
  refine (hmulm.out _).mono ?_
  rintro _ w6 ⟨rfl, hf6⟩
  go_wp2_with (fail)
  refine (hadd.out _).mono ?_
  rintro _ _ ⟨rfl, rfl⟩
  have hb6 := (((((((hb0.fr hf1 (fun e => e)).fr hf2 (fun e => e)).alloc (.cells #[.int .u64 (secret : Int), .int .u64 (m : Int)] 22)).fr hf3 (fun e => e)).fr hf4 (fun e => e)).fr hf5 (fun e => e)).fr hf6 (fun e => e))
  have hff := ((((((hf0.trans hf1 (fun _ _ e => e)).trans hf2 (fun _ _ e => e)).alloc (.cells #[.int .u64 (secret : Int), .int .u64 (m : Int)] 22)).trans hf3 (fun _ _ e => e)).trans hf4 (fun _ _ e => e)).trans hf5 (fun _ _ e => e)).trans hf6 (fun _ _ e => e)
  have hc0 := hb6.cell 0
  have hc1 := hb6.cell 1
  have hz0 := hb6.frozen 0
  have hz1 := hb6.frozen 1
  go_wp2
  refine ret_blk rfl rfl ((hb6.set 0 _).set 1 _) rfl Try.underlying28 (by kernel_rfl) rfl ⟨?_, (hff.setNew (Nat.le_refl _) _ _).setNew (Nat.le_refl _) _ _⟩
  rw [hR.out, hS.out]
  rfl
end Go.Proofs.Ytlcomikbmbnddaa
