/-
  SignOne: of one public key, R and bytes one S is taken at most, of such as are G's powers.
  Condition: none.
-/
import Derived.Test.YtlcomikbmbnddaaSignRange
import Derived.Test.YtlcomikbmbnddaaRegionOnly
namespace Go.Proofs.Ytlcomikbmbnddaa
open Go.RowKit Go.Shelf
attribute [local go_sem ↓] Go.wp_at_zero Go.wp_at_succ
attribute [local go_sem] Bool.not_false Bool.not_true beq_self_eq_true

namespace Sg
theorem y37g (P m inv y k : Nat) (hP : 1 + P * m = inv * 36) (h : P * k + y = y * 37) (hy : y < P) : y = 0 := by
  have h1 : P * k = 36 * y := by omega
  have h2 : y + P * (m * y) = P * (inv * k) := by
    have h3 : (1 + P * m) * y = inv * (P * k) := by rw [hP, h1, Nat.mul_assoc]
    rw [Nat.add_mul, Nat.one_mul, Nat.mul_assoc] at h3
    rw [h3, Nat.mul_left_comm]
  have h3 : (y + P * (m * y)) % P = (P * (inv * k)) % P := congrArg (· % P) h2
  rw [Nat.add_mul_mod_self_left, Nat.mul_mod_right, Nat.mod_eq_of_lt hy] at h3
  exact h3
theorem y37p (P m inv y : Nat) (hP : 1 + P * m = inv * 36) (hy : y < P) (h0 : y ≠ 0) : y * 37 % P ≠ y := by
  intro h
  have e := Nat.div_add_mod (y * 37) P
  rw [h] at e
  exact h0 (y37g P m inv y _ hP e hy)
theorem y37 (y : Nat) (hy : y < 2305843009213693951) (h0 : y ≠ 0) : y * 37 % 2305843009213693951 ≠ y := y37p 2305843009213693951 17 1088870309906466588 y (by decide) hy h0
theorem pow_next (S : Nat) : 37 ^ (S + 1) % 2305843009213693951 = 37 ^ S % 2305843009213693951 * 37 % 2305843009213693951 := by
  rw [Nat.pow_succ, Nat.mul_mod (37 ^ S), Nat.mul_mod (37 ^ S % 2305843009213693951), Nat.mod_mod]
theorem next_pow {S : Nat} (hS : S < 2305843009213693950) : Fd.pow 37 ((S + 1) % 2305843009213693950) ≠ Fd.pow 37 S := by
  have hlt : (S + 1) % 2305843009213693950 < 18446744073709551616 := by have := Nat.mod_lt (S + 1) (show 0 < 2305843009213693950 by omega); omega
  rw [Fd.pow_eq _ _ hlt, Fd.pow_eq _ _ (show S < 18446744073709551616 by omega), pow_red, pow_next]
  exact y37 _ (Nat.mod_lt _ (by omega)) (pow_ne S)
theorem check_eq {p R S : Nat} {L : List UInt8} (h : check p L R S = true) : Fd.pow 37 S = Fd.mul R (Fd.pow p (e R p L)) := by
  unfold check at h
  simp only [Bool.and_eq_true, beq_iff_eq] at h
  exact h.2
theorem check_next {p R S : Nat} {L : List UInt8} (hS : S < 2305843009213693950) (h : check p L R S = true) : check p L R ((S + 1) % 2305843009213693950) = false := by
  cases hc : check p L R ((S + 1) % 2305843009213693950) with
  | false => rfl
  | true => exact absurd ((check_eq hc).trans (check_eq h).symm) (next_pow hS)
end Sg

theorem one_named (S o : Nat) (hS : S < 2305843009213693950) : ∃ t u : Nat, t < 2305843009213693950 ∧ u < 2305843009213693950 ∧ Hid ((S + 1) % 2305843009213693950 = t) ∧ Hid (o % 2305843009213693950 = u) ∧
    ((S : Int) + 1) % 2305843009213693950 = (t : Int) ∧ ((S : Int) + 1).tmod 2305843009213693950 = (t : Int) ∧ (o : Int) % 2305843009213693950 = (u : Int) ∧ (o : Int).tmod 2305843009213693950 = (u : Int) := by
  refine ⟨(S + 1) % 2305843009213693950, o % 2305843009213693950, Nat.mod_lt _ (by omega), Nat.mod_lt _ (by omega), rfl, rfl, by omega, ?_, by omega, ?_⟩
  · rw [Int.tmod_eq_emod_of_nonneg (by omega)]; omega
  · rw [Int.tmod_eq_emod_of_nonneg (by omega)]; omega

set_option maxHeartbeats 4000000 in
theorem one08_any (n : Nat) (A : Option Addr) (c : Nat) (b : List UInt8) (o : Nat) (w : World) (hn : n < 18446744073709551616) (hr : Rd w w.heap.size 1 A b.length (b.map Bv)) (hc : b.length ≤ c) (hc' : c ≤ 9223372036854775807) (_ho : o < 18446744073709551616) :
    Calls Try.prog 6 #[.int .u64 (n : Int), .slice A b.length c, .int .u64 (o : Int)] w (BoolPost true w) := by
  obtain ⟨L, nL, hnL, hl0, hFew⟩ := few_named 40 A c b w (by omega) hr hc hc'
  have hFew' : Hid (Calls Try.prog 10 #[.slice A b.length c, .int .i64 40] w fun r w' => ∃ A' c', r = .returned (.slice A' nL c') ∧ Own w' w.heap.size 5 1 A' nL c' (L.map Bv) ∧ Fr Non w w') := hFew
  clear hFew
  obtain ⟨x, p, R, S, lx, lp, lR, lS, p0, R0, hx, hp, hR, hS, kp, ks, kc⟩ := sign_named n L nL hnL (by omega)
  obtain ⟨t, u, lt, lu, ht, hu, q1, q2, q3, q4⟩ := one_named S o lS
  have kt : Hid (Sg.check p L R t = false) := by have h := Sg.check_next lS kc.out; rwa [ht.out] at h
  have k1 := check_named p R t L nL false hnL (by omega) (by omega) (by omega) (by omega) kt
  obtain ⟨bu, hbu⟩ := hid_ex (Sg.check p L R u)
  have k2 := check_named p R u L nL bu hnL (by omega) (by omega) (by omega) (by omega) hbu
  have heq : Hid (bu = true → Fd.pow 37 u = Fd.pow 37 S) := fun h => (Sg.check_eq (hbu.out.trans h)).trans (Sg.check_eq kc.out).symm
  have kpu : Hid (∀ w, Calls Try.prog 20 #[.int .u64 37, .int .u64 (u : Int)] w (PowPost (Fd.pow 37 u) w)) := fun w => pow_any 37 u w (by omega) (by omega)
  have kpS : Hid (∀ w, Calls Try.prog 20 #[.int .u64 37, .int .u64 (S : Int)] w (PowPost (Fd.pow 37 S) w)) := fun w => pow_any 37 S w (by omega) (by omega)
  have k0 := Lib.hid (fun w => secret08_any n w hn)
  rw [hx.out] at k0
  have hM0 : ¬ (2305843009213693950 : Int) = 0 := by omega
  clear ht hu hp hR hS kc kt hbu hx
  unfold SigV at k1 k2
  go_enter Try.func6, Try.ntmps6
  generalize (2305843009213693950 : Int) = M at *
  go_wp2_with (fail)
  refine hFew'.out.mono ?_
  rintro _ w1 ⟨A1, c1, rfl, hown1, hf1⟩
  have hcap := hown1.cap
  go_wp2_with (fail)
  refine (k0.out _).mono ?_
  rintro _ _ ⟨rfl, rfl⟩
  go_wp2_with (fail)
  refine (kp.out _).mono ?_
  rintro _ wp ⟨rfl, hfp⟩
  have hownp := hown1.fr hfp (fun _ _ e => e)
  go_wp2_with (fail)
  refine (ks.out A1 c1 wp.heap.size wp (by omega) (Nat.le_refl _) hownp.rd).mono ?_
  rintro _ w2 ⟨rfl, hf2⟩
  have hown2 := hownp.fr hf2 (fun _ _ e => e)
  unfold SigV
  go_wp2_with (fail)
  have r4 := (((hown2.alloc (.cells #[.int .u64 (R : Int), .int .u64 (S : Int)] 28)).alloc (.cells #[.int .u64 (R : Int), .int .u64 (t : Int)] 28)).alloc (.cells #[.int .u64 (R : Int), .int .u64 (u : Int)] 28)).rd
  have hf4 := ((((hf1.trans hfp (fun _ _ e => e)).trans hf2 (fun _ _ e => e)).alloc (.cells #[.int .u64 (R : Int), .int .u64 (S : Int)] 28)).alloc (.cells #[.int .u64 (R : Int), .int .u64 (t : Int)] 28)).alloc (.cells #[.int .u64 (R : Int), .int .u64 (u : Int)] 28)
  have B0 := ((Blk.new w2 28 #[.int .u64 (R : Int), .int .u64 (S : Int)]).alloc (.cells #[.int .u64 (R : Int), .int .u64 (t : Int)] 28)).alloc (.cells #[.int .u64 (R : Int), .int .u64 (u : Int)] 28)
  have B2 := Blk.new ((w2.alloc (.cells #[.int .u64 (R : Int), .int .u64 (S : Int)] 28)).alloc (.cells #[.int .u64 (R : Int), .int .u64 (t : Int)] 28)) 28 #[.int .u64 (R : Int), .int .u64 (u : Int)]
  rw [World.size_alloc, World.size_alloc] at B2
  generalize hw4 : ((w2.alloc (.cells #[.int .u64 (R : Int), .int .u64 (S : Int)] 28)).alloc (.cells #[.int .u64 (R : Int), .int .u64 (t : Int)] 28)).alloc (.cells #[.int .u64 (R : Int), .int .u64 (u : Int)] 28) = w4 at *
  clear hw4
  refine (k1.out A1 c1 w4.heap.size w4 (by omega) (Nat.le_refl _) r4).mono ?_
  rintro _ w5 ⟨rfl, hf5⟩
  have B05 := B0.fr hf5 (fun e => e)
  have B25 := B2.fr hf5 (fun e => e)
  have r5 := r4.fr hf5 (fun _ _ e => e)
  go_wp2_with (fail)
  generalize hG : w2.heap.size = G at *
  clear hG
  have B05d : Blk w5.drew G 28 #[.int .u64 (R : Int), .int .u64 (S : Int)] := B05
  have B25d : Blk w5.drew (G + 1 + 1) 28 #[.int .u64 (R : Int), .int .u64 (u : Int)] := B25
  have c0 := B25d.cell 0
  have c1' := B25d.cell 1
  have c2 := B05d.cell 1
  have r5d : Rd w5.drew w4.heap.size 1 A1 nL (L.map Bv) := r5
  have hz5 : w4.heap.size ≤ w5.drew.heap.size := hf5.size
  cases bu with
  | false =>
    refine wp_region_any (by kernel_rfl) ?_
    change wpAny _ _ _ _ _ _ _ (World.drew _)
    refine wpAny_take (i := 0) (v := ?_) rfl (by kernel_rfl) (by kernel_rfl) (by kernel_rfl) (fun _ _ _ h => h) (Or.inl ⟨by rfl, by intro w; go_simp; try with_reducible rfl⟩) ?_
    refine wpAny_take (i := 1) (v := ?_) rfl (by kernel_rfl) (by kernel_rfl) (by kernel_rfl) (fun _ _ _ h => h) (Or.inl ⟨by rfl, by intro w; go_simp; try with_reducible rfl⟩) ?_
    refine wpAny_only 2 (by kernel_rfl) rfl (by rfl) (fun K hK => ?_)
    go_simp
    go_wp2_with (fail)
    (first | (refine hK _ _ ?_; clear hK K) | skip)
    refine wpAny_only 3 (by kernel_rfl) rfl (by rfl) (fun K hK => ?_)
    go_simp
    go_wp2_with (go_at_call 18; (with_reducible refine (k2.out A1 c1 _ _ (by omega) hz5 r5d).mono ?_); rintro _ w6 ⟨rfl, hf6⟩)
    (first | (refine hK _ _ ?_; clear hK K) | skip)
    refine wpAny_only 4 (by kernel_rfl) rfl (by rfl) (fun K hK => ?_)
    go_simp
    go_wp2_with (fail)
    (first | (refine hK _ _ ?_; clear hK K) | skip)
    refine wpAny_only 5 (by kernel_rfl) rfl (by rfl) (fun K hK => ?_)
    go_simp
    go_wp2_with (fail)
    (first | (refine hK _ _ ?_; clear hK K) | skip)
    refine wpAny_take (i := 6) (v := undef) rfl (by kernel_rfl) (by kernel_rfl) (by kernel_rfl) (fun _ _ _ h => h) (Or.inr ⟨by rfl, rfl⟩) ?_
    refine wpAny_take (i := 9) (v := undef) rfl (by kernel_rfl) (by kernel_rfl) (by kernel_rfl) (fun _ _ _ h => h) (Or.inr ⟨by rfl, rfl⟩) ?_
    refine wpAny_take (i := 7) (v := undef) rfl (by kernel_rfl) (by kernel_rfl) (by kernel_rfl) (fun _ _ _ h => h) (Or.inr ⟨by rfl, rfl⟩) ?_
    refine wpAny_take (i := 10) (v := undef) rfl (by kernel_rfl) (by kernel_rfl) (by kernel_rfl) (fun _ _ _ h => h) (Or.inr ⟨by rfl, rfl⟩) ?_
    refine wpAny_take (i := 8) (v := undef) rfl (by kernel_rfl) (by kernel_rfl) (by kernel_rfl) (fun _ _ _ h => h) (Or.inr ⟨by rfl, rfl⟩) ?_
    refine wpAny_take (i := 11) (v := undef) rfl (by kernel_rfl) (by kernel_rfl) (by kernel_rfl) (fun _ _ _ h => h) (Or.inr ⟨by rfl, rfl⟩) ?_
    refine wpAny_take (i := 12) (v := undef) rfl (by kernel_rfl) (by kernel_rfl) (by kernel_rfl) (fun _ _ _ h => h) (Or.inr ⟨by rfl, rfl⟩) ?_
    refine wpAny_only 13 (by kernel_rfl) rfl (by rfl) (fun K hK => ?_)
    go_simp
    go_wp2_with (fail)
    (first | (refine hK _ _ ?_; clear hK K) | skip)
    refine wpAny_only 14 (by kernel_rfl) rfl (by rfl) (fun K hK => ?_)
    go_simp
    go_wp2_with (fail)
    (first | (refine hK _ _ ?_; clear hK K) | skip)
    refine wpAny_only 15 (by kernel_rfl) rfl (by rfl) (fun K hK => ?_)
    go_simp
    go_wp2_with (go_at_call 16; (with_reducible refine (lives08_any _).mono ?_); rintro _ w7 ⟨rfl, hf7⟩)
    (first | (refine hK _ _ ?_; clear hK K) | skip)
    refine wpAny_tail 16 _ (by kernel_rfl) (by rfl) (by rfl) (by kernel_rfl) ?_
    go_simp
    repeat (go_big_quiet_step ((fail)))
    refine wpQuiet_nil ?_
    (first | (intro _ hw'; obtain ⟨nq, hw''⟩ := hw'; subst hw'') | intro nq)
    go_wp2
    go_ret
    refine ⟨?_, ((((hf4.trans hf5 (fun _ _ e => e)).drew).trans hf6 (fun _ _ e => e)).trans hf7 (fun _ _ e => e)).drewN _⟩
    first | rfl | simp
  | true =>
    have hee := heq.out rfl
    rw [hee] at kpu
    clear heq hee
    generalize Fd.pow 37 S = y at *
    have hyy : ((y : Int) == (y : Int)) = true := by simp
    go_region_held3 (fun w' => w'.cell? ⟨G + 1 + 1, 0, none⟩ = some (.int .u64 (R : Int)) ∧ w'.cell? ⟨G + 1 + 1, 1, none⟩ = some (.int .u64 (u : Int)) ∧ w'.cell? ⟨G, 1, none⟩ = some (.int .u64 (S : Int))) (go_keep) (first
      | (go_at_call 18; (with_reducible refine (k2.out A1 c1 _ _ (by omega) hz5 r5d).mono ?_); rintro _ w6 ⟨rfl, hf6⟩; have ca := hf6.cell c0 (fun e => e); have cb := hf6.cell c1' (fun e => e); have cd := hf6.cell c2 (fun e => e))
      | (go_at_call 20; (with_reducible refine (kpu.out _).mono ?_); rintro _ w8 ⟨rfl, hf8⟩; have ch := hf8.cell ca (fun e => e); have ci := hf8.cell cb (fun e => e); have cj := hf8.cell cd (fun e => e))
      | (go_at_call 20; (with_reducible refine (kpS.out _).mono ?_); rintro _ w9 ⟨rfl, hf9⟩; have ck := hf9.cell ch (fun e => e); have cl := hf9.cell ci (fun e => e); have cm := hf9.cell cj (fun e => e))
      | (go_at_call 16; (with_reducible refine (lives08_any _).mono ?_); rintro _ w7 ⟨rfl, hf7⟩; have ce := hf7.cell ck (fun e => e); have cf := hf7.cell cl (fun e => e); have cg := hf7.cell cm (fun e => e)))
    go_wp2
    go_ret
    refine ⟨?_, (((((hf4.trans hf5 (fun _ _ e => e)).drew).trans hf6 (fun _ _ e => e)).trans hf8 (fun _ _ e => e)).trans hf9 (fun _ _ e => e)).trans hf7 (fun _ _ e => e)⟩
    first | rfl | simp
end Go.Proofs.Ytlcomikbmbnddaa
