/-
  SignTakes: what is signed by a secret is taken for its public key, and signed again it is the same.
  Condition: none.
-/
import Derived.Test.YtlcomikbmbnddaaSignLives
namespace Go.Proofs.Ytlcomikbmbnddaa
open Go.RowKit Go.Shelf
attribute [local go_sem ↓] Go.wp_at_zero Go.wp_at_succ

/-- Pub, Sign, Check of a secret and few bytes, at names. -/
theorem sign_named (n : Nat) (L : List UInt8) (nL : Nat) (hl : Hid (L.length = nL)) (hL : nL ≤ 100) : ∃ x p R S : Nat, x < 2305843009213693950 ∧ p < 2305843009213693951 ∧ R < 2305843009213693951 ∧ S < 2305843009213693950 ∧ 0 < p ∧ 0 < R ∧
    Hid (1 + n % 2305843009213693949 = x) ∧ Hid (Sg.pub x = p) ∧ Hid (Sg.r x L = R) ∧ Hid (Sg.s x L = S) ∧
    Hid (∀ w, Calls Try.prog 12 #[.int .u64 (x : Int)] w (PowPost p w)) ∧
    Hid (∀ (A : Option Addr) (c B : Nat) (w : World), nL ≤ c → B ≤ w.heap.size → Rd w B 1 A nL (L.map Bv) → Calls Try.prog 14 #[.int .u64 (x : Int), .slice A nL c] w fun r w' => r = .returned (SigV R S) ∧ Fr Non w w') ∧
    Hid (Sg.check p L R S = true) := by
  have hx : 1 + n % 2305843009213693949 < 2305843009213693950 := by omega
  refine ⟨1 + n % 2305843009213693949, _, _, _, hx, Fd.pow_lt _ _, Sg.r_lt _ _, Sg.s_lt _ _, Sg.pow37_pos (by omega), Sg.pow37_pos (by have := Sg.once_lt (1 + n % 2305843009213693949) L; omega), rfl, rfl, rfl, rfl, fun w => pub_any _ w (by omega), fun A c B w hc hB hr => ?_, Sg.takes _ L (by omega)⟩
  exact sign_any _ B nL c A L w (by omega) hl hc (by omega) hB hr

theorem check_named (pub R S : Nat) (L : List UInt8) (nL : Nat) (b : Bool) (hl : Hid (L.length = nL)) (hL : nL ≤ 100) (hp : pub < 18446744073709551616) (hR : R < 18446744073709551616) (hS : S < 18446744073709551616) (hb : Hid (Sg.check pub L R S = b)) :
    Hid (∀ (A : Option Addr) (c B : Nat) (w : World), nL ≤ c → B ≤ w.heap.size → Rd w B 1 A nL (L.map Bv) → Calls Try.prog 18 #[.int .u64 (pub : Int), .slice A nL c, SigV R S] w (BoolPost b w)) := by
  intro A c B w hc hB hr
  rw [← hb.out]
  exact check_any pub R S B nL c A L w hp hR hS hl hc (by omega) hB hr

set_option maxHeartbeats 2000000 in
theorem takes_any (n : Nat) (A : Option Addr) (c : Nat) (b : List UInt8) (w : World) (hn : n < 18446744073709551616) (hr : Rd w w.heap.size 1 A b.length (b.map Bv)) (hc : b.length ≤ c) (hc' : c ≤ 9223372036854775807) :
    Calls Try.prog 5 #[.int .u64 (n : Int), .slice A b.length c] w (BoolPost true w) := by
  have hFew := few_any A c b 60 w hr hc hc' (by omega)
  have hl0 : (b.take 60).length ≤ 60 := List.length_take_le _ _
  obtain ⟨L, hL⟩ := hid_ex (b.take 60)
  rw [hL.out] at hFew hl0
  generalize hnL0 : L.length = nL at *
  have hnL := Lib.hid hnL0
  clear hnL0
  obtain ⟨x, p, R, S, lx, lp, lR, lS, p0, R0, hx, hp, hR, hS, kp, ks, kc⟩ := sign_named n L nL hnL (by omega)
  have kck := check_named p R S L nL true hnL (by omega) (by omega) (by omega) (by omega) kc
  have k0 := Lib.hid (fun w => secret08_any n w hn)
  rw [hx.out] at k0
  have hFew' : Hid (Calls Try.prog 10 #[.slice A b.length c, .int .i64 60] w (NewB w L)) := hFew
  clear hFew
  go_enter Try.func5, Try.ntmps5
  go_wp2_with (fail)
  refine hFew'.out.mono ?_
  rintro _ w1 ⟨A1, c1, rfl, hown1, hf1⟩
  rw [hnL.out] at hown1
  rw [hnL.out]
  have hcap := hown1.cap
  go_wp2_with (fail)
  refine (k0.out _).mono ?_
  rintro _ _ ⟨rfl, rfl⟩
  go_wp2_with (fail)
  refine (ks.out A1 c1 w1.heap.size w1 (by omega) (Nat.le_refl _) hown1.rd).mono ?_
  rintro _ w2 ⟨rfl, hf2⟩
  have hown2 := hown1.fr hf2 (fun _ _ e => e)
  unfold SigV
  go_wp2_with (fail)
  have hb3 := Blk.new w2 28 #[.int .u64 (R : Int), .int .u64 (S : Int)]
  have hf3 := (hf1.trans hf2 (fun _ _ e => e)).alloc (.cells #[.int .u64 (R : Int), .int .u64 (S : Int)] 28)
  have r3 := (hown2.alloc (.cells #[.int .u64 (R : Int), .int .u64 (S : Int)] 28)).rd
  generalize hG : w2.heap.size = G at *
  generalize w2.alloc (.cells #[.int .u64 (R : Int), .int .u64 (S : Int)] 28) = w3 at *
  clear hG
  have hb3d : Blk w3.drew G 28 #[.int .u64 (R : Int), .int .u64 (S : Int)] := hb3
  have r3d : Rd w3.drew w3.drew.heap.size 1 A1 nL (L.map Bv) := r3
  have d0 := hb3d.cell 0
  have d1 := hb3d.cell 1
  unfold SigV at kck ks
  go_region_held3 (fun w' => w'.cell? ⟨G, 0, none⟩ = some (.int .u64 (R : Int)) ∧ w'.cell? ⟨G, 1, none⟩ = some (.int .u64 (S : Int))) (go_keep) (first
    | (go_at_call 12; (with_reducible refine (kp.out _).mono ?_); rintro _ w4 ⟨rfl, hf4⟩; have g0 := hf4.cell d0 (fun e => e); have g1 := hf4.cell d1 (fun e => e))
    | (go_at_call 18; (with_reducible refine (kck.out A1 c1 _ _ (by omega) hf4.size (r3d.fr hf4 (fun _ _ e => e))).mono ?_); rintro _ w5 ⟨rfl, hf5⟩; have ga := hf5.cell g0 (fun e => e); have gb := hf5.cell g1 (fun e => e))
    | (go_at_call 14; (with_reducible refine (ks.out A1 c1 _ _ (by omega) (Nat.le_trans hf4.size hf5.size) ((r3d.fr hf4 (fun _ _ e => e)).fr hf5 (fun _ _ e => e))).mono ?_); rintro _ w6 ⟨rfl, hf6⟩; have gc := hf6.cell ga (fun e => e); have gd := hf6.cell gb (fun e => e))
    | (go_at_call 16; (with_reducible refine (lives08_any _).mono ?_); rintro _ w7 ⟨rfl, hf7⟩; have ge := hf7.cell gc (fun e => e); have gf := hf7.cell gd (fun e => e)))
  go_wp2
  go_ret
  refine ⟨?_, (((hf3.drew.trans hf4 (fun _ _ e => e)).trans hf5 (fun _ _ e => e)).trans hf6 (fun _ _ e => e)).trans hf7 (fun _ _ e => e)⟩
  first | rfl | simp
end Go.Proofs.Ytlcomikbmbnddaa
