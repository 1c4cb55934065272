/-
  SignRange: numbers that are none of their range are refused, though they are the same modulo P, or P - 1.
  Condition: none.
-/
import Derived.Test.YtlcomikbmbnddaaSignTakes
namespace Go.Proofs.Ytlcomikbmbnddaa
open Go.RowKit Go.Shelf
attribute [local go_sem ↓] Go.wp_at_zero Go.wp_at_succ

namespace Sg
theorem within_no {n lo hi : Nat} (h : n < lo ∨ hi < n) : within n lo hi = false := by
  unfold within
  simp; omega
theorem check_R {p R S : Nat} {L : List UInt8} (h : R < 1 ∨ 2305843009213693950 < R) : check p L R S = false := by
  have w1 : within R 1 2305843009213693950 = false := within_no (lo := 1) (hi := 2305843009213693950) h
  unfold check
  rw [w1]; simp
theorem check_p {p R S : Nat} {L : List UInt8} (h : p < 1 ∨ 2305843009213693950 < p) : check p L R S = false := by
  have w1 : within p 1 2305843009213693950 = false := within_no (lo := 1) (hi := 2305843009213693950) h
  unfold check
  rw [w1]; simp
theorem check_S {p R S : Nat} {L : List UInt8} (h : 2305843009213693949 < S) : check p L R S = false := by
  have w1 : within S 0 2305843009213693949 = false := within_no (lo := 0) (hi := 2305843009213693949) (.inr h)
  unfold check
  rw [w1]; simp
end Sg

theorem few_named (m : Nat) (A : Option Addr) (c : Nat) (b : List UInt8) (w : World) (hm : m ≤ 100) (hr : Rd w w.heap.size 1 A b.length (b.map Bv)) (hc : b.length ≤ c) (hc' : c ≤ 9223372036854775807) :
    ∃ L : List UInt8, ∃ nL : Nat, Hid (L.length = nL) ∧ nL ≤ m ∧ Hid (Calls Try.prog 10 #[.slice A b.length c, .int .i64 (m : Int)] w fun r w' => ∃ A' c', r = .returned (.slice A' nL c') ∧ Own w' w.heap.size 5 1 A' nL c' (L.map Bv) ∧ Fr Non w w') :=
  ⟨b.take m, (b.take m).length, rfl, List.length_take_le _ _, few_any A c b m w hr hc hc' (by omega)⟩

theorem past (R : Nat) (hR : R < 2305843009213693951) : ∃ a : Nat, 2305843009213693950 < a ∧ a < 18446744073709551616 ∧ IntKind.u64.wrap ((R : Int) + 2305843009213693951) = (a : Int) :=
  ⟨R + 2305843009213693951, by omega, by omega, by rw [IntKind.wrap_u64]; omega⟩
theorem past2 (S : Nat) (hS : S < 2305843009213693951) : ∃ b e : Nat, 2305843009213693949 < e ∧ e < 18446744073709551616 ∧ IntKind.u64.wrap ((S : Int) + 2305843009213693951) = (b : Int) ∧ IntKind.u64.wrap ((b : Int) - 1) = (e : Int) :=
  ⟨S + 2305843009213693951, S + 2305843009213693950, by omega, by omega, by rw [IntKind.wrap_u64]; omega, by rw [IntKind.wrap_u64]; omega⟩

set_option maxHeartbeats 2000000 in
theorem range08_any (n : Nat) (A : Option Addr) (c : Nat) (b : List UInt8) (w : World) (hn : n < 18446744073709551616) (hr : Rd w w.heap.size 1 A b.length (b.map Bv)) (hc : b.length ≤ c) (hc' : c ≤ 9223372036854775807) :
    Calls Try.prog 7 #[.int .u64 (n : Int), .slice A b.length c] w (BoolPost true w) := by
  obtain ⟨L, nL, hnL, hl0, hFew⟩ := few_named 40 A c b w (by omega) hr hc hc'
  have hFew' : Hid (Calls Try.prog 10 #[.slice A b.length c, .int .i64 40] w fun r w' => ∃ A' c', r = .returned (.slice A' nL c') ∧ Own w' w.heap.size 5 1 A' nL c' (L.map Bv) ∧ Fr Non w w') := hFew
  clear hFew
  obtain ⟨x, p, R, S, lx, lp, lR, lS, p0, R0, hx, hp, hR, hS, kp, ks, kc⟩ := sign_named n L nL hnL (by omega)
  obtain ⟨a, la, la', q1⟩ := past R (by omega)
  obtain ⟨b1, e, le, le', q2, q4⟩ := past2 S (by omega)
  obtain ⟨d, ld, ld', q3⟩ := past p (by omega)
  have k1 := check_named p a S L nL false hnL (by omega) (by omega) (by omega) (by omega) (Sg.check_R (.inr la))
  have k2 := check_named p R e L nL false hnL (by omega) (by omega) (by omega) (by omega) (Sg.check_S le)
  have k3 := check_named d R S L nL false hnL (by omega) (by omega) (by omega) (by omega) (Sg.check_p (.inr ld))
  have k4' := check_named 0 R S L nL false hnL (by omega) (by omega) (by omega) (by omega) (Sg.check_p (.inl (by omega)))
  have k5' := check_named p 0 S L nL false hnL (by omega) (by omega) (by omega) (by omega) (Sg.check_R (.inl (by omega)))
  have k4 : Hid (∀ (A : Option Addr) (c B : Nat) (w : World), nL ≤ c → B ≤ w.heap.size → Rd w B 1 A nL (L.map Bv) → Calls Try.prog 18 #[.int .u64 0, .slice A nL c, SigV R S] w (BoolPost false w)) := k4'
  have k5 : Hid (∀ (A : Option Addr) (c B : Nat) (w : World), nL ≤ c → B ≤ w.heap.size → Rd w B 1 A nL (L.map Bv) → Calls Try.prog 18 #[.int .u64 (p : Int), .slice A nL c, .agg #[.int .u64 0, .int .u64 (S : Int)]] w (BoolPost false w)) := k5'
  unfold SigV at k1 k2 k3 k4
  have k0 := Lib.hid (fun w => secret08_any n w hn)
  rw [hx.out] at k0
  clear k4' k5' kc la la' le le' ld ld'
  go_enter Try.func7, Try.ntmps7
  generalize (2305843009213693951 : Int) = Q at *
  go_wp2_with (fail)
  refine hFew'.out.mono ?_
  rintro _ w1 ⟨A1, c1, rfl, hown1, hf1⟩
  have hcap := hown1.cap
  go_wp2_with (fail)
  refine (k0.out _).mono ?_
  rintro _ _ ⟨rfl, rfl⟩
  go_wp2_with (fail)
  refine (kp.out _).mono ?_
  rintro _ wp ⟨rfl, hfp⟩
  have hownp := hown1.fr hfp (fun _ _ e => e)
  go_wp2_with (fail)
  refine (ks.out A1 c1 wp.heap.size wp (by omega) (Nat.le_refl _) hownp.rd).mono ?_
  rintro _ w2 ⟨rfl, hf2⟩
  have hown2 := hownp.fr hf2 (fun _ _ e => e)
  unfold SigV
  go_wp2_with (fail)
  have r4 := ((((hown2.alloc (.cells #[.int .u64 (R : Int), .int .u64 (S : Int)] 28)).alloc (.cells #[.int .u64 (a : Int), .int .u64 (S : Int)] 28)).alloc (.cells #[.int .u64 (R : Int), .int .u64 (e : Int)] 28)).alloc (.cells #[.int .u64 0, .int .u64 (S : Int)] 28)).rd
  have hf4 := (((((hf1.trans hfp (fun _ _ e => e)).trans hf2 (fun _ _ e => e)).alloc (.cells #[.int .u64 (R : Int), .int .u64 (S : Int)] 28)).alloc (.cells #[.int .u64 (a : Int), .int .u64 (S : Int)] 28)).alloc (.cells #[.int .u64 (R : Int), .int .u64 (e : Int)] 28)).alloc (.cells #[.int .u64 0, .int .u64 (S : Int)] 28)
  have B0 := (((Blk.new w2 28 #[.int .u64 (R : Int), .int .u64 (S : Int)]).alloc (.cells #[.int .u64 (a : Int), .int .u64 (S : Int)] 28)).alloc (.cells #[.int .u64 (R : Int), .int .u64 (e : Int)] 28)).alloc (.cells #[.int .u64 0, .int .u64 (S : Int)] 28)
  have B2 := (Blk.new ((w2.alloc (.cells #[.int .u64 (R : Int), .int .u64 (S : Int)] 28)).alloc (.cells #[.int .u64 (a : Int), .int .u64 (S : Int)] 28)) 28 #[.int .u64 (R : Int), .int .u64 (e : Int)]).alloc (.cells #[.int .u64 0, .int .u64 (S : Int)] 28)
  have B3 := Blk.new (((w2.alloc (.cells #[.int .u64 (R : Int), .int .u64 (S : Int)] 28)).alloc (.cells #[.int .u64 (a : Int), .int .u64 (S : Int)] 28)).alloc (.cells #[.int .u64 (R : Int), .int .u64 (e : Int)] 28)) 28 #[.int .u64 0, .int .u64 (S : Int)]
  rw [World.size_alloc, World.size_alloc] at B2
  rw [World.size_alloc, World.size_alloc, World.size_alloc] at B3
  generalize hw4 : (((w2.alloc (.cells #[.int .u64 (R : Int), .int .u64 (S : Int)] 28)).alloc (.cells #[.int .u64 (a : Int), .int .u64 (S : Int)] 28)).alloc (.cells #[.int .u64 (R : Int), .int .u64 (e : Int)] 28)).alloc (.cells #[.int .u64 0, .int .u64 (S : Int)] 28) = w4 at *
  clear hw4
  refine (k1.out A1 c1 w4.heap.size w4 (by omega) (Nat.le_refl _) r4).mono ?_
  rintro _ w5 ⟨rfl, hf5⟩
  have B05 := B0.fr hf5 (fun e => e)
  have B25 := B2.fr hf5 (fun e => e)
  have B35 := B3.fr hf5 (fun e => e)
  have c0 := B25.cell 0
  have c1' := B25.cell 1
  have r5 := r4.fr hf5 (fun _ _ e => e)
  go_wp2_with (fail)
  refine (k2.out A1 c1 w4.heap.size w5 (by omega) hf5.size r5).mono ?_
  rintro _ w6 ⟨rfl, hf6⟩
  have hz6 := Nat.le_trans hf5.size hf6.size
  have B06 := B05.fr hf6 (fun e => e)
  have B36 := B35.fr hf6 (fun e => e)
  have d0 := B06.cell 0
  have d1 := B06.cell 1
  have r6 := r5.fr hf6 (fun _ _ e => e)
  go_wp2_with (fail)
  refine (k3.out A1 c1 w4.heap.size w6 (by omega) hz6 r6).mono ?_
  rintro _ w7 ⟨rfl, hf7⟩
  have hz7 := Nat.le_trans hz6 hf7.size
  have B07 := B06.fr hf7 (fun e => e)
  have B37 := B36.fr hf7 (fun e => e)
  have e0 := B07.cell 0
  have e1 := B07.cell 1
  have r7 := r6.fr hf7 (fun _ _ e => e)
  go_wp2_with (fail)
  refine (k4.out A1 c1 w4.heap.size w7 (by omega) hz7 r7).mono ?_
  rintro _ w8 ⟨rfl, hf8⟩
  have hz8 := Nat.le_trans hz7 hf8.size
  have B38 := B37.fr hf8 (fun e => e)
  have f0 := B38.cell 0
  have f1 := B38.cell 1
  have r8 := r7.fr hf8 (fun _ _ e => e)
  go_wp2_with (fail)
  refine (k5.out A1 c1 w4.heap.size w8 (by omega) hz8 r8).mono ?_
  rintro _ w9 ⟨rfl, hf9⟩
  go_wp2_with (fail)
  refine (lives08_any _).mono ?_
  rintro _ w10 ⟨rfl, hf10⟩
  go_wp2
  go_ret
  refine ⟨?_, (((((hf4.trans hf5 (fun _ _ e => e)).trans hf6 (fun _ _ e => e)).trans hf7 (fun _ _ e => e)).trans hf8 (fun _ _ e => e)).trans hf9 (fun _ _ e => e)).trans hf10 (fun _ _ e => e)⟩
  first | rfl | simp
end Go.Proofs.Ytlcomikbmbnddaa
