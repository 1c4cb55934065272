/-
  SignPubs: public keys and signatures are the document's.
  Condition: none.
-/
import Derived.Test.YtlcomikbmbnddaaRef08S
import Derived.Test.YtlcomikbmbnddaaSignRange
namespace Go.Proofs.Ytlcomikbmbnddaa
open Go.RowKit Go.Shelf
attribute [local go_sem ↓] Go.wp_at_zero Go.wp_at_succ
attribute [local go_sem] Bool.not_false Bool.not_true beq_self_eq_true

theorem both_named (z : Nat) (L : List UInt8) (nL : Nat) (hz : z < 18446744073709551616) (hl : Hid (L.length = nL)) (hL : nL ≤ 100) : ∃ p R S : Nat,
    Hid (∀ w, Calls Try.prog 12 #[.int .u64 (z : Int)] w (PowPost p w)) ∧ Hid (∀ w, Calls Try.prog 13 #[.int .u64 (z : Int)] w (PowPost p w)) ∧
    Hid (∀ (A : Option Addr) (c B : Nat) (w : World), nL ≤ c → B ≤ w.heap.size → Rd w B 1 A nL (L.map Bv) → Calls Try.prog 14 #[.int .u64 (z : Int), .slice A nL c] w fun r w' => r = .returned (.agg #[.int .u64 (R : Int), .int .u64 (S : Int)]) ∧ Fr Non w w') ∧
    Hid (∀ (A : Option Addr) (c B : Nat) (w : World), nL ≤ c → B ≤ w.heap.size → Rd w B 1 A nL (L.map Bv) → Calls Try.prog 15 #[.int .u64 (z : Int), .slice A nL c] w fun r w' => r = .returned (.agg #[.int .u64 (R : Int), .int .u64 (S : Int)]) ∧ Fr Non w w') :=
  ⟨Sg.pub z, Sg.r z L, Sg.s z L, fun w => pub_any z w hz, fun w => pub08_any z w hz, fun A c B w hc hB hr => sign_any z B nL c A L w hz hl hc (by omega) hB hr, fun A c B w _ hB hr => sign08_any z B nL c A L w hz hl (by omega) hB hr⟩

set_option maxHeartbeats 4000000 in
theorem pubs_any (n : Nat) (A : Option Addr) (c : Nat) (b : List UInt8) (w : World) (hn : n < 18446744073709551616) (hr : Rd w w.heap.size 1 A b.length (b.map Bv)) (hc : b.length ≤ c) (hc' : c ≤ 9223372036854775807) :
    Calls Try.prog 3 #[.int .u64 (n : Int), .slice A b.length c] w (BoolPost true w) := by
  obtain ⟨L, nL, hnL, hl0, hFew⟩ := few_named 40 A c b w (by omega) hr hc hc'
  have hFew' : Hid (Calls Try.prog 10 #[.slice A b.length c, .int .i64 40] w fun r w' => ∃ A' c', r = .returned (.slice A' nL c') ∧ Own w' w.heap.size 5 1 A' nL c' (L.map Bv) ∧ Fr Non w w') := hFew
  clear hFew
  have k0 := Lib.hid (fun w => secret08_any n w hn)
  have lx : 1 + n % 2305843009213693949 < 18446744073709551616 := by omega
  obtain ⟨x, hx⟩ := hid_ex (1 + n % 2305843009213693949)
  rw [hx.out] at k0 lx
  go_enter Try.func3, Try.ntmps3
  go_wp2_with (fail)
  refine hFew'.out.mono ?_
  rintro _ w1 ⟨A1, c1, rfl, hown1, hf1⟩
  have hcap := hown1.cap
  go_wp2_with (fail)
  refine (k0.out _).mono ?_
  rintro _ _ ⟨rfl, rfl⟩
  go_wp2_with (fail)
  have hball := Blk.new w1 22 #[.int .u64 (x : Int), .int .u64 1, .int .u64 2305843009213693949, .int .u64 (1 + (n : Int) % 9)]
  have hfall := hf1.alloc (.cells #[.int .u64 (x : Int), .int .u64 1, .int .u64 2305843009213693949, .int .u64 (1 + (n : Int) % 9)] 22)
  have hrfew := (hown1.alloc (.cells #[.int .u64 (x : Int), .int .u64 1, .int .u64 2305843009213693949, .int .u64 (1 + (n : Int) % 9)] 22)).rd
  generalize hG : w1.heap.size = G at *
  generalize w1.alloc (.cells #[.int .u64 (x : Int), .int .u64 1, .int .u64 2305843009213693949, .int .u64 (1 + (n : Int) % 9)] 22) = wall at *
  clear hG
  go_loopw [7] (fun v wr => ∃ i : Nat, v = .int .i64 (i : Int) ∧ i ≤ 4 ∧ Fr Non wall wr) (fun v _ => 4 - (intOf v).toNat)
  case atStart => exact ⟨0, rfl, by omega, Fr.refl _ _⟩
  case round =>
    obtain ⟨i, rfl, hi, hfx⟩ := hrel
    by_cases hlt : i < 4
    · have hlt' : (i : Int) < 4 := by omega
      obtain ⟨z, lz, hcz⟩ : ∃ z : Nat, z < 18446744073709551616 ∧ wr.cell? ⟨G, i, none⟩ = some (.int .u64 (z : Int)) := by
        rw [(hball.fr hfx (fun e => e)).cell i]
        have : i = 0 ∨ i = 1 ∨ i = 2 ∨ i = 3 := by omega
        rcases this with rfl | rfl | rfl | rfl
        · exact ⟨x, lx, rfl⟩
        · exact ⟨1, by omega, rfl⟩
        · exact ⟨2305843009213693949, by omega, rfl⟩
        · exact ⟨1 + n % 9, by omega, by show some (Value.int IntKind.u64 _) = _; congr 1⟩
      obtain ⟨p, R, S, q1, q2, q3, q4⟩ := both_named z L nL lz hnL (by omega)
      have hpp : ((p : Int) == (p : Int)) = true := by simp
      have hrx := hrfew.fr hfx (fun _ _ e => e)
      have hzx := hfx.size
      have hczd : wr.drew.cell? ⟨G, i, none⟩ = some (.int .u64 (z : Int)) := hcz
      have hrxd : Rd wr.drew wall.heap.size 1 A1 nL (L.map Bv) := hrx
      have hzxd : wall.heap.size ≤ wr.drew.heap.size := hzx
      go_wp2_with (fail)
      go_region_held3 (fun w' => w'.cell? ⟨G, i, none⟩ = some (.int .u64 (z : Int))) (go_keep) (first
        | (go_at_call 12; (with_reducible refine (q1.out _).mono ?_); rintro _ w4 ⟨rfl, hf4⟩; have ka := hf4.cell hczd (fun e => e))
        | (go_at_call 13; (with_reducible refine (q2.out _).mono ?_); rintro _ w5 ⟨rfl, hf5⟩; have kb := hf5.cell ka (fun e => e))
        | (go_at_call 14; (with_reducible refine (q3.out A1 c1 wall.heap.size _ (by omega) (Nat.le_trans hzxd (Nat.le_trans hf4.size hf5.size)) ((hrxd.fr hf4 (fun _ _ e => e)).fr hf5 (fun _ _ e => e))).mono ?_); rintro _ w6 ⟨rfl, hf6⟩; have kc := hf6.cell kb (fun e => e))
        | (go_at_call 15; (with_reducible refine (q4.out A1 c1 wall.heap.size _ (by omega) (Nat.le_trans hzxd (Nat.le_trans hf4.size (Nat.le_trans hf5.size hf6.size))) (((hrxd.fr hf4 (fun _ _ e => e)).fr hf5 (fun _ _ e => e)).fr hf6 (fun _ _ e => e))).mono ?_); rintro _ w7 ⟨rfl, hf7⟩; have kd := hf7.cell kc (fun e => e)))
      have hf8 := (((hfx.drew.trans hf4 (fun _ _ e => e)).trans hf5 (fun _ _ e => e)).trans hf6 (fun _ _ e => e)).trans hf7 (fun _ _ e => e)
      go_wp2
      exact ⟨⟨i + 1, by go_num, by omega, hf8⟩, by simp [intOf]; omega⟩
    · have hi4 : i = 4 := by omega
      go_wp2_with (fail)
      refine (lives08_any _).mono ?_
      rintro _ w9 ⟨rfl, hf9⟩
      go_wp2
      go_ret
      exact ⟨rfl, (hfall.trans hfx (fun _ _ e => e)).trans hf9 (fun _ _ e => e)⟩
end Go.Proofs.Ytlcomikbmbnddaa
