/-
  Signatures: sums, Pub, Sign, Check.
  Conditions: the numbers are of their kind; the bytes are fewer than 2^40.
-/
import Derived.Test.YtlcomikbmbnddaaSignSpec
import Derived.Test.YtlcomikbmbnddaaHashBytes
import Derived.Test.YtlcomikbmbnddaaDiv64
namespace Go.Proofs.Ytlcomikbmbnddaa
open Go.RowKit Go.Shelf
attribute [local go_sem ↓] Go.wp_at_zero Go.wp_at_succ

theorem pub_any (n : Nat) (w : World) (hn : n < 18446744073709551616) : Calls Try.prog 12 #[.int .u64 (n : Int)] w (PowPost (Sg.pub n) w) := by
  have hp : Hid (∀ w, Calls Try.prog 20 #[.int .u64 37, .int .u64 (n : Int)] w (PowPost (Sg.pub n) w)) := fun w => pow_any 37 n w (by omega) hn
  go_enter Try.func12, Try.ntmps12
  go_wp2_with (fail)
  refine (hp.out _).mono ?_
  rintro _ w1 ⟨rfl, hf1⟩
  go_wp2
  go_ret
  exact ⟨rfl, hf1⟩

def MulPost (v : Nat) (w : World) (r : Ending) (w' : World) : Prop := r = .returned (.int .u64 (v : Int)) ∧ Fr Non w w'

set_option maxRecDepth 100000 in
theorem mulm_any (a b : Nat) (w : World) (ha : a < 18446744073709551616) (hb : b < 18446744073709551616) :
    Calls Try.prog 25 #[.int .u64 2305843009213693950, .int .u64 (a : Int), .int .u64 (b : Int)] w (MulPost (a * b % 2305843009213693950) w) := by
  have hm : Hid ((a * b / 18446744073709551616 % 2305843009213693950 * 18446744073709551616 + a * b % 18446744073709551616) % 2305843009213693950 = a * b % 2305843009213693950) := by show _ = _; omega
  have h0 := mul64_any a b ha hb
  have hhl : a * b / 18446744073709551616 < 18446744073709551616 := by
    have := Nat.mul_lt_mul'' ha hb
    omega
  have hll : a * b % 18446744073709551616 < 18446744073709551616 := Nat.mod_lt _ (by omega)
  obtain ⟨R, hR⟩ := hid_ex (a * b % 2305843009213693950)
  rw [hR.out] at hm ⊢
  generalize a * b / 18446744073709551616 = hi at *
  generalize a * b % 18446744073709551616 = lo at *
  obtain ⟨h, hh⟩ := hid_ex (hi % 2305843009213693950)
  have hhl2 : h < 2305843009213693950 := by rw [← hh.out]; omega
  have hmod : IntKind.u64.wrap ((hi : Int).tmod 2305843009213693950) = (h : Int) := by rw [Int.tmod_eq_emod_of_nonneg (by omega), IntKind.wrap_u64, ← hh.out]; omega
  have hmod2 : (hi : Int) % 2305843009213693950 = (h : Int) := by rw [← hh.out]; omega
  have hmod3 : (hi : Int).tmod 2305843009213693950 = (h : Int) := by rw [Int.tmod_eq_emod_of_nonneg (by omega), ← hh.out]; omega
  rw [hh.out] at hm
  have hd : Hid (∀ w, Calls Try.prog 38 #[.int .u64 (h : Int), .int .u64 (lo : Int), .int .u64 2305843009213693950] w (fun e w' => ∃ n, DivPost R (w.drewN n) e w')) := fun w => by have := div64_any h lo w hhl2 hll; rwa [hm.out] at this
  have h0' := Lib.hid h0
  clear h0 hm hh hR
  go_enter Try.func25, Try.ntmps25
  go_wp2_with (fail)
  refine (h0'.out _).mono ?_
  rintro _ _ ⟨rfl, rfl⟩
  go_wp2_with (fail)
  refine (hd.out _).mono ?_
  rintro _ _ ⟨nn, ⟨q, rfl⟩, rfl⟩
  go_wp2
  go_ret
  exact ⟨rfl, (Fr.refl _ _).drewN _⟩

def SumsPost (m e : Nat) (w : World) (r : Ending) (w' : World) : Prop := r = .returned (.tuple #[.int .u64 (m : Int), .int .u64 (e : Int)]) ∧ Fr Non w w'

theorem sums_any (pub r B n c : Nat) (A : Option Addr) (bs : List UInt8) (w : World) (hp : pub < 18446744073709551616) (hr0 : r < 18446744073709551616) (hlen : Hid (bs.length = n)) (hnc : n ≤ c) (hn : n ≤ 1099511627775) (hB : B ≤ w.heap.size) (hr : Rd w B 1 A n (bs.map Bv)) :
    Calls Try.prog 26 #[.int .u64 (pub : Int), .int .u64 (r : Int), .slice A n c] w (SumsPost (Sg.m bs) (Sg.e r pub bs) w) := by
  have he : Hid (Sg.e r pub bs = Hs.of Sg.lSig [r, pub, Sg.m bs]) := rfl
  have hm := Sg.m_lt bs
  have hby := Lib.hid (ofBytes_any Sg.lSigned B n c A bs w hlen hnc hn (by decide) hB hr)
  have hmm : Hid (Hs.ofBytes Sg.lSigned bs = Sg.m bs) := rfl
  rw [hmm.out] at hby
  obtain ⟨v, hv⟩ := hid_ex (Sg.m bs)
  rw [hv.out] at he hm hby
  rw [he.out, hv.out]
  go_enter Try.func26, Try.ntmps26
  go_wp2_with (fail)
  refine hby.out.mono ?_
  rintro _ w1 ⟨rfl, hf1⟩
  go_wp2_with (fail)
  have hnew := Blk.new w1 22 #[.int .u64 (r : Int), .int .u64 (pub : Int), .int .u64 (v : Int)]
  have hrd : Rd (w1.alloc (.cells #[.int .u64 (r : Int), .int .u64 (pub : Int), .int .u64 (v : Int)] 22)) (w1.heap.size + 1) 1 (some ⟨w1.heap.size, 0, none⟩) 3 ([r, pub, v].map Wv) := by
    refine ⟨rfl, .inr ⟨w1.heap.size, 0, rfl, by omega, fun j u hu => ?_⟩⟩
    rw [hnew.cell]
    match j, hu with
    | 0, hu => simpa [Wv] using hu
    | 1, hu => simpa [Wv] using hu
    | 2, hu => simpa [Wv] using hu
  refine (of_any Sg.lSig [r, pub, v] _ 3 3 _ _ rfl (by decide) (by omega) hrd (by simp; omega)).mono ?_
  rintro _ w2 ⟨rfl, hf2⟩
  go_wp2
  go_ret2
  exact ⟨rfl, (hf1.alloc _).trans hf2 (fun _ _ e => e)⟩
end Go.Proofs.Ytlcomikbmbnddaa
