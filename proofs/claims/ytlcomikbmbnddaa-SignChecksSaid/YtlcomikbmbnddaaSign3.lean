/-
  Signatures: Check.
  Conditions: the numbers are of their kind; the bytes are fewer than 2^40.
-/
import Derived.Test.YtlcomikbmbnddaaSign2
namespace Go.Proofs.Ytlcomikbmbnddaa
open Go.RowKit Go.Shelf
attribute [local go_sem ↓] Go.wp_at_zero Go.wp_at_succ

theorem within_any (n lo hi : Int) (b : Bool) (w : World) (hb : Hid (Sg.within n lo hi = b)) :
    Calls Try.prog 33 #[.int .u64 n, .int .u64 lo, .int .u64 hi] w fun e w' => e = .returned (.bool b) ∧ w = w' := by
  have hb' := hb.out
  unfold Sg.within at hb'
  by_cases h1 : lo ≤ n
  · by_cases h2 : n ≤ hi
    · have hbb : Hid (true = b) := by rw [← hb']; simp [h1, h2, Hid]
      clear hb' hb
      go_enter Try.func33, Try.ntmps33
      go_wp2
      go_ret
      exact ⟨congrArg (fun z => Ending.returned (.bool z)) (Eq.trans (by first | simp | (simp; omega)) hbb.out), rfl⟩
    · have hbb : Hid (false = b) := by rw [← hb']; simp [h2, Hid]
      clear hb' hb
      go_enter Try.func33, Try.ntmps33
      go_wp2
      go_ret
      exact ⟨congrArg (fun z => Ending.returned (.bool z)) (Eq.trans (by first | simp | (simp; omega)) hbb.out), rfl⟩
  · have hbb : Hid (false = b) := by rw [← hb']; simp [h1, Hid]
    clear hb' hb
    go_enter Try.func33, Try.ntmps33
    go_wp2
    go_ret
    exact ⟨congrArg (fun z => Ending.returned (.bool z)) hbb.out, rfl⟩

def BoolPost (b : Bool) (w : World) (r : Ending) (w' : World) : Prop := r = .returned (.bool b) ∧ Fr Non w w'

set_option maxRecDepth 100000 in
set_option maxHeartbeats 2000000 in
theorem check_any (pub R S B n c : Nat) (A : Option Addr) (bs : List UInt8) (w : World) (hp : pub < 18446744073709551616) (hR : R < 18446744073709551616) (hS : S < 18446744073709551616) (hlen : Hid (bs.length = n)) (hnc : n ≤ c) (hn : n ≤ 1099511627775) (hB : B ≤ w.heap.size) (hr : Rd w B 1 A n (bs.map Bv)) :
    Calls Try.prog 18 #[.int .u64 (pub : Int), .slice A n c, SigV R S] w (BoolPost (Sg.check pub bs R S) w) := by
  unfold SigV
  have hck : Hid (Sg.check pub bs R S = (Sg.within pub 1 2305843009213693950 && Sg.within R 1 2305843009213693950 && Sg.within S 0 2305843009213693949 && (Fd.pow 37 S == Fd.mul R (Fd.pow pub (Sg.e R pub bs))))) := rfl
  have hb0 := Blk.new w 28 #[.int .u64 (R : Int), .int .u64 (S : Int)]
  have hf0 : Fr Non w (w.alloc (.cells #[.int .u64 (R : Int), .int .u64 (S : Int)] 28)) := (Fr.refl _ _).alloc _
  have c0 := hb0.cell 0
  have c1 := hb0.cell 1
  have hr0 := hr.alloc (.cells #[.int .u64 (R : Int), .int .u64 (S : Int)] 28)
  obtain ⟨b1, h1⟩ := hid_ex (Sg.within pub 1 2305843009213693950)
  obtain ⟨b2, h2⟩ := hid_ex (Sg.within R 1 2305843009213693950)
  obtain ⟨b3, h3⟩ := hid_ex (Sg.within S 0 2305843009213693949)
  have k1 := Lib.hid (fun w => within_any pub 1 2305843009213693950 b1 w h1)
  have k2 := Lib.hid (fun w => within_any R 1 2305843009213693950 b2 w h2)
  have k3 := Lib.hid (fun w => within_any S 0 2305843009213693949 b3 w h3)
  rw [h1.out, h2.out, h3.out] at hck
  cases b1 with
  | false =>
    rw [Bool.false_and, Bool.false_and, Bool.false_and] at hck
    rw [hck.out]
    go_enter Try.func18, Try.ntmps18
    go_wp2_with (first | (go_at_call 33; refine (k1.out _).mono ?_; rintro _ _ ⟨rfl, rfl⟩))
    go_ret
    exact ⟨rfl, hf0⟩
  | true =>
    cases b2 with
    | false =>
      rw [Bool.true_and, Bool.false_and, Bool.false_and] at hck
      rw [hck.out]
      go_enter Try.func18, Try.ntmps18
      go_wp2_with (first | (go_at_call 33; (with_reducible refine (k1.out _).mono ?_); rintro _ _ ⟨rfl, rfl⟩) | (go_at_call 33; (with_reducible refine (k2.out _).mono ?_); rintro _ _ ⟨rfl, rfl⟩))
      go_ret
      exact ⟨rfl, hf0⟩
    | true =>
      cases b3 with
      | false =>
        rw [Bool.true_and, Bool.true_and, Bool.false_and] at hck
        rw [hck.out]
        go_enter Try.func18, Try.ntmps18
        go_wp2_with (first | (go_at_call 33; (with_reducible refine (k1.out _).mono ?_); rintro _ _ ⟨rfl, rfl⟩) | (go_at_call 33; (with_reducible refine (k2.out _).mono ?_); rintro _ _ ⟨rfl, rfl⟩) | (go_at_call 33; (with_reducible refine (k3.out _).mono ?_); rintro _ _ ⟨rfl, rfl⟩))
        go_ret
        exact ⟨rfl, hf0⟩
      | true =>
        rw [Bool.true_and, Bool.true_and, Bool.true_and] at hck
        have le := Sg.e_lt R pub bs
        go_enter Try.func18, Try.ntmps18
        go_wp2_with (first | (go_at_call 33; (with_reducible refine (k1.out _).mono ?_); rintro _ _ ⟨rfl, rfl⟩) | (go_at_call 33; (with_reducible refine (k2.out _).mono ?_); rintro _ _ ⟨rfl, rfl⟩) | (go_at_call 33; (with_reducible refine (k3.out _).mono ?_); rintro _ _ ⟨rfl, rfl⟩))
        refine (sums_any pub R B n c A bs _ hp hR hlen hnc hn (by simp; omega) hr0).mono ?_
        rintro _ w1 ⟨rfl, hf1⟩
        have hb1 := hb0.fr hf1 (fun e => e)
        have hff := hf0.trans hf1 (fun _ _ e => e)
        obtain ⟨E, hE⟩ := hid_ex (Sg.e R pub bs)
        rw [hE.out] at le hck
        rw [hE.out]
        generalize Sg.m bs = m0
        have p1 := Lib.hid (fun w => pow_any 37 S w (by omega) hS)
        have p2 := Lib.hid (fun w => pow_any pub E w hp (by omega))
        have lq := Fd.pow_lt pub E
        obtain ⟨q, hq⟩ := hid_ex (Fd.pow pub E)
        obtain ⟨t, ht⟩ := hid_ex (Fd.pow 37 S)
        rw [hq.out] at p2 lq hck
        rw [ht.out] at p1 hck
        have p3 := Lib.hid (fun w => mul_any R q hR (by omega) w)
        obtain ⟨v, hv⟩ := hid_ex (Fd.mul R q)
        rw [hv.out] at p3 hck
        have p1' : Hid (∀ w, Calls Try.prog 20 #[.int .u64 37, .int .u64 (S : Int)] w (PowPost t w)) := p1.out
        have hb1d : Blk w1.drew w.heap.size 28 #[.int .u64 (R : Int), .int .u64 (S : Int)] := hb1
        have d0 := hb1d.cell 0
        have d1 := hb1d.cell 1
        clear c0 c1
        go_wp2_with (fail)
        go_region_held3 (fun w' => w'.cell? ⟨w.heap.size, 0, none⟩ = some (.int .u64 (R : Int)) ∧ w'.cell? ⟨w.heap.size, 1, none⟩ = some (.int .u64 (S : Int))) (go_keep) (first
          | (go_at_call 20; (with_reducible refine (p1'.out _).mono ?_); rintro _ w2 ⟨rfl, hf2⟩; have g0 := hf2.cell d0 (fun e => e); have g1 := hf2.cell d1 (fun e => e))
          | (go_at_call 20; (with_reducible refine (p2.out _).mono ?_); rintro _ w3 ⟨rfl, hf3⟩; have g0' := hf3.cell g0 (fun e => e); have g1' := hf3.cell g1 (fun e => e))
          | (go_at_call 22; (with_reducible refine (p3.out _).mono ?_); rintro _ _ ⟨rfl, rfl⟩))
        go_wp2
        go_ret
        refine ⟨congrArg (fun z => Ending.returned (.bool z)) ?_, (((hff.drew.trans hf2 (fun _ _ e => e)).trans hf3 (fun _ _ e => e)))⟩
        rw [hck.out, Bool.eq_iff_iff]
        simp only [beq_iff_eq]
        exact Int.ofNat_inj
end Go.Proofs.Ytlcomikbmbnddaa
