/-
  The reference of layer 8: Check.
  Conditions: the numbers are of their kind; the bytes are fewer than 2^40.
-/
import Derived.Test.YtlcomikbmbnddaaRef08S
import Derived.Test.YtlcomikbmbnddaaSign3
import Derived.Test.YtlcomikbmbnddaaSignLaw
namespace Go.Proofs.Ytlcomikbmbnddaa
open Go.RowKit
attribute [local go_sem ↓] Go.wp_at_zero Go.wp_at_succ

def Sg.In (M pub R S : Int) : Prop := 1 ≤ pub ∧ pub ≤ M ∧ 1 ≤ R ∧ R ≤ M ∧ S < M

theorem Sg.in_ways (M pub R S : Int) (h : ¬ Sg.In M pub R S) : pub < 1 ∨ (1 ≤ pub ∧ M < pub) ∨ (1 ≤ pub ∧ pub ≤ M ∧ R < 1) ∨ (1 ≤ pub ∧ pub ≤ M ∧ 1 ≤ R ∧ M < R) ∨ (1 ≤ pub ∧ pub ≤ M ∧ 1 ≤ R ∧ R ≤ M ∧ M ≤ S) := by
  unfold Sg.In at h
  omega

theorem Sg.check_in (pub R S : Nat) (bs : List UInt8) (h : Sg.In 2305843009213693950 pub R S) : Sg.check pub bs R S = (Fd.pow 37 S == Fd.mul R (Fd.pow pub (Sg.e R pub bs))) := by
  obtain ⟨h1, h2, h3, h4, h5⟩ := h
  have e1 : Sg.within pub 1 2305843009213693950 = true := Sg.within_yes (lo := 1) (hi := 2305843009213693950) (by omega) (by omega)
  have e2 : Sg.within R 1 2305843009213693950 = true := Sg.within_yes (lo := 1) (hi := 2305843009213693950) (by omega) (by omega)
  have e3 : Sg.within S 0 2305843009213693949 = true := Sg.within_yes (lo := 0) (hi := 2305843009213693949) (by omega) (by omega)
  show (Sg.within pub 1 2305843009213693950 && Sg.within R 1 2305843009213693950 && Sg.within S 0 2305843009213693949 && (Fd.pow 37 S == Fd.mul R (Fd.pow pub (Sg.e R pub bs)))) = _
  rw [e1, e2, e3]
  rfl

theorem Sg.check_out (pub R S : Nat) (bs : List UInt8) (h : ¬ Sg.In 2305843009213693950 pub R S) : Sg.check pub bs R S = false := by
  show (Sg.within pub 1 2305843009213693950 && Sg.within R 1 2305843009213693950 && Sg.within S 0 2305843009213693949 && (Fd.pow 37 S == Fd.mul R (Fd.pow pub (Sg.e R pub bs)))) = false
  by_cases e1 : Sg.within pub 1 2305843009213693950 = true
  · by_cases e2 : Sg.within R 1 2305843009213693950 = true
    · by_cases e3 : Sg.within S 0 2305843009213693949 = true
      · exfalso
        apply h
        unfold Sg.within at e1 e2 e3
        simp only [Bool.and_eq_true, decide_eq_true_eq] at e1 e2 e3
        exact ⟨e1.1, e1.2, e2.1, e2.2, Int.lt_of_le_of_lt e3.2 (by decide)⟩
      · simp only [Bool.not_eq_true] at e3; rw [e3]; simp
    · simp only [Bool.not_eq_true] at e2; rw [e2]; simp
  · simp only [Bool.not_eq_true] at e1; rw [e1]; simp

set_option maxRecDepth 100000 in
set_option maxHeartbeats 4000000 in
theorem check08_no (pub R S n c : Nat) (A : Option Addr) (w : World) (hway : ¬ Sg.In 2305843009213693950 pub R S) :
    Calls Try.prog 19 #[.int .u64 (pub : Int), .slice A n c, SigV R S] w (BoolPost false w) := by
  unfold SigV
  have hb0 := Blk.new w 28 #[.int .u64 (R : Int), .int .u64 (S : Int)]
  have hf0 : Fr Non w (w.alloc (.cells #[.int .u64 (R : Int), .int .u64 (S : Int)] 28)) := (Fr.refl _ _).alloc _
  have c0 := hb0.cell 0
  have c1 := hb0.cell 1
  have hord : (∀ w, Calls Try.prog 23 #[] w fun e w' => e = .returned (.int .u64 2305843009213693950) ∧ w' = w) := fun w => (order08_any w).mono fun _ _ h => ⟨h.1, h.2.symm⟩
  have hway := Sg.in_ways _ _ _ _ hway
  rcases hway with t1 | ⟨t1, t2⟩ | ⟨t1, t2, t3⟩ | ⟨t1, t2, t3, t4⟩ | ⟨t1, t2, t3, t4, t5⟩
  all_goals
    go_enter Try.func19, Try.ntmps19
    generalize (2305843009213693950 : Int) = M at *
    have hord' := Lib.hid hord
    clear hord
    go_wp2
    go_quiet (first | (go_at_call 23; exact Calls.quiet_of_same (hord'.out _)))
    go_wp2
    go_ret
    exact ⟨rfl, hf0.drewN _⟩

set_option maxRecDepth 100000 in
set_option maxHeartbeats 4000000 in
theorem check08_yes (pub R S B n c : Nat) (A : Option Addr) (bs : List UInt8) (w : World) (hp : pub < 18446744073709551616) (hR : R < 18446744073709551616) (hS : S < 18446744073709551616) (hlen : Hid (bs.length = n)) (hn : n ≤ 1099511627775) (hB : B ≤ w.heap.size) (hr : Rd w B 1 A n (bs.map Bv)) (hin : Sg.In 2305843009213693950 pub R S) :
    Calls Try.prog 19 #[.int .u64 (pub : Int), .slice A n c, SigV R S] w (BoolPost (Sg.check pub bs R S) w) := by
  unfold SigV
  have hb0 := Blk.new w 28 #[.int .u64 (R : Int), .int .u64 (S : Int)]
  have hf0 : Fr Non w (w.alloc (.cells #[.int .u64 (R : Int), .int .u64 (S : Int)] 28)) := (Fr.refl _ _).alloc _
  have c0 := hb0.cell 0
  have c1 := hb0.cell 1
  have hr0 := hr.alloc (.cells #[.int .u64 (R : Int), .int .u64 (S : Int)] 28)
  have hz0 : B ≤ (w.alloc (.cells #[.int .u64 (R : Int), .int .u64 (S : Int)] 28)).heap.size := by simp; omega
  have hord : (∀ w, Calls Try.prog 23 #[] w fun e w' => e = .returned (.int .u64 2305843009213693950) ∧ w' = w) := fun w => (order08_any w).mono fun _ _ h => ⟨h.1, h.2.symm⟩
  have hck2 := Lib.hid (Sg.check_in pub R S bs hin)
  obtain ⟨t1, t2, t3, t4, t5⟩ := hin
  go_enter Try.func19, Try.ntmps19
  generalize (2305843009213693950 : Int) = M at *
  have hord' := Lib.hid hord
  clear hord
  go_wp2
  go_quiet (first | (go_at_call 23; exact Calls.quiet_of_same (hord'.out _)))
  have le := Sg.e_lt R pub bs
  have hee := Lib.hid (fun B w hB hr => e08_any R pub B n c A bs w hR hp hlen hn hB hr)
  obtain ⟨E, hE⟩ := hid_ex (Sg.e R pub bs)
  rw [hE.out] at le hck2 hee
  have p1 : Hid (∀ w, Calls Try.prog 24 #[.int .u64 37, .int .u64 (S : Int)] w (PowPost (Fd.pow 37 S) w)) := fun w => (pow01_any 37 S w (by omega) hS).mono fun _ _ ⟨h, k, e⟩ => ⟨h, by rw [e]; exact (Fr.refl _ _).drewN _⟩
  have p2 : Hid (∀ w, Calls Try.prog 24 #[.int .u64 (pub : Int), .int .u64 (E : Int)] w (PowPost (Fd.pow pub E) w)) := fun w => (pow01_any pub E w hp (by omega)).mono fun _ _ ⟨h, k, e⟩ => ⟨h, by rw [e]; exact (Fr.refl _ _).drewN _⟩
  have lq := Fd.pow_lt pub E
  obtain ⟨q, hq⟩ := hid_ex (Fd.pow pub E)
  obtain ⟨t, ht⟩ := hid_ex (Fd.pow 37 S)
  rw [hq.out] at p2 lq hck2
  rw [ht.out] at p1 hck2
  have p3 : Hid (∀ w, Calls Try.prog 34 #[.int .u64 (R : Int), .int .u64 (q : Int)] w (PowPost (Fd.mul R q) w)) := fun w => (mul01_any R q w hR (by omega)).mono fun _ _ ⟨h, k, e⟩ => ⟨h, by rw [e]; exact (Fr.refl _ _).drewN _⟩
  obtain ⟨v, hv⟩ := hid_ex (Fd.mul R q)
  rw [hv.out] at p3 hck2
  have hb1 := hb0.drewN nq
  have hr1 := hr0.drewN nq
  have hf1 := hf0.drewN nq
  have hz1 := Nat.le_trans hz0 (Nat.le_of_eq (show (w.alloc (.cells #[.int .u64 (R : Int), .int .u64 (S : Int)] 28)).heap.size = ((w.alloc (.cells #[.int .u64 (R : Int), .int .u64 (S : Int)] 28)).drewN nq).heap.size from rfl))
  generalize (w.alloc (.cells #[.int .u64 (R : Int), .int .u64 (S : Int)] 28)).drewN nq = w1 at *
  have hb1d : Blk w1.drew w.heap.size 28 #[.int .u64 (R : Int), .int .u64 (S : Int)] := hb1
  have d0 := hb1d.cell 0
  have d1 := hb1d.cell 1
  have hr1d : Rd w1.drew B 1 A n (bs.map Bv) := hr1
  have hz1d : B ≤ w1.drew.heap.size := hz1
  clear c0 c1
  go_wp2_with (fail)
  go_region_held3 (fun w' => w'.cell? ⟨w.heap.size, 0, none⟩ = some (.int .u64 (R : Int)) ∧ w'.cell? ⟨w.heap.size, 1, none⟩ = some (.int .u64 (S : Int))) (go_keep) (first
    | (go_at_call 24; (with_reducible refine (p1.out _).mono ?_); rintro _ w2 ⟨rfl, hf2⟩; have g0 := hf2.cell d0 (fun e => e); have g1 := hf2.cell d1 (fun e => e))
    | (go_at_call 32; (with_reducible refine (hee.out B _ (Nat.le_trans hz1d hf2.size) (hr1d.fr hf2 (fun _ _ e => e))).mono ?_); rintro _ w3 ⟨rfl, hf3⟩; have ga := hf3.cell g0 (fun e => e); have gb := hf3.cell g1 (fun e => e))
    | (go_at_call 24; (with_reducible refine (p2.out _).mono ?_); rintro _ w4 ⟨rfl, hf4⟩; have gc := hf4.cell ga (fun e => e); have gd := hf4.cell gb (fun e => e))
    | (go_at_call 34; (with_reducible refine (p3.out _).mono ?_); rintro _ w5 ⟨rfl, hf5⟩; have ge := hf5.cell gc (fun e => e); have gf := hf5.cell gd (fun e => e)))
  go_wp2
  go_ret
  refine ⟨congrArg (fun z => Ending.returned (.bool z)) ?_, (((hf1.drew.trans hf2 (fun _ _ e => e)).trans hf3 (fun _ _ e => e)).trans hf4 (fun _ _ e => e)).trans hf5 (fun _ _ e => e)⟩
  rw [hck2.out, Bool.eq_iff_iff]
  simp only [beq_iff_eq]
  exact Int.ofNat_inj
set_option linter.unusedVariables false in
theorem check08_any (pub R S B n c : Nat) (A : Option Addr) (bs : List UInt8) (w : World) (hp : pub < 18446744073709551616) (hR : R < 18446744073709551616) (hS : S < 18446744073709551616) (hlen : Hid (bs.length = n)) (hnc : n ≤ c) (hn : n ≤ 1099511627775) (hB : B ≤ w.heap.size) (hr : Rd w B 1 A n (bs.map Bv)) :
    Calls Try.prog 19 #[.int .u64 (pub : Int), .slice A n c, SigV R S] w (BoolPost (Sg.check pub bs R S) w) := by
  by_cases h : Sg.In 2305843009213693950 pub R S
  · exact check08_yes pub R S B n c A bs w hp hR hS hlen hn hB hr h
  · rw [Sg.check_out _ _ _ _ h]
    exact check08_no pub R S n c A w h
end Go.Proofs.Ytlcomikbmbnddaa
