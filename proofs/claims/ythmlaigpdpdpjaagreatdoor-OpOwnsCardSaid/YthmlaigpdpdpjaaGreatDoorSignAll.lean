/-
  bits.LeadingZeros64 of P - 1: three.
  bits.Div64 by P - 1: the remainder.
    Conditions: the upper half is below P - 1.
  Signatures, as numbers. Plain Lean.
  Signatures: sums, Pub, Sign, Check.
    Conditions: the numbers are of their kind; the bytes are fewer than 2^40.
  Signatures: Sign, Check, what lives.
    Conditions: the numbers are of their kind; the bytes are fewer than 2^40.
  Signatures: Check.
    Conditions: the numbers are of their kind; the bytes are fewer than 2^40.
  What is signed is taken; one S more is not; numbers out of their range are refused. Plain Lean.
  The reference of layer 8: times, Pub, m, e.
    Conditions: the numbers are of their kind; the bytes are fewer than 2^40.
  The reference of layer 8: Pub, m, e, Sign.
    Conditions: the numbers are of their kind; the bytes are fewer than 2^40.
-/
import Derived.Test.YthmlaigpdpdpjaaGreatDoorCommon
import Derived.Test.YthmlaigpdpdpjaaGreatDoorHashAll
namespace Go.Proofs.YthmlaigpdpdpjaaGreatDoor
open Go.RowKit

set_option maxRecDepth 100000 in
theorem len64_order (w : World) : Calls Tryz.prog 172 #[.int .u64 2305843009213693950] w fun e w' => e = .returned (.int .i64 61) ∧ w = w' := by
  go_enter Tryz.func172, Tryz.ntmps172
  go_wp2
  go_ret
  refine ⟨congrArg (fun z => Ending.returned (.int .i64 z)) ?_, rfl⟩

  decide +kernel
theorem lz64_order (w : World) : Calls Tryz.prog 169 #[.int .u64 2305843009213693950] w fun e w' => e = .returned (.int .i64 3) ∧ w = w' := by
  go_enter Tryz.func169, Tryz.ntmps169
  go_wp2_with (fail)
  refine (len64_order _).mono ?_
  rintro _ _ ⟨rfl, rfl⟩
  go_wp2
  go_ret
  exact ⟨rfl, rfl⟩

end Go.Proofs.YthmlaigpdpdpjaaGreatDoor

namespace Go.Proofs.YthmlaigpdpdpjaaGreatDoor
open Go.RowKit
attribute [local go_sem ↓] Go.wp_at_zero Go.wp_at_succ

def DivPost (r : Nat) (w : World) (e : Ending) (w' : World) : Prop := (∃ q, e = .returned (.tuple #[.int .u64 q, .int .u64 (r : Int)])) ∧ w = w'

namespace Dv
theorem and_y : bits .and .u64 18446744073709551600 4294967295 = 4294967280 := by decide +kernel
theorem or_u {hi lo u : Nat} (hu : Hid (hi * 8 + lo / 2305843009213693952 = u)) (hhi8 : hi * 8 < 18446744073709551600) (hlo : lo < 18446744073709551616) : bits .or .u64 ((hi : Int) * 8) ((lo : Int) / 2305843009213693952) = (u : Int) := by
  have e1 : (hi : Int) * 8 = ((hi * 8 : Nat) : Int) := by omega
  have e2 : (lo : Int) / 2305843009213693952 = ((lo / 2305843009213693952 : Nat) : Int) := by omega
  have h := nat_join 3 (hi * 8) (lo / 2305843009213693952) (by omega) (by omega)
  rw [e1, e2, u64_or_nat _ _ (by omega) (by omega), h, hu.out]
theorem wrap_t {lo t : Nat} (ht : Hid (lo * 8 % 18446744073709551616 = t)) : IntKind.u64.wrap ((lo : Int) * 8) = (t : Int) := by rw [← ht.out, IntKind.wrap_u64]; omega
/-- A digit that is still too great, or right. -/
def Top (u t q s : Nat) : Prop := q * 4294967295 + s = u ∧ s < 4294967296 ∧ (u * 4294967296 + t) / 18446744073709551600 ≤ q
theorem top0 {u t : Nat} (hu : u < 18446744073709551600) (ht : t < 4294967296) : Top u t (u / 4294967295) (u - u / 4294967295 * 4294967295) := by unfold Top; omega
set_option maxRecDepth 100000 in
theorem big {u t q s : Nat} (h : Top u t q s) (hu : u < 18446744073709551600) (ht : t < 4294967296) (hq : 4294967296 ≤ q) : (u * 4294967296 + t) / 18446744073709551600 ≤ q - 1 ∧ 0 < q := by unfold Top at h; omega
theorem over1 {u t q s : Nat} (h1 : q * 4294967295 + s = u) (hq : 4294967296 * s + t < q * 4294967280) : u * 4294967296 + t < q * 18446744073709551600 := by omega
theorem over2 {U q : Nat} (h : U < q * 18446744073709551600) : U / 18446744073709551600 ≤ q - 1 ∧ 0 < q := by
  have h1 : U / 18446744073709551600 < q := Nat.div_lt_of_lt_mul (by rw [Nat.mul_comm]; exact h)
  omega
theorem over {u t q s : Nat} (h : Top u t q s) (hq : 4294967296 * s + t < q * 4294967280) : (u * 4294967296 + t) / 18446744073709551600 ≤ q - 1 ∧ 0 < q := over2 (over1 h.1 hq)
theorem step (k d u : Nat) (h : (d + 1) * k + 0 = u) : d * k + k = u := by rw [← h, Nat.succ_mul, Nat.add_zero]
theorem next {u t q : Nat} (h : Top u t q 0) (h1 : (u * 4294967296 + t) / 18446744073709551600 ≤ q - 1) (h0 : 0 < q) : Top u t (q - 1) 4294967295 := by
  obtain ⟨d, rfl⟩ : ∃ d, q = d + 1 := ⟨q - 1, (Nat.succ_pred_eq_of_pos h0).symm⟩
  obtain ⟨h2, _, _⟩ := h
  rw [Nat.add_sub_cancel] at h1 ⊢
  exact And.intro (step _ _ _ h2) (And.intro (by decide) h1)
theorem out1 {u t q s : Nat} (h : Top u t q s) (ht : q * 4294967280 ≤ 4294967296 * s + t) : (u * 4294967296 + t) / 18446744073709551600 = q := by unfold Top at h; omega
theorem out2 {u t q s : Nat} (h : Top u t q s) (_hu : u < 18446744073709551600) (h1 : (u * 4294967296 + t) / 18446744073709551600 ≤ q - 1) (h0 : 0 < q) (hs : 0 < s) : (u * 4294967296 + t) / 18446744073709551600 = q - 1 := by unfold Top at h; omega
theorem top_q {u t q s : Nat} (h : Top u t q s) (hu : u < 18446744073709551600) : q ≤ 4294967297 := by unfold Top at h; omega
/-- What is left behind a digit. -/
theorem left {W V : Int} (hW : Hid (4294967296 = W)) (hV : Hid (18446744073709551600 = V)) {u t q z : Nat} (hq : (u * 4294967296 + t) / 18446744073709551600 = q) (hz : Hid (u * 4294967296 + t - q * 18446744073709551600 = z)) :
    IntKind.u64.wrap (IntKind.u64.wrap (IntKind.u64.wrap ((u : Int) * W) + (t : Int)) - IntKind.u64.wrap ((q : Int) * V)) = (z : Int) ∧ z < 18446744073709551600 := by
  rw [← hz.out, ← hW.out, ← hV.out]
  simp only [IntKind.wrap_u64]
  omega
theorem test {W W0 : Int} (hW : Hid (4294967296 = W)) (hW0 : Hid (4294967280 = W0)) {q s t1 : Nat} (hq : q < 4294967296) (hs : s < 4294967296) (ht : t1 < 4294967296) :
    ∃ A B C : Nat, (q : Int) < W ∧ IntKind.u64.wrap (W * (s : Int)) = (A : Int) ∧ IntKind.u64.wrap ((A : Int) + (t1 : Int)) = (B : Int) ∧ IntKind.u64.wrap ((q : Int) * W0) = (C : Int) ∧ (B < C ↔ 4294967296 * s + t1 < q * 4294967280) ∧ Hid (B = 4294967296 * s + t1) := by
  refine ⟨4294967296 * s, 4294967296 * s + t1, q * 4294967280, ?_, ?_, ?_, ?_, Iff.rfl, rfl⟩
  · rw [← hW.out]; omega
  · rw [← hW.out, IntKind.wrap_u64]; omega
  · rw [IntKind.wrap_u64]; omega
  · rw [← hW0.out, IntKind.wrap_u64]; omega
theorem inc {W W1 : Int} (hW : Hid (4294967296 = W)) (hW1 : Hid (4294967295 = W1)) {s : Nat} (hs0 : 0 < s) (hs : s < 4294967296) : ∃ S : Nat, IntKind.u64.wrap ((s : Int) + W1) = (S : Int) ∧ W ≤ (S : Int) := by
  refine ⟨s + 4294967295, ?_, ?_⟩
  · rw [← hW1.out, IntKind.wrap_u64]; omega
  · rw [← hW.out]; omega
theorem inc0 {W W1 : Int} (hW : Hid (4294967296 = W)) (hW1 : Hid (4294967295 = W1)) : IntKind.u64.wrap W1 = W1 ∧ W1 < W ∧ ¬ W1 = 0 := by
  rw [← hW.out, ← hW1.out, IntKind.wrap_u64]; omega
theorem quo {W1 : Int} (hW1 : Hid (4294967295 = W1)) {u q1 : Nat} (hu : u < 18446744073709551616) (hq1 : Hid (u / 4294967295 = q1)) : IntKind.u64.wrap ((u : Int).tdiv W1) = (q1 : Int) := by
  rw [← hW1.out, Int.tdiv_eq_ediv_of_nonneg (by omega), IntKind.wrap_u64, ← hq1.out]; omega
theorem rest {W1 : Int} (hW1 : Hid (4294967295 = W1)) {u q1 r1 : Nat} (_hu : u < 18446744073709551616) (hq1 : Hid (u / 4294967295 = q1)) (hr1 : Hid (u - u / 4294967295 * 4294967295 = r1)) : IntKind.u64.wrap ((u : Int) - IntKind.u64.wrap ((q1 : Int) * W1)) = (r1 : Int) := by
  rw [← hW1.out, IntKind.wrap_u64, IntKind.wrap_u64, ← hq1.out, ← hr1.out]; omega
theorem fin {hi lo u t t1 u0 q z q0 R : Nat} (hu : Hid (hi * 8 + lo / 2305843009213693952 = u)) (ht : Hid (lo * 8 % 18446744073709551616 = t)) (ht1 : Hid (t / 4294967296 = t1)) (hu0 : Hid (t % 4294967296 = u0)) (hq : Hid ((u * 4294967296 + t1) / 18446744073709551600 = q)) (hz : Hid (u * 4294967296 + t1 - q * 18446744073709551600 = z))
    (hq0 : (z * 4294967296 + u0) / 18446744073709551600 = q0) (hR : Hid (z * 4294967296 + u0 - q0 * 18446744073709551600 = R)) : R / 8 = (hi * 18446744073709551616 + lo) % 2305843009213693950 := by
  have e1 : 8 * (hi * 18446744073709551616 + lo) = u * 18446744073709551616 + t := by rw [← hu.out, ← ht.out]; omega
  have e4 : t = t1 * 4294967296 + u0 := by rw [← ht1.out, ← hu0.out]; omega
  have e2 : u * 4294967296 + t1 = q * 18446744073709551600 + z := by rw [← hz.out, ← hq.out]; omega
  have e3 : z * 4294967296 + u0 = q0 * 18446744073709551600 + R ∧ R < 18446744073709551600 := by rw [← hR.out]; omega
  clear hu ht hq hz hq0 hR ht1 hu0
  omega
theorem quoD {W1 : Int} (hW1 : Hid (4294967295 = W1)) {u q1 : Nat} (hu : u < 18446744073709551616) (hq1 : Hid (u / 4294967295 = q1)) : IntKind.u64.wrap ((u : Int) / W1) = (q1 : Int) := by
  rw [← hW1.out, IntKind.wrap_u64, ← hq1.out]; omega
end Dv

set_option maxRecDepth 100000 in
set_option maxHeartbeats 4000000 in
theorem div64_any (hi lo : Nat) (w : World) (hhi : hi < 2305843009213693950) (hlo : lo < 18446744073709551616) :
    Calls Tryz.prog 153 #[.int .u64 (hi : Int), .int .u64 (lo : Int), .int .u64 2305843009213693950] w (fun e w' => ∃ n, DivPost ((hi * 18446744073709551616 + lo) % 2305843009213693950) (w.drewN n) e w') := by
  by_cases h0 : hi = 0
  · have hz : ((hi : Int) == 0) = true := by simp [h0]
    have hM : (2305843009213693950 : Int) ≤ hi ↔ False := by simp; omega
    have hr : Hid ((hi * 18446744073709551616 + lo) % 2305843009213693950 = lo % 2305843009213693950) := by show _ = _; rw [h0]; simp
    clear h0
    rw [hr.out]
    go_enter Tryz.func153, Tryz.ntmps153
    go_wp2
    go_quiet (fail)
    go_wp2
    go_ret2
    exact ⟨nq, ⟨_, rfl⟩, rfl⟩
  · have hz : ((hi : Int) == 0) = false := by simp; omega
    have hM : (2305843009213693950 : Int) ≤ hi ↔ False := by simp; omega
    have hb1 := Dv.and_y
    obtain ⟨u, hu⟩ := hid_ex (hi * 8 + lo / 2305843009213693952)
    obtain ⟨t, ht⟩ := hid_ex (lo * 8 % 18446744073709551616)
    have hul : u < 18446744073709551600 := by rw [← hu.out]; omega
    have htl : t < 18446744073709551616 := by rw [← ht.out]; omega
    have hb2 := Dv.or_u hu (by omega) hlo
    have hwt := Dv.wrap_t ht
    obtain ⟨u0, hu0⟩ := hid_ex (t % 4294967296)
    have hb3 := M64.maskN t htl
    rw [hu0.out] at hb3
    obtain ⟨t1, ht1⟩ := hid_ex (t / 4294967296)
    have ht1l : t1 < 4294967296 := by rw [← ht1.out]; omega
    have hwt1 : (t : Int) / 4294967296 = (t1 : Int) := by rw [← ht1.out]; omega
    go_enter Tryz.func153, Tryz.ntmps153
    go_wp2_with (fail)
    refine (lz64_order _).mono ?_
    rintro _ _ ⟨rfl, rfl⟩
    go_wp2_with (fail)
    -- LOOPS
    clear hb1 hM hb3 hwt1
    generalize eW : (4294967296 : Int) = W at *
    have hW := Lib.hid eW
    clear eW
    generalize eW1 : (4294967295 : Int) = W1 at *
    have hW1 := Lib.hid eW1
    clear eW1
    generalize eW0 : (4294967280 : Int) = W0 at *
    have hW0 := Lib.hid eW0
    clear eW0
    generalize eV : (18446744073709551600 : Int) = V at *
    have hV := Lib.hid eV
    clear eV
    have hi0 := Dv.inc0 hW hW1
    have hi01 := hi0.1
    have hi02 := hi0.2.1
    have hi03 := hi0.2.2
    clear hi0
    go_loopw [15, 16] (fun v r wr => ∃ q s : Nat, v = .int .u64 (q : Int) ∧ r = .int .u64 (s : Int) ∧ Dv.Top u t1 q s ∧ wr = w) (fun v _ _ => (intOf v).toNat)
    case atStart => exact ⟨_, _, by rw [← hW1.out]; go_num, by rw [← hW1.out]; go_num, Dv.top0 hul ht1l, rfl⟩
    case round =>
      obtain ⟨q, s, rfl, rfl, htop, rfl⟩ := hrel
      have hql1 := Dv.top_q htop hul
      have hsl1 := htop.2.1
      rcases Nat.lt_or_ge q 4294967296 with hc1 | hc1
      · obtain ⟨A, B, C, hqW, hwA, hwB, hwC, hBC, hBe⟩ := Dv.test hW hW0 hc1 hsl1 ht1l
        by_cases hlt : B < C
        · have hlow1 := Dv.over htop (hBC.1 hlt)
          obtain ⟨d, rfl⟩ : ∃ d', q = d' + 1 := ⟨q - 1, by omega⟩
          clear hBC
          rw [show ((d + 1 : Nat) : Int) = (d : Int) + 1 from rfl] at hwC hqW
          by_cases hs : s = 0
          · subst hs
            have hB0 : t1 < C := by have h := hBe.out; omega
            have hnx1 := Lib.hid (Dv.next htop hlow1.1 hlow1.2)
            clear hlow1 htop
            go_wp2
            first
              | exact ⟨⟨d, 4294967295, by go_num, by rw [← hW1.out]; rfl, hnx1.out, by first | rfl | trivial⟩, by simp [intOf]⟩
              | (refine ⟨?_, by simp [intOf]⟩
                 repeat apply Exists.intro
                 apply (fun h2 h1 => And.intro h1 h2) rfl
                 exact ⟨d, 4294967295, by go_num, by rw [← hW1.out]; rfl, hnx1.out, by first | rfl | trivial⟩)
          · obtain ⟨S, hwS, hSW⟩ := Dv.inc hW hW1 (by omega) hsl1
            have hd := Dv.out2 htop hul hlow1.1 hlow1.2 (by omega)
            rw [Nat.add_sub_cancel] at hd
            clear hlow1 htop
            obtain ⟨z, hz'⟩ := hid_ex (u * 4294967296 + t1 - d * 18446744073709551600)
            have hlf := Dv.left hW hV hd hz'
            have hdh := Lib.hid hd
            clear hd
            have hwz := hlf.1
            have hzl := hlf.2
            have hu0l : u0 < 4294967296 := by rw [← hu0.out]; omega
            obtain ⟨q0, hq0⟩ := hid_ex (z / 4294967295)
            obtain ⟨r0, hr0⟩ := hid_ex (z - z / 4294967295 * 4294967295)
            have hwq0 := Dv.quoD hW1 (by omega) hq0
            have hwr0 := Dv.rest hW1 (by omega) hq0 hr0
            have htop0 := Dv.top0 hzl hu0l
            rw [hr0.out, hq0.out] at htop0
            go_wp2_with (fail)
            go_loopw [18, 16] (fun v r wy => ∃ q s : Nat, v = .int .u64 (q : Int) ∧ r = .int .u64 (s : Int) ∧ Dv.Top z u0 q s ∧ wy = wr) (fun v _ _ => (intOf v).toNat)
            case atStart => exact ⟨_, _, rfl, rfl, htop0, rfl⟩
            case round =>
              obtain ⟨q2, s2, rfl, rfl, htop2, rfl⟩ := hrel
              have hql2 := Dv.top_q htop2 hzl
              have hsl2 := htop2.2.1
              rcases Nat.lt_or_ge q2 4294967296 with hc2 | hc2
              · obtain ⟨A, B, C, hqW, hwA, hwB, hwC, hBC, hBe⟩ := Dv.test hW hW0 hc2 hsl2 hu0l
                by_cases hlt : B < C
                · have hlow2 := Dv.over htop2 (hBC.1 hlt)
                  obtain ⟨e0, rfl⟩ : ∃ d', q2 = d' + 1 := ⟨q2 - 1, by omega⟩
                  clear hBC
                  rw [show ((e0 + 1 : Nat) : Int) = (e0 : Int) + 1 from rfl] at hwC hqW
                  by_cases hs2 : s2 = 0
                  · subst hs2
                    have hB0 : u0 < C := by have h := hBe.out; omega
                    have hnx2 := Lib.hid (Dv.next htop2 hlow2.1 hlow2.2)
                    clear hlow2 htop2
                    go_wp2
                    first
                      | exact ⟨⟨e0, 4294967295, by go_num, by rw [← hW1.out]; rfl, hnx2.out, by first | rfl | trivial⟩, by simp [intOf]⟩
                      | (refine ⟨?_, by simp [intOf]⟩
                         repeat apply Exists.intro
                         apply (fun h2 h1 => And.intro h1 h2) rfl
                         exact ⟨e0, 4294967295, by go_num, by rw [← hW1.out]; rfl, hnx2.out, by first | rfl | trivial⟩)
                  · obtain ⟨S, hwS, hSW⟩ := Dv.inc hW hW1 (by omega) hsl2
                    have hd0 := Dv.out2 htop2 hzl hlow2.1 hlow2.2 (by omega)
                    rw [Nat.add_sub_cancel] at hd0
                    clear hlow2 htop2
                    obtain ⟨R, hR⟩ := hid_ex (z * 4294967296 + u0 - e0 * 18446744073709551600)
                    have hlf0 := Dv.left hW hV hd0 hR
                    have hwR := hlf0.1
                    have hfin := Dv.fin hu ht ht1 hu0 hdh hz' hd0 hR
                    have hfin' := Lib.hid hfin
                    clear hfin hlf0 hlf hd0
                    go_wp2
                    go_ret2
                    refine ⟨0, ⟨_, congrArg (fun z => Ending.returned (.tuple #[_, .int .u64 z])) ?_⟩, rfl⟩
                    rw [← hfin'.out]
                    omega
                · have hd0 := Dv.out1 htop2 (by omega)
                  clear htop2 hBC
                  obtain ⟨R, hR⟩ := hid_ex (z * 4294967296 + u0 - q2 * 18446744073709551600)
                  have hlf0 := Dv.left hW hV hd0 hR
                  have hwR := hlf0.1
                  have hfin := Dv.fin hu ht ht1 hu0 hdh hz' hd0 hR
                  have hfin' := Lib.hid hfin
                  clear hfin hlf0 hlf hd0
                  go_wp2
                  go_ret2
                  refine ⟨0, ⟨_, congrArg (fun z => Ending.returned (.tuple #[_, .int .u64 z])) ?_⟩, rfl⟩
                  rw [← hfin'.out]
                  omega
              · have hqW : W ≤ (q2 : Int) := by rw [← hW.out]; omega
                have hlow2 := Dv.big htop2 hzl hu0l hc2
                obtain ⟨e0, rfl⟩ : ∃ d', q2 = d' + 1 := ⟨q2 - 1, by omega⟩
                rw [show ((e0 + 1 : Nat) : Int) = (e0 : Int) + 1 from rfl] at hqW
                by_cases hs2 : s2 = 0
                · subst hs2
                  have hnx2 := Lib.hid (Dv.next htop2 hlow2.1 hlow2.2)
                  clear hlow2 htop2
                  go_wp2
                  first
                    | exact ⟨⟨e0, 4294967295, by go_num, by rw [← hW1.out]; rfl, hnx2.out, by first | rfl | trivial⟩, by simp [intOf]⟩
                    | (refine ⟨?_, by simp [intOf]⟩
                       repeat apply Exists.intro
                       apply (fun h2 h1 => And.intro h1 h2) rfl
                       exact ⟨e0, 4294967295, by go_num, by rw [← hW1.out]; rfl, hnx2.out, by first | rfl | trivial⟩)
                · obtain ⟨S, hwS, hSW⟩ := Dv.inc hW hW1 (by omega) hsl2
                  have hd0 := Dv.out2 htop2 hzl hlow2.1 hlow2.2 (by omega)
                  rw [Nat.add_sub_cancel] at hd0
                  clear hlow2 htop2
                  obtain ⟨R, hR⟩ := hid_ex (z * 4294967296 + u0 - e0 * 18446744073709551600)
                  have hlf0 := Dv.left hW hV hd0 hR
                  have hwR := hlf0.1
                  have hfin := Dv.fin hu ht ht1 hu0 hdh hz' hd0 hR
                  have hfin' := Lib.hid hfin
                  clear hfin hlf0 hlf hd0
                  go_wp2
                  go_ret2
                  refine ⟨0, ⟨_, congrArg (fun z => Ending.returned (.tuple #[_, .int .u64 z])) ?_⟩, rfl⟩
                  rw [← hfin'.out]
                  omega
        · have hd := Dv.out1 htop (by omega)
          clear htop hBC
          obtain ⟨z, hz'⟩ := hid_ex (u * 4294967296 + t1 - q * 18446744073709551600)
          have hlf := Dv.left hW hV hd hz'
          have hdh := Lib.hid hd
          clear hd
          have hwz := hlf.1
          have hzl := hlf.2
          have hu0l : u0 < 4294967296 := by rw [← hu0.out]; omega
          obtain ⟨q0, hq0⟩ := hid_ex (z / 4294967295)
          obtain ⟨r0, hr0⟩ := hid_ex (z - z / 4294967295 * 4294967295)
          have hwq0 := Dv.quoD hW1 (by omega) hq0
          have hwr0 := Dv.rest hW1 (by omega) hq0 hr0
          have htop0 := Dv.top0 hzl hu0l
          rw [hr0.out, hq0.out] at htop0
          go_wp2_with (fail)
          go_loopw [18, 16] (fun v r wy => ∃ q s : Nat, v = .int .u64 (q : Int) ∧ r = .int .u64 (s : Int) ∧ Dv.Top z u0 q s ∧ wy = wr) (fun v _ _ => (intOf v).toNat)
          case atStart => exact ⟨_, _, rfl, rfl, htop0, rfl⟩
          case round =>
            obtain ⟨q2, s2, rfl, rfl, htop2, rfl⟩ := hrel
            have hql2 := Dv.top_q htop2 hzl
            have hsl2 := htop2.2.1
            rcases Nat.lt_or_ge q2 4294967296 with hc2 | hc2
            · obtain ⟨A, B, C, hqW, hwA, hwB, hwC, hBC, hBe⟩ := Dv.test hW hW0 hc2 hsl2 hu0l
              by_cases hlt : B < C
              · have hlow2 := Dv.over htop2 (hBC.1 hlt)
                obtain ⟨e0, rfl⟩ : ∃ d', q2 = d' + 1 := ⟨q2 - 1, by omega⟩
                clear hBC
                rw [show ((e0 + 1 : Nat) : Int) = (e0 : Int) + 1 from rfl] at hwC hqW
                by_cases hs2 : s2 = 0
                · subst hs2
                  have hB0 : u0 < C := by have h := hBe.out; omega
                  have hnx2 := Lib.hid (Dv.next htop2 hlow2.1 hlow2.2)
                  clear hlow2 htop2
                  go_wp2
                  first
                    | exact ⟨⟨e0, 4294967295, by go_num, by rw [← hW1.out]; rfl, hnx2.out, by first | rfl | trivial⟩, by simp [intOf]⟩
                    | (refine ⟨?_, by simp [intOf]⟩
                       repeat apply Exists.intro
                       apply (fun h2 h1 => And.intro h1 h2) rfl
                       exact ⟨e0, 4294967295, by go_num, by rw [← hW1.out]; rfl, hnx2.out, by first | rfl | trivial⟩)
                · obtain ⟨S, hwS, hSW⟩ := Dv.inc hW hW1 (by omega) hsl2
                  have hd0 := Dv.out2 htop2 hzl hlow2.1 hlow2.2 (by omega)
                  rw [Nat.add_sub_cancel] at hd0
                  clear hlow2 htop2
                  obtain ⟨R, hR⟩ := hid_ex (z * 4294967296 + u0 - e0 * 18446744073709551600)
                  have hlf0 := Dv.left hW hV hd0 hR
                  have hwR := hlf0.1
                  have hfin := Dv.fin hu ht ht1 hu0 hdh hz' hd0 hR
                  have hfin' := Lib.hid hfin
                  clear hfin hlf0 hlf hd0
                  go_wp2
                  go_ret2
                  refine ⟨0, ⟨_, congrArg (fun z => Ending.returned (.tuple #[_, .int .u64 z])) ?_⟩, rfl⟩
                  rw [← hfin'.out]
                  omega
              · have hd0 := Dv.out1 htop2 (by omega)
                clear htop2 hBC
                obtain ⟨R, hR⟩ := hid_ex (z * 4294967296 + u0 - q2 * 18446744073709551600)
                have hlf0 := Dv.left hW hV hd0 hR
                have hwR := hlf0.1
                have hfin := Dv.fin hu ht ht1 hu0 hdh hz' hd0 hR
                have hfin' := Lib.hid hfin
                clear hfin hlf0 hlf hd0
                go_wp2
                go_ret2
                refine ⟨0, ⟨_, congrArg (fun z => Ending.returned (.tuple #[_, .int .u64 z])) ?_⟩, rfl⟩
                rw [← hfin'.out]
                omega
            · have hqW : W ≤ (q2 : Int) := by rw [← hW.out]; omega
              have hlow2 := Dv.big htop2 hzl hu0l hc2
              obtain ⟨e0, rfl⟩ : ∃ d', q2 = d' + 1 := ⟨q2 - 1, by omega⟩
              rw [show ((e0 + 1 : Nat) : Int) = (e0 : Int) + 1 from rfl] at hqW
              by_cases hs2 : s2 = 0
              · subst hs2
                have hnx2 := Lib.hid (Dv.next htop2 hlow2.1 hlow2.2)
                clear hlow2 htop2
                go_wp2
                first
                  | exact ⟨⟨e0, 4294967295, by go_num, by rw [← hW1.out]; rfl, hnx2.out, by first | rfl | trivial⟩, by simp [intOf]⟩
                  | (refine ⟨?_, by simp [intOf]⟩
                     repeat apply Exists.intro
                     apply (fun h2 h1 => And.intro h1 h2) rfl
                     exact ⟨e0, 4294967295, by go_num, by rw [← hW1.out]; rfl, hnx2.out, by first | rfl | trivial⟩)
              · obtain ⟨S, hwS, hSW⟩ := Dv.inc hW hW1 (by omega) hsl2
                have hd0 := Dv.out2 htop2 hzl hlow2.1 hlow2.2 (by omega)
                rw [Nat.add_sub_cancel] at hd0
                clear hlow2 htop2
                obtain ⟨R, hR⟩ := hid_ex (z * 4294967296 + u0 - e0 * 18446744073709551600)
                have hlf0 := Dv.left hW hV hd0 hR
                have hwR := hlf0.1
                have hfin := Dv.fin hu ht ht1 hu0 hdh hz' hd0 hR
                have hfin' := Lib.hid hfin
                clear hfin hlf0 hlf hd0
                go_wp2
                go_ret2
                refine ⟨0, ⟨_, congrArg (fun z => Ending.returned (.tuple #[_, .int .u64 z])) ?_⟩, rfl⟩
                rw [← hfin'.out]
                omega
      · have hqW : W ≤ (q : Int) := by rw [← hW.out]; omega
        have hlow1 := Dv.big htop hul ht1l hc1
        obtain ⟨d, rfl⟩ : ∃ d', q = d' + 1 := ⟨q - 1, by omega⟩
        rw [show ((d + 1 : Nat) : Int) = (d : Int) + 1 from rfl] at hqW
        by_cases hs : s = 0
        · subst hs
          have hnx1 := Lib.hid (Dv.next htop hlow1.1 hlow1.2)
          clear hlow1 htop
          go_wp2
          first
            | exact ⟨⟨d, 4294967295, by go_num, by rw [← hW1.out]; rfl, hnx1.out, by first | rfl | trivial⟩, by simp [intOf]⟩
            | (refine ⟨?_, by simp [intOf]⟩
               repeat apply Exists.intro
               apply (fun h2 h1 => And.intro h1 h2) rfl
               exact ⟨d, 4294967295, by go_num, by rw [← hW1.out]; rfl, hnx1.out, by first | rfl | trivial⟩)
        · obtain ⟨S, hwS, hSW⟩ := Dv.inc hW hW1 (by omega) hsl1
          have hd := Dv.out2 htop hul hlow1.1 hlow1.2 (by omega)
          rw [Nat.add_sub_cancel] at hd
          clear hlow1 htop
          obtain ⟨z, hz'⟩ := hid_ex (u * 4294967296 + t1 - d * 18446744073709551600)
          have hlf := Dv.left hW hV hd hz'
          have hdh := Lib.hid hd
          clear hd
          have hwz := hlf.1
          have hzl := hlf.2
          have hu0l : u0 < 4294967296 := by rw [← hu0.out]; omega
          obtain ⟨q0, hq0⟩ := hid_ex (z / 4294967295)
          obtain ⟨r0, hr0⟩ := hid_ex (z - z / 4294967295 * 4294967295)
          have hwq0 := Dv.quoD hW1 (by omega) hq0
          have hwr0 := Dv.rest hW1 (by omega) hq0 hr0
          have htop0 := Dv.top0 hzl hu0l
          rw [hr0.out, hq0.out] at htop0
          go_wp2_with (fail)
          go_loopw [18, 16] (fun v r wy => ∃ q s : Nat, v = .int .u64 (q : Int) ∧ r = .int .u64 (s : Int) ∧ Dv.Top z u0 q s ∧ wy = wr) (fun v _ _ => (intOf v).toNat)
          case atStart => exact ⟨_, _, rfl, rfl, htop0, rfl⟩
          case round =>
            obtain ⟨q2, s2, rfl, rfl, htop2, rfl⟩ := hrel
            have hql2 := Dv.top_q htop2 hzl
            have hsl2 := htop2.2.1
            rcases Nat.lt_or_ge q2 4294967296 with hc2 | hc2
            · obtain ⟨A, B, C, hqW, hwA, hwB, hwC, hBC, hBe⟩ := Dv.test hW hW0 hc2 hsl2 hu0l
              by_cases hlt : B < C
              · have hlow2 := Dv.over htop2 (hBC.1 hlt)
                obtain ⟨e0, rfl⟩ : ∃ d', q2 = d' + 1 := ⟨q2 - 1, by omega⟩
                clear hBC
                rw [show ((e0 + 1 : Nat) : Int) = (e0 : Int) + 1 from rfl] at hwC hqW
                by_cases hs2 : s2 = 0
                · subst hs2
                  have hB0 : u0 < C := by have h := hBe.out; omega
                  have hnx2 := Lib.hid (Dv.next htop2 hlow2.1 hlow2.2)
                  clear hlow2 htop2
                  go_wp2
                  first
                    | exact ⟨⟨e0, 4294967295, by go_num, by rw [← hW1.out]; rfl, hnx2.out, by first | rfl | trivial⟩, by simp [intOf]⟩
                    | (refine ⟨?_, by simp [intOf]⟩
                       repeat apply Exists.intro
                       apply (fun h2 h1 => And.intro h1 h2) rfl
                       exact ⟨e0, 4294967295, by go_num, by rw [← hW1.out]; rfl, hnx2.out, by first | rfl | trivial⟩)
                · obtain ⟨S, hwS, hSW⟩ := Dv.inc hW hW1 (by omega) hsl2
                  have hd0 := Dv.out2 htop2 hzl hlow2.1 hlow2.2 (by omega)
                  rw [Nat.add_sub_cancel] at hd0
                  clear hlow2 htop2
                  obtain ⟨R, hR⟩ := hid_ex (z * 4294967296 + u0 - e0 * 18446744073709551600)
                  have hlf0 := Dv.left hW hV hd0 hR
                  have hwR := hlf0.1
                  have hfin := Dv.fin hu ht ht1 hu0 hdh hz' hd0 hR
                  have hfin' := Lib.hid hfin
                  clear hfin hlf0 hlf hd0
                  go_wp2
                  go_ret2
                  refine ⟨0, ⟨_, congrArg (fun z => Ending.returned (.tuple #[_, .int .u64 z])) ?_⟩, rfl⟩
                  rw [← hfin'.out]
                  omega
              · have hd0 := Dv.out1 htop2 (by omega)
                clear htop2 hBC
                obtain ⟨R, hR⟩ := hid_ex (z * 4294967296 + u0 - q2 * 18446744073709551600)
                have hlf0 := Dv.left hW hV hd0 hR
                have hwR := hlf0.1
                have hfin := Dv.fin hu ht ht1 hu0 hdh hz' hd0 hR
                have hfin' := Lib.hid hfin
                clear hfin hlf0 hlf hd0
                go_wp2
                go_ret2
                refine ⟨0, ⟨_, congrArg (fun z => Ending.returned (.tuple #[_, .int .u64 z])) ?_⟩, rfl⟩
                rw [← hfin'.out]
                omega
            · have hqW : W ≤ (q2 : Int) := by rw [← hW.out]; omega
              have hlow2 := Dv.big htop2 hzl hu0l hc2
              obtain ⟨e0, rfl⟩ : ∃ d', q2 = d' + 1 := ⟨q2 - 1, by omega⟩
              rw [show ((e0 + 1 : Nat) : Int) = (e0 : Int) + 1 from rfl] at hqW
              by_cases hs2 : s2 = 0
              · subst hs2
                have hnx2 := Lib.hid (Dv.next htop2 hlow2.1 hlow2.2)
                clear hlow2 htop2
                go_wp2
                first
                  | exact ⟨⟨e0, 4294967295, by go_num, by rw [← hW1.out]; rfl, hnx2.out, by first | rfl | trivial⟩, by simp [intOf]⟩
                  | (refine ⟨?_, by simp [intOf]⟩
                     repeat apply Exists.intro
                     apply (fun h2 h1 => And.intro h1 h2) rfl
                     exact ⟨e0, 4294967295, by go_num, by rw [← hW1.out]; rfl, hnx2.out, by first | rfl | trivial⟩)
              · obtain ⟨S, hwS, hSW⟩ := Dv.inc hW hW1 (by omega) hsl2
                have hd0 := Dv.out2 htop2 hzl hlow2.1 hlow2.2 (by omega)
                rw [Nat.add_sub_cancel] at hd0
                clear hlow2 htop2
                obtain ⟨R, hR⟩ := hid_ex (z * 4294967296 + u0 - e0 * 18446744073709551600)
                have hlf0 := Dv.left hW hV hd0 hR
                have hwR := hlf0.1
                have hfin := Dv.fin hu ht ht1 hu0 hdh hz' hd0 hR
                have hfin' := Lib.hid hfin
                clear hfin hlf0 hlf hd0
                go_wp2
                go_ret2
                refine ⟨0, ⟨_, congrArg (fun z => Ending.returned (.tuple #[_, .int .u64 z])) ?_⟩, rfl⟩
                rw [← hfin'.out]
                omega
end Go.Proofs.YthmlaigpdpdpjaaGreatDoor

namespace Go.Proofs.YthmlaigpdpdpjaaGreatDoor
open Go.RowKit
namespace Sg
/-- The labels. -/
def lSigned : List UInt8 := [115, 105, 103, 110, 101, 100]
def lSig : List UInt8 := [115, 105, 103]
def lNonce : List UInt8 := [110, 111, 110, 99, 101]
def m (bs : List UInt8) : Nat := Hs.ofBytes lSigned bs
def e (r pub : Nat) (bs : List UInt8) : Nat := Hs.of lSig [r, pub, m bs]
def pub (secret : Nat) : Nat := Fd.pow 37 secret
def once (secret : Nat) (bs : List UInt8) : Nat := Hs.secret lNonce [secret, m bs]
def r (secret : Nat) (bs : List UInt8) : Nat := Fd.pow 37 (once secret bs)
def x (secret : Nat) (bs : List UInt8) : Nat := e (r secret bs) (pub secret) bs * secret % 2305843009213693950
def s (secret : Nat) (bs : List UInt8) : Nat := (once secret bs + x secret bs) % 2305843009213693950
def within (n lo hi : Int) : Bool := decide (lo ≤ n) && decide (n ≤ hi)
def check (pub : Nat) (bs : List UInt8) (R S : Nat) : Bool :=
  within pub 1 2305843009213693950 && within R 1 2305843009213693950 && within S 0 2305843009213693949 && (Fd.pow 37 S == Fd.mul R (Fd.pow pub (e R pub bs)))
theorem m_lt (bs : List UInt8) : m bs < 2305843009213693951 := Hs.of_lt _ _
theorem e_lt (r pub : Nat) (bs : List UInt8) : e r pub bs < 2305843009213693951 := Hs.of_lt _ _
theorem once_lt (secret : Nat) (bs : List UInt8) : once secret bs < 2305843009213693950 := Hs.secret_lt _ _
theorem r_lt (secret : Nat) (bs : List UInt8) : r secret bs < 2305843009213693951 := Fd.pow_lt _ _
theorem x_lt (secret : Nat) (bs : List UInt8) : x secret bs < 2305843009213693950 := Nat.mod_lt _ (by omega)
theorem s_lt (secret : Nat) (bs : List UInt8) : s secret bs < 2305843009213693950 := Nat.mod_lt _ (by omega)
end Sg
end Go.Proofs.YthmlaigpdpdpjaaGreatDoor

namespace Go.Proofs.YthmlaigpdpdpjaaGreatDoor
open Go.RowKit Go.Shelf
attribute [local go_sem ↓] Go.wp_at_zero Go.wp_at_succ

theorem pub_any (n : Nat) (w : World) (hn : n < 18446744073709551616) : Calls Tryz.prog 117 #[.int .u64 (n : Int)] w (PowPost (Sg.pub n) w) := by
  have hp : Hid (∀ w, Calls Tryz.prog 70 #[.int .u64 37, .int .u64 (n : Int)] w (PowPost (Sg.pub n) w)) := fun w => pow_any 37 n w (by omega) hn
  go_enter Tryz.func117, Tryz.ntmps117
  go_wp2_with (fail)
  refine (hp.out _).mono ?_
  rintro _ w1 ⟨rfl, hf1⟩
  go_wp2
  go_ret
  exact ⟨rfl, hf1⟩

def MulPost (v : Nat) (w : World) (r : Ending) (w' : World) : Prop := r = .returned (.int .u64 (v : Int)) ∧ Fr Non w w'

set_option maxRecDepth 100000 in
theorem mulm_any (a b : Nat) (w : World) (ha : a < 18446744073709551616) (hb : b < 18446744073709551616) :
    Calls Tryz.prog 116 #[.int .u64 2305843009213693950, .int .u64 (a : Int), .int .u64 (b : Int)] w (MulPost (a * b % 2305843009213693950) w) := by
  have hm : Hid ((a * b / 18446744073709551616 % 2305843009213693950 * 18446744073709551616 + a * b % 18446744073709551616) % 2305843009213693950 = a * b % 2305843009213693950) := by show _ = _; omega
  have h0 := mul64_any a b ha hb
  have hhl : a * b / 18446744073709551616 < 18446744073709551616 := by
    have := Nat.mul_lt_mul'' ha hb
    omega
  have hll : a * b % 18446744073709551616 < 18446744073709551616 := Nat.mod_lt _ (by omega)
  obtain ⟨R, hR⟩ := hid_ex (a * b % 2305843009213693950)
  rw [hR.out] at hm ⊢
  generalize a * b / 18446744073709551616 = hi at *
  generalize a * b % 18446744073709551616 = lo at *
  obtain ⟨h, hh⟩ := hid_ex (hi % 2305843009213693950)
  have hhl2 : h < 2305843009213693950 := by rw [← hh.out]; omega
  have hmod : IntKind.u64.wrap ((hi : Int).tmod 2305843009213693950) = (h : Int) := by rw [Int.tmod_eq_emod_of_nonneg (by omega), IntKind.wrap_u64, ← hh.out]; omega
  have hmod2 : (hi : Int) % 2305843009213693950 = (h : Int) := by rw [← hh.out]; omega
  have hmod3 : (hi : Int).tmod 2305843009213693950 = (h : Int) := by rw [Int.tmod_eq_emod_of_nonneg (by omega), ← hh.out]; omega
  rw [hh.out] at hm
  have hd : Hid (∀ w, Calls Tryz.prog 153 #[.int .u64 (h : Int), .int .u64 (lo : Int), .int .u64 2305843009213693950] w (fun e w' => ∃ n, DivPost R (w.drewN n) e w')) := fun w => by have := div64_any h lo w hhl2 hll; rwa [hm.out] at this
  have h0' := Lib.hid h0
  clear h0 hm hh hR
  go_enter Tryz.func116, Tryz.ntmps116
  go_wp2_with (fail)
  refine (h0'.out _).mono ?_
  rintro _ _ ⟨rfl, rfl⟩
  go_wp2_with (fail)
  refine (hd.out _).mono ?_
  rintro _ _ ⟨nn, ⟨q, rfl⟩, rfl⟩
  go_wp2
  go_ret
  exact ⟨rfl, (Fr.refl _ _).drewN _⟩

def SumsPost (m e : Nat) (w : World) (r : Ending) (w' : World) : Prop := r = .returned (.tuple #[.int .u64 (m : Int), .int .u64 (e : Int)]) ∧ Fr Non w w'

theorem sums_any (pub r B n c : Nat) (A : Option Addr) (bs : List UInt8) (w : World) (hp : pub < 18446744073709551616) (hr0 : r < 18446744073709551616) (hlen : Hid (bs.length = n)) (hnc : n ≤ c) (hn : n ≤ 1099511627775) (hB : B ≤ w.heap.size) (hr : Rd w B 1 A n (bs.map Bv)) :
    Calls Tryz.prog 69 #[.int .u64 (pub : Int), .int .u64 (r : Int), .slice A n c] w (SumsPost (Sg.m bs) (Sg.e r pub bs) w) := by
  have he : Hid (Sg.e r pub bs = Hs.of Sg.lSig [r, pub, Sg.m bs]) := rfl
  have hm := Sg.m_lt bs
  have hby := Lib.hid (ofBytes_any Sg.lSigned B n c A bs w hlen hnc hn (by decide) hB hr)
  have hmm : Hid (Hs.ofBytes Sg.lSigned bs = Sg.m bs) := rfl
  rw [hmm.out] at hby
  obtain ⟨v, hv⟩ := hid_ex (Sg.m bs)
  rw [hv.out] at he hm hby
  rw [he.out, hv.out]
  go_enter Tryz.func69, Tryz.ntmps69
  go_wp2_with (fail)
  refine hby.out.mono ?_
  rintro _ w1 ⟨rfl, hf1⟩
  go_wp2_with (fail)
  have hnew := Blk.new w1 25 #[.int .u64 (r : Int), .int .u64 (pub : Int), .int .u64 (v : Int)]
  have hrd : Rd (w1.alloc (.cells #[.int .u64 (r : Int), .int .u64 (pub : Int), .int .u64 (v : Int)] 25)) (w1.heap.size + 1) 1 (some ⟨w1.heap.size, 0, none⟩) 3 ([r, pub, v].map Wv) := by
    refine ⟨rfl, .inr ⟨w1.heap.size, 0, rfl, by omega, fun j u hu => ?_⟩⟩
    rw [hnew.cell]
    match j, hu with
    | 0, hu => simpa [Wv] using hu
    | 1, hu => simpa [Wv] using hu
    | 2, hu => simpa [Wv] using hu
  refine (of_any Sg.lSig [r, pub, v] _ 3 3 _ _ rfl (by decide) (by omega) hrd (by simp; omega)).mono ?_
  rintro _ w2 ⟨rfl, hf2⟩
  go_wp2
  go_ret2
  exact ⟨rfl, (hf1.alloc _).trans hf2 (fun _ _ e => e)⟩
end Go.Proofs.YthmlaigpdpdpjaaGreatDoor

namespace Go.Proofs.YthmlaigpdpdpjaaGreatDoor
open Go.RowKit Go.Shelf
attribute [local go_sem ↓] Go.wp_at_zero Go.wp_at_succ

/-- A signature as a value. -/
def SigV (R S : Nat) : Value := .agg #[.int .u64 (R : Int), .int .u64 (S : Int)]
def SignPost (secret : Nat) (bs : List UInt8) (w : World) (r : Ending) (w' : World) : Prop := r = .returned (SigV (Sg.r secret bs) (Sg.s secret bs)) ∧ Fr Non w w'

theorem add_sign_any (x y z : Nat) (w : World) (hx : x < 2305843009213693951) (hy : y < 2305843009213693951) (hz : Hid ((x + y) % 2305843009213693950 = z)) :
    Calls Tryz.prog 119 #[.int .u64 (x : Int), .int .u64 (y : Int)] w fun e w' => e = .returned (.int .u64 (z : Int)) ∧ w = w' := by
  have h1 : IntKind.u64.wrap ((x : Int) + (y : Int)) = ((x + y : Nat) : Int) := by rw [IntKind.wrap_u64]; omega
  have h2 : ((x : Int) + (y : Int)) % 2305843009213693950 = (z : Int) := by rw [← hz.out]; omega
  have h3 : ((x : Int) + (y : Int)).tmod 2305843009213693950 = (z : Int) := by rw [Int.tmod_eq_emod_of_nonneg (by omega), h2]
  have hz' : z < 2305843009213693950 := by rw [← hz.out]; omega
  go_enter Tryz.func119, Tryz.ntmps119
  have h5 : ¬ (2305843009213693950 : Int) = 0 := by omega
  have h6 : IntKind.u64.wrap (z : Int) = (z : Int) := by rw [IntKind.wrap_u64]; omega
  generalize (2305843009213693950 : Int) = M at *
  go_wp2
  go_ret
  exact ⟨rfl, rfl⟩

set_option maxHeartbeats 2000000 in
theorem sign_any (secret B n c : Nat) (A : Option Addr) (bs : List UInt8) (w : World) (hs : secret < 18446744073709551616) (hlen : Hid (bs.length = n)) (hnc : n ≤ c) (hn : n ≤ 1099511627775) (hB : B ≤ w.heap.size) (hr : Rd w B 1 A n (bs.map Bv)) :
    Calls Tryz.prog 46 #[.int .u64 (secret : Int), .slice A n c] w (SignPost secret bs w) := by
  have hb0 := Blk.new w 33 #[.int .u64 0, .int .u64 0]
  have hf0 : Fr Non w (w.alloc (.cells #[.int .u64 0, .int .u64 0] 33)) := (Fr.refl _ _).alloc _
  have hr0 := hr.alloc (.cells #[.int .u64 0, .int .u64 0] 33)
  have lp := Fd.pow_lt 37 secret
  have lm := Sg.m_lt bs
  have lo := Sg.once_lt secret bs
  have lr := Sg.r_lt secret bs
  have hx1 : Hid (Sg.x secret bs = Sg.e (Sg.r secret bs) (Sg.pub secret) bs * secret % 2305843009213693950) := rfl
  have hs1 : Hid ((Sg.once secret bs + Sg.x secret bs) % 2305843009213693950 = Sg.s secret bs) := rfl
  have lx := Sg.x_lt secret bs
  have ls := Sg.s_lt secret bs
  have hpow : Hid (∀ w, Calls Tryz.prog 70 #[.int .u64 37, .int .u64 (Sg.once secret bs : Int)] w (PowPost (Sg.r secret bs) w)) := fun w => pow_any 37 (Sg.once secret bs) w (by omega) (by omega)
  have lp' : Sg.pub secret < 2305843009213693951 := lp
  have le := Sg.e_lt (Sg.r secret bs) (Sg.pub secret) bs
  have honce : Hid (Sg.once secret bs = Hs.secret Sg.lNonce [secret, Sg.m bs]) := rfl
  have hpubc := Lib.hid (fun w => pub_any secret w hs)
  obtain ⟨P, hP⟩ := hid_ex (Sg.pub secret)
  obtain ⟨m, hm⟩ := hid_ex (Sg.m bs)
  obtain ⟨o, ho⟩ := hid_ex (Sg.once secret bs)
  obtain ⟨R, hR⟩ := hid_ex (Sg.r secret bs)
  rw [hR.out, hP.out] at hx1 le
  rw [hR.out, ho.out] at hpow
  rw [ho.out] at hs1 lo honce
  rw [hm.out] at honce lm
  rw [hR.out] at lr
  rw [hP.out] at lp' hpubc
  obtain ⟨E, hE⟩ := hid_ex (Sg.e R P bs)
  rw [hE.out] at hx1 le
  have hmulm : Hid (∀ w, Calls Tryz.prog 116 #[.int .u64 2305843009213693950, .int .u64 (E : Int), .int .u64 (secret : Int)] w (MulPost (Sg.x secret bs) w)) := fun w => by rw [hx1.out]; exact mulm_any E secret w (by omega) hs
  obtain ⟨X, hX⟩ := hid_ex (Sg.x secret bs)
  obtain ⟨S, hS⟩ := hid_ex (Sg.s secret bs)
  rw [hX.out] at hmulm lx hs1
  rw [hS.out] at hs1 ls
  have hadd := Lib.hid (fun w => add_sign_any o X S w (by omega) (by omega) hs1)
  go_enter Tryz.func46, Tryz.ntmps46
  go_wp2_with (fail)
  refine (hpubc.out _).mono ?_
  rintro _ w1 ⟨rfl, hf1⟩
  have hs1w := hf1.size
  simp only [World.size_alloc] at hs1w
  go_wp2_with (fail)
  refine (sums_any P 0 B n c A bs w1 (by omega) (by omega) hlen hnc hn (by omega) (hr0.fr hf1 (fun _ _ e => e))).mono ?_
  rw [hm.out]
  generalize Sg.e 0 P bs = E0
  rintro _ w2 ⟨rfl, hf2⟩
  have hs2w := hf2.size
  go_wp2_with (fail)
  have hnew := Blk.new w2 25 #[.int .u64 (secret : Int), .int .u64 (m : Int)]
  have hrd : Rd (w2.alloc (.cells #[.int .u64 (secret : Int), .int .u64 (m : Int)] 25)) (w2.heap.size + 1) 1 (some ⟨w2.heap.size, 0, none⟩) 2 ([secret, m].map Wv) := by
    refine ⟨rfl, .inr ⟨w2.heap.size, 0, rfl, by omega, fun j u hu => ?_⟩⟩
    rw [hnew.cell]
    match j, hu with
    | 0, hu => simpa [Wv] using hu
    | 1, hu => simpa [Wv] using hu
  refine (secret_any Sg.lNonce [secret, m] _ 2 2 _ _ rfl (by decide) (by omega) hrd (by simp; omega)).mono ?_
  rw [← honce.out]
  rintro _ w3 ⟨rfl, hf3⟩
  have hs3w := hf3.size
  simp only [World.size_alloc] at hs3w
  go_wp2_with (fail)
  refine (hpow.out _).mono ?_
  rintro _ w4 ⟨rfl, hf4⟩
  have hs4w := hf4.size
  have hr4 := (((((hr0.fr hf1 (fun _ _ e => e)).fr hf2 (fun _ _ e => e)).alloc (.cells #[.int .u64 (secret : Int), .int .u64 (m : Int)] 25)).fr hf3 (fun _ _ e => e)).fr hf4 (fun _ _ e => e))
  go_wp2_with (fail)
  refine (sums_any P R B n c A bs w4 (by omega) (by omega) hlen hnc hn (by omega) hr4).mono ?_
  rw [hm.out, hE.out]
  rintro _ w5 ⟨rfl, hf5⟩
  go_wp2_with (fail)
  refine (hmulm.out _).mono ?_
  rintro _ w6 ⟨rfl, hf6⟩
  go_wp2_with (fail)
  refine (hadd.out _).mono ?_
  rintro _ _ ⟨rfl, rfl⟩
  have hb6 := (((((((hb0.fr hf1 (fun e => e)).fr hf2 (fun e => e)).alloc (.cells #[.int .u64 (secret : Int), .int .u64 (m : Int)] 25)).fr hf3 (fun e => e)).fr hf4 (fun e => e)).fr hf5 (fun e => e)).fr hf6 (fun e => e))
  have hff := ((((((hf0.trans hf1 (fun _ _ e => e)).trans hf2 (fun _ _ e => e)).alloc (.cells #[.int .u64 (secret : Int), .int .u64 (m : Int)] 25)).trans hf3 (fun _ _ e => e)).trans hf4 (fun _ _ e => e)).trans hf5 (fun _ _ e => e)).trans hf6 (fun _ _ e => e)
  have hc0 := hb6.cell 0
  have hc1 := hb6.cell 1
  have hz0 := hb6.frozen 0
  have hz1 := hb6.frozen 1
  go_wp2
  refine ret_blk rfl rfl ((hb6.set 0 _).set 1 _) rfl Tryz.underlying33 (by kernel_rfl) rfl ⟨?_, (hff.setNew (Nat.le_refl _) _ _).setNew (Nat.le_refl _) _ _⟩
  rw [hR.out, hS.out]
  rfl
end Go.Proofs.YthmlaigpdpdpjaaGreatDoor

namespace Go.Proofs.YthmlaigpdpdpjaaGreatDoor
open Go.RowKit Go.Shelf
attribute [local go_sem ↓] Go.wp_at_zero Go.wp_at_succ

theorem within_any (n lo hi : Int) (b : Bool) (w : World) (hb : Hid (Sg.within n lo hi = b)) :
    Calls Tryz.prog 68 #[.int .u64 n, .int .u64 lo, .int .u64 hi] w fun e w' => e = .returned (.bool b) ∧ w = w' := by
  have hb' := hb.out
  unfold Sg.within at hb'
  by_cases h1 : lo ≤ n
  · by_cases h2 : n ≤ hi
    · have hbb : Hid (true = b) := by rw [← hb']; simp [h1, h2, Hid]
      clear hb' hb
      go_enter Tryz.func68, Tryz.ntmps68
      go_wp2
      go_ret
      exact ⟨congrArg (fun z => Ending.returned (.bool z)) (Eq.trans (by first | simp | (simp; omega)) hbb.out), rfl⟩
    · have hbb : Hid (false = b) := by rw [← hb']; simp [h2, Hid]
      clear hb' hb
      go_enter Tryz.func68, Tryz.ntmps68
      go_wp2
      go_ret
      exact ⟨congrArg (fun z => Ending.returned (.bool z)) (Eq.trans (by first | simp | (simp; omega)) hbb.out), rfl⟩
  · have hbb : Hid (false = b) := by rw [← hb']; simp [h1, Hid]
    clear hb' hb
    go_enter Tryz.func68, Tryz.ntmps68
    go_wp2
    go_ret
    exact ⟨congrArg (fun z => Ending.returned (.bool z)) hbb.out, rfl⟩


set_option maxRecDepth 100000 in
set_option maxHeartbeats 2000000 in
theorem check_any (pub R S B n c : Nat) (A : Option Addr) (bs : List UInt8) (w : World) (hp : pub < 18446744073709551616) (hR : R < 18446744073709551616) (hS : S < 18446744073709551616) (hlen : Hid (bs.length = n)) (hnc : n ≤ c) (hn : n ≤ 1099511627775) (hB : B ≤ w.heap.size) (hr : Rd w B 1 A n (bs.map Bv)) :
    Calls Tryz.prog 24 #[.int .u64 (pub : Int), .slice A n c, SigV R S] w (BoolPost (Sg.check pub bs R S) w) := by
  unfold SigV
  have hck : Hid (Sg.check pub bs R S = (Sg.within pub 1 2305843009213693950 && Sg.within R 1 2305843009213693950 && Sg.within S 0 2305843009213693949 && (Fd.pow 37 S == Fd.mul R (Fd.pow pub (Sg.e R pub bs))))) := rfl
  have hb0 := Blk.new w 33 #[.int .u64 (R : Int), .int .u64 (S : Int)]
  have hf0 : Fr Non w (w.alloc (.cells #[.int .u64 (R : Int), .int .u64 (S : Int)] 33)) := (Fr.refl _ _).alloc _
  have c0 := hb0.cell 0
  have c1 := hb0.cell 1
  have hr0 := hr.alloc (.cells #[.int .u64 (R : Int), .int .u64 (S : Int)] 33)
  obtain ⟨b1, h1⟩ := hid_ex (Sg.within pub 1 2305843009213693950)
  obtain ⟨b2, h2⟩ := hid_ex (Sg.within R 1 2305843009213693950)
  obtain ⟨b3, h3⟩ := hid_ex (Sg.within S 0 2305843009213693949)
  have k1 := Lib.hid (fun w => within_any pub 1 2305843009213693950 b1 w h1)
  have k2 := Lib.hid (fun w => within_any R 1 2305843009213693950 b2 w h2)
  have k3 := Lib.hid (fun w => within_any S 0 2305843009213693949 b3 w h3)
  rw [h1.out, h2.out, h3.out] at hck
  cases b1 with
  | false =>
    rw [Bool.false_and, Bool.false_and, Bool.false_and] at hck
    rw [hck.out]
    go_enter Tryz.func24, Tryz.ntmps24
    go_wp2_with (first | (go_at_call 68; refine (k1.out _).mono ?_; rintro _ _ ⟨rfl, rfl⟩))
    go_ret
    exact ⟨rfl, hf0⟩
  | true =>
    cases b2 with
    | false =>
      rw [Bool.true_and, Bool.false_and, Bool.false_and] at hck
      rw [hck.out]
      go_enter Tryz.func24, Tryz.ntmps24
      go_wp2_with (first | (go_at_call 68; (with_reducible refine (k1.out _).mono ?_); rintro _ _ ⟨rfl, rfl⟩) | (go_at_call 68; (with_reducible refine (k2.out _).mono ?_); rintro _ _ ⟨rfl, rfl⟩))
      go_ret
      exact ⟨rfl, hf0⟩
    | true =>
      cases b3 with
      | false =>
        rw [Bool.true_and, Bool.true_and, Bool.false_and] at hck
        rw [hck.out]
        go_enter Tryz.func24, Tryz.ntmps24
        go_wp2_with (first | (go_at_call 68; (with_reducible refine (k1.out _).mono ?_); rintro _ _ ⟨rfl, rfl⟩) | (go_at_call 68; (with_reducible refine (k2.out _).mono ?_); rintro _ _ ⟨rfl, rfl⟩) | (go_at_call 68; (with_reducible refine (k3.out _).mono ?_); rintro _ _ ⟨rfl, rfl⟩))
        go_ret
        exact ⟨rfl, hf0⟩
      | true =>
        rw [Bool.true_and, Bool.true_and, Bool.true_and] at hck
        have le := Sg.e_lt R pub bs
        go_enter Tryz.func24, Tryz.ntmps24
        go_wp2_with (first | (go_at_call 68; (with_reducible refine (k1.out _).mono ?_); rintro _ _ ⟨rfl, rfl⟩) | (go_at_call 68; (with_reducible refine (k2.out _).mono ?_); rintro _ _ ⟨rfl, rfl⟩) | (go_at_call 68; (with_reducible refine (k3.out _).mono ?_); rintro _ _ ⟨rfl, rfl⟩))
        refine (sums_any pub R B n c A bs _ hp hR hlen hnc hn (by simp; omega) hr0).mono ?_
        rintro _ w1 ⟨rfl, hf1⟩
        have hb1 := hb0.fr hf1 (fun e => e)
        have hff := hf0.trans hf1 (fun _ _ e => e)
        obtain ⟨E, hE⟩ := hid_ex (Sg.e R pub bs)
        rw [hE.out] at le hck
        rw [hE.out]
        generalize Sg.m bs = m0
        have p1 := Lib.hid (fun w => pow_any 37 S w (by omega) hS)
        have p2 := Lib.hid (fun w => pow_any pub E w hp (by omega))
        have lq := Fd.pow_lt pub E
        obtain ⟨q, hq⟩ := hid_ex (Fd.pow pub E)
        obtain ⟨t, ht⟩ := hid_ex (Fd.pow 37 S)
        rw [hq.out] at p2 lq hck
        rw [ht.out] at p1 hck
        have p3 := Lib.hid (fun w => mul_any R q hR (by omega) w)
        obtain ⟨v, hv⟩ := hid_ex (Fd.mul R q)
        rw [hv.out] at p3 hck
        have p1' : Hid (∀ w, Calls Tryz.prog 70 #[.int .u64 37, .int .u64 (S : Int)] w (PowPost t w)) := p1.out
        have hb1d : Blk w1.drew w.heap.size 33 #[.int .u64 (R : Int), .int .u64 (S : Int)] := hb1
        have d0 := hb1d.cell 0
        have d1 := hb1d.cell 1
        clear c0 c1
        go_wp2_with (fail)
        go_region_held3 (fun w' => w'.cell? ⟨w.heap.size, 0, none⟩ = some (.int .u64 (R : Int)) ∧ w'.cell? ⟨w.heap.size, 1, none⟩ = some (.int .u64 (S : Int))) (go_keep) (first
          | (go_at_call 70; (with_reducible refine (p1'.out _).mono ?_); rintro _ w2 ⟨rfl, hf2⟩; have g0 := hf2.cell d0 (fun e => e); have g1 := hf2.cell d1 (fun e => e))
          | (go_at_call 70; (with_reducible refine (p2.out _).mono ?_); rintro _ w3 ⟨rfl, hf3⟩; have g0' := hf3.cell g0 (fun e => e); have g1' := hf3.cell g1 (fun e => e))
          | (go_at_call 71; (with_reducible refine (p3.out _).mono ?_); rintro _ _ ⟨rfl, rfl⟩))
        go_wp2
        go_ret
        refine ⟨congrArg (fun z => Ending.returned (.bool z)) ?_, (((hff.drew.trans hf2 (fun _ _ e => e)).trans hf3 (fun _ _ e => e)))⟩
        rw [hck.out, Bool.eq_iff_iff]
        simp only [beq_iff_eq]
        exact Int.ofNat_inj
end Go.Proofs.YthmlaigpdpdpjaaGreatDoor

namespace Go.Proofs.YthmlaigpdpdpjaaGreatDoor
namespace Sg
theorem fermat {M : Nat} (hM : M = 2305843009213693950) : 37 ^ M % 2305843009213693951 = 1 := by
  have h := Fd.pow_eq 37 M (by omega)
  rw [← h, hM]
  decide +kernel
theorem pow_one {M : Nat} (hM : M = 2305843009213693950) (k : Nat) : (37 ^ M) ^ k % 2305843009213693951 = 1 := by
  rw [Nat.pow_mod, fermat hM, Nat.one_pow]
theorem pow_red' {M : Nat} (hM : M = 2305843009213693950) (k : Nat) : 37 ^ (k % M) % 2305843009213693951 = 37 ^ k % 2305843009213693951 := by
  conv => rhs; rw [← Nat.div_add_mod k M, Nat.pow_add, Nat.pow_mul, Nat.mul_mod, pow_one hM, Nat.one_mul, Nat.mod_mod]
theorem pow_red (k : Nat) : 37 ^ (k % 2305843009213693950) % 2305843009213693951 = 37 ^ k % 2305843009213693951 := pow_red' rfl k
theorem pow_ne' {M : Nat} (hM : M = 2305843009213693950) (k : Nat) : 37 ^ k % 2305843009213693951 ≠ 0 := by
  intro h
  have h1 : (37 ^ k) ^ M % 2305843009213693951 = 1 := by rw [← Nat.pow_mul, Nat.mul_comm, Nat.pow_mul]; exact pow_one hM k
  rw [Nat.pow_mod, h, Nat.zero_pow (by omega)] at h1
  simp at h1
theorem pow_ne (k : Nat) : 37 ^ k % 2305843009213693951 ≠ 0 := pow_ne' rfl k
theorem pow37_pos {k : Nat} (hk : k < 18446744073709551616) : 1 ≤ Fd.pow 37 k := by
  rw [Fd.pow_eq 37 k hk]
  exact Nat.one_le_iff_ne_zero.2 (pow_ne k)
theorem mul_pow (a b : Nat) : Fd.mul a b % 2305843009213693951 = a * b % 2305843009213693951 := by unfold Fd.mul; rw [Nat.mod_mod]
/-- The two sides of a right signature. -/
theorem sides {x o e : Nat} (hx : x < 18446744073709551616) (ho : o < 18446744073709551616) (he : e < 18446744073709551616) :
    Fd.pow 37 ((o + e * x % 2305843009213693950) % 2305843009213693950) = Fd.mul (Fd.pow 37 o) (Fd.pow (Fd.pow 37 x) e) := by
  have hs : (o + e * x % 2305843009213693950) % 2305843009213693950 = (o + e * x) % 2305843009213693950 := by rw [Nat.add_mod_mod]
  have hlt : (o + e * x) % 2305843009213693950 < 18446744073709551616 := by have := Nat.mod_lt (o + e * x) (show 0 < 2305843009213693950 by omega); omega
  rw [hs, Fd.pow_eq _ _ hlt, pow_red, Nat.pow_add]
  unfold Fd.mul
  rw [Fd.pow_eq _ _ ho, Fd.pow_eq _ _ he, Fd.pow_eq _ _ hx, ← Nat.pow_mod, ← Nat.mul_mod, ← Nat.pow_mul, Nat.mul_comm x e]
theorem within_yes {n lo hi : Nat} (h1 : lo ≤ n) (h2 : n ≤ hi) : within n lo hi = true := by
  unfold within
  simp; omega
theorem takes (x : Nat) (bs : List UInt8) (hx : x < 18446744073709551616) : check (pub x) bs (r x bs) (s x bs) = true := by
  have lo := once_lt x bs
  have lr := r_lt x bs
  have ls := s_lt x bs
  have lp := Fd.pow_lt 37 x
  have le := e_lt (r x bs) (pub x) bs
  have p1 : 1 ≤ Fd.pow 37 x := pow37_pos hx
  have p2 : 1 ≤ r x bs := pow37_pos (by omega)
  have w1 : within (pub x) 1 2305843009213693950 = true := within_yes (lo := 1) (hi := 2305843009213693950) p1 (by unfold pub; omega)
  have w2 : within (r x bs) 1 2305843009213693950 = true := within_yes (lo := 1) (hi := 2305843009213693950) p2 (by omega)
  have w3 : within (s x bs) 0 2305843009213693949 = true := within_yes (lo := 0) (hi := 2305843009213693949) (by omega) (by omega)
  unfold check
  rw [w1, w2, w3]
  have h := sides (x := x) (o := once x bs) (e := e (r x bs) (pub x) bs) hx (by omega) (by omega)
  have hs : s x bs = (once x bs + e (r x bs) (pub x) bs * x % 2305843009213693950) % 2305843009213693950 := rfl
  have hr : r x bs = Fd.pow 37 (once x bs) := rfl
  rw [hs, h, ← hr]
  simp [pub]
end Sg
end Go.Proofs.YthmlaigpdpdpjaaGreatDoor

namespace Go.Proofs.YthmlaigpdpdpjaaGreatDoor
open Go.RowKit
attribute [local go_sem ↓] Go.wp_at_zero Go.wp_at_succ

namespace R8
theorem step (M o x h : Nat) : ((o + x) % M + (x + x) % M * h) % M = (o + x * (2 * h + 1)) % M := by
  have e : o + x * (2 * h + 1) = (o + x) + (x + x) * h := by rw [Nat.mul_add, Nat.add_mul, Nat.mul_one, ← Nat.mul_assoc, Nat.mul_two, Nat.add_mul]; omega
  rw [e, Nat.add_mod (o + x) ((x + x) * h), Nat.mul_mod (x + x) h, Nat.add_mod ((o + x) % M), Nat.mod_mod, Nat.mul_mod ((x + x) % M), Nat.mod_mod]
theorem step0 (M o x h : Nat) : (o + (x + x) % M * h) % M = (o + x * (2 * h)) % M := by
  have e : x * (2 * h) = (x + x) * h := by rw [← Nat.mul_assoc, Nat.mul_two]
  rw [e, Nat.add_mod o ((x + x) * h), Nat.mul_mod (x + x) h, Nat.add_mod o, Nat.mul_mod ((x + x) % M), Nat.mod_mod]
end R8

theorem order08_any (w : World) : Calls Tryz.prog 131 #[] w fun e w' => e = .returned (.int .u64 2305843009213693950) ∧ w = w' := by
  go_enter Tryz.func131, Tryz.ntmps131
  go_wp2
  go_ret
  exact ⟨rfl, rfl⟩

set_option maxHeartbeats 2000000 in
theorem times08_any (a b : Nat) (w : World) : Calls Tryz.prog 129 #[.int .u64 (a : Int), .int .u64 (b : Int)] w fun e w' => e = .returned (.int .u64 ((a * b % 2305843009213693950 : Nat) : Int)) ∧ w = w' := by
  obtain ⟨x, hx⟩ := hid_ex (a % 2305843009213693950)
  obtain ⟨y, hy⟩ := hid_ex (b % 2305843009213693950)
  have lx : x < 2305843009213693950 := by rw [← hx.out]; exact Nat.mod_lt _ (by omega)
  have ly : y < 2305843009213693950 := by rw [← hy.out]; exact Nat.mod_lt _ (by omega)
  have hres : Hid ((0 + x * y) % 2305843009213693950 = a * b % 2305843009213693950) := by show _ = _; rw [Nat.zero_add, ← hx.out, ← hy.out, ← Nat.mul_mod]
  obtain ⟨r, hr⟩ := hid_ex (a * b % 2305843009213693950)
  rw [hr.out] at hres ⊢
  obtain ⟨fa, fa'⟩ := R1.nn 2305843009213693950 rfl hx.out
  obtain ⟨fb, fb'⟩ := R1.nn 2305843009213693950 rfl hy.out
  have z1 : ¬ (2305843009213693950 : Int) = 0 := by decide
  have ho : Hid (∀ w, Calls Tryz.prog 131 #[] w fun e w' => e = .returned (.int .u64 2305843009213693950) ∧ w = w') := fun w => order08_any w
  clear hx hy
  go_enter Tryz.func129, Tryz.ntmps129
  unfold Hid at ho
  generalize eM : (2305843009213693950 : Int) = M at *
  have hM := Lib.hid eM
  have ho' := Lib.hid ho
  clear eM ho
  go_wp2_with (fail)
  refine (ho'.out _).mono ?_
  rintro _ _ ⟨rfl, rfl⟩
  go_wp2_with (fail)
  refine (ho'.out _).mono ?_
  rintro _ _ ⟨rfl, rfl⟩
  go_wp2_with (fail)
  go_loopw [0, 1, 5] (fun p q o wr => ∃ x' y' o' : Nat, p = .int .u64 (x' : Int) ∧ q = .int .u64 (y' : Int) ∧ o = .int .u64 (o' : Int) ∧ x' < 2305843009213693950 ∧ y' < 2305843009213693950 ∧ o' < 2305843009213693950 ∧ Hid ((o' + x' * y') % 2305843009213693950 = r) ∧ wr = w) (fun _ q _ _ => (intOf q).toNat)
  case atStart => exact ⟨x, y, 0, rfl, rfl, rfl, lx, ly, by omega, hres, rfl⟩
  case round =>
    obtain ⟨x', y', o', rfl, rfl, rfl, lx', ly', lo', hd, rfl⟩ := hrel
    by_cases hz : y' = 0
    · subst hz
      have e : o' = r := by have h := hd.out; rw [Nat.mul_zero, Nat.add_zero, Nat.mod_eq_of_lt lo'] at h; exact h
      go_wp2
      go_ret
      exact ⟨by rw [← e]; rfl, rfl⟩
    · have hyp : (0 : Int) < (y' : Int) := by omega
      have l1 : (o' + x') % 2305843009213693950 < 2305843009213693950 := Nat.mod_lt _ (by omega)
      have l2 : (x' + x') % 2305843009213693950 < 2305843009213693950 := Nat.mod_lt _ (by omega)
      have s1 := R8.step 2305843009213693950 o' x' (y' / 2)
      have s0 := R8.step0 2305843009213693950 o' x' (y' / 2)
      obtain ⟨ox, hox⟩ := hid_ex ((o' + x') % 2305843009213693950)
      obtain ⟨xx, hxx⟩ := hid_ex ((x' + x') % 2305843009213693950)
      obtain ⟨g1, g1'⟩ := R1.nn M hM.out hox.out
      obtain ⟨g2, g2'⟩ := R1.nn M hM.out hxx.out
      rw [Int.natCast_add] at g1 g1' g2 g2'
      rw [hox.out] at l1 s1
      rw [hxx.out] at l2 s1 s0
      have s1' := Lib.hid s1
      have s0' := Lib.hid s0
      clear s1 s0
      have hparity : y' % 2 = 1 ∨ y' % 2 = 0 := by omega
      rcases hparity with hp | hp
      · have hpz : ((y' : Int) % 2 == 1) = true := by simp; omega
        have hd2 : Hid ((ox + xx * (y' / 2)) % 2305843009213693950 = r) := by show _ = _; rw [s1'.out, show 2 * (y' / 2) + 1 = y' by omega]; exact hd.out
        clear hd hp
        go_wp2_with (first | (go_at_call 131; refine (ho'.out _).mono ?_; rintro _ _ ⟨rfl, rfl⟩))
        exact ⟨⟨xx, y' / 2, ox, rfl, by go_num, rfl, l2, by omega, l1, hd2, by first | rfl | trivial⟩, by simp [intOf]; omega⟩
      · have hpz : ((y' : Int) % 2 == 1) = false := by simp; omega
        have hd2 : Hid ((o' + xx * (y' / 2)) % 2305843009213693950 = r) := by show _ = _; rw [s0'.out, show 2 * (y' / 2) = y' by omega]; exact hd.out
        clear hd hp
        go_wp2_with (first | (go_at_call 131; refine (ho'.out _).mono ?_; rintro _ _ ⟨rfl, rfl⟩))
        exact ⟨⟨xx, y' / 2, o', rfl, by go_num, rfl, l2, by omega, lo', hd2, by first | rfl | trivial⟩, by simp [intOf]; omega⟩
end Go.Proofs.YthmlaigpdpdpjaaGreatDoor

namespace Go.Proofs.YthmlaigpdpdpjaaGreatDoor
open Go.RowKit
attribute [local go_sem ↓] Go.wp_at_zero Go.wp_at_succ

theorem pub08_any (n : Nat) (w : World) (hn : n < 18446744073709551616) : Calls Tryz.prog 65 #[.int .u64 (n : Int)] w (PowPost (Sg.pub n) w) := by
  have hp : Hid (∀ w, Calls Tryz.prog 127 #[.int .u64 37, .int .u64 (n : Int)] w fun e w' => e = .returned (.int .u64 (Sg.pub n : Int)) ∧ ∃ k, w' = w.drewN k) := fun w => pow01_any 37 n w (by omega) hn
  go_enter Tryz.func65, Tryz.ntmps65
  go_wp2_with (fail)
  refine (hp.out _).mono ?_
  rintro _ _ ⟨rfl, k, rfl⟩
  go_wp2
  go_ret
  exact ⟨rfl, (Fr.refl _ _).drewN _⟩

theorem m08_any (B n c : Nat) (A : Option Addr) (bs : List UInt8) (w : World) (hlen : Hid (bs.length = n)) (hn : n ≤ 1099511627775) (hB : B ≤ w.heap.size) (hr : Rd w B 1 A n (bs.map Bv)) :
    Calls Tryz.prog 128 #[.slice A n c] w (PowPost (Sg.m bs) w) := by
  have hby : Hid (Calls Tryz.prog 157 #[.string ⟨#[115, 105, 103, 110, 101, 100]⟩, .slice A n c] w (PowPost (Sg.m bs) w)) := ofBytes02_any Sg.lSigned B n c A bs w hlen hn (by decide) hB hr
  go_enter Tryz.func128, Tryz.ntmps128
  go_wp2_with (fail)
  refine hby.out.mono ?_
  rintro _ w1 ⟨rfl, hf1⟩
  go_wp2
  go_ret
  exact ⟨rfl, hf1⟩

theorem e08_any (r pub B n c : Nat) (A : Option Addr) (bs : List UInt8) (w : World) (hr0 : r < 18446744073709551616) (hp : pub < 18446744073709551616) (hlen : Hid (bs.length = n)) (hn : n ≤ 1099511627775) (hB : B ≤ w.heap.size) (hr : Rd w B 1 A n (bs.map Bv)) :
    Calls Tryz.prog 130 #[.int .u64 (r : Int), .int .u64 (pub : Int), .slice A n c] w (PowPost (Sg.e r pub bs) w) := by
  have he : Hid (Sg.e r pub bs = Hs.of Sg.lSig [r, pub, Sg.m bs]) := rfl
  have hm := Sg.m_lt bs
  have hby := Lib.hid (m08_any B n c A bs w hlen hn hB hr)
  obtain ⟨v, hv⟩ := hid_ex (Sg.m bs)
  rw [hv.out] at he hm hby
  rw [he.out]
  go_enter Tryz.func130, Tryz.ntmps130
  go_wp2_with (fail)
  refine hby.out.mono ?_
  rintro _ w1 ⟨rfl, hf1⟩
  go_wp2_with (fail)
  have hnew := Blk.new w1 25 #[.int .u64 (r : Int), .int .u64 (pub : Int), .int .u64 (v : Int)]
  have hrd : Rd (w1.alloc (.cells #[.int .u64 (r : Int), .int .u64 (pub : Int), .int .u64 (v : Int)] 25)) (w1.heap.size + 1) 1 (some ⟨w1.heap.size, 0, none⟩) 3 ([r, pub, v].map Wv) := by
    refine ⟨rfl, .inr ⟨w1.heap.size, 0, rfl, by omega, fun j u hu => ?_⟩⟩
    rw [hnew.cell]
    match j, hu with
    | 0, hu => simpa [Wv] using hu
    | 1, hu => simpa [Wv] using hu
    | 2, hu => simpa [Wv] using hu
  refine (of02_any Sg.lSig [r, pub, v] _ 3 3 _ _ rfl (by decide) (by omega) hrd (by simp; omega)).mono ?_
  rintro _ w2 ⟨rfl, hf2⟩
  go_wp2
  go_ret
  exact ⟨rfl, (hf1.alloc _).trans hf2 (fun _ _ e => e)⟩

theorem sum_named (o X S : Nat) (ho : o < 2305843009213693950) (hX : X < 2305843009213693950) (hS : Hid ((o + X) % 2305843009213693950 = S)) : ((o : Int) + (X : Int)) % 2305843009213693950 = (S : Int) ∧ ((o : Int) + (X : Int)).tmod 2305843009213693950 = (S : Int) := by
  have h2 : ((o : Int) + (X : Int)) % 2305843009213693950 = (S : Int) := by rw [← hS.out]; omega
  exact ⟨h2, by rw [Int.tmod_eq_emod_of_nonneg (by omega), h2]⟩

set_option maxHeartbeats 2000000 in
theorem sign08_any (secret B n c : Nat) (A : Option Addr) (bs : List UInt8) (w : World) (hs : secret < 18446744073709551616) (hlen : Hid (bs.length = n)) (hn : n ≤ 1099511627775) (hB : B ≤ w.heap.size) (hr : Rd w B 1 A n (bs.map Bv)) :
    Calls Tryz.prog 66 #[.int .u64 (secret : Int), .slice A n c] w (SignPost secret bs w) := by
  have hb0 := Blk.new w 33 #[.int .u64 0, .int .u64 0]
  have hf0 : Fr Non w (w.alloc (.cells #[.int .u64 0, .int .u64 0] 33)) := (Fr.refl _ _).alloc _
  have hr0 := hr.alloc (.cells #[.int .u64 0, .int .u64 0] 33)
  have lp := Fd.pow_lt 37 secret
  have lm := Sg.m_lt bs
  have lo := Sg.once_lt secret bs
  have lr := Sg.r_lt secret bs
  have hx1 : Hid (Sg.x secret bs = Sg.e (Sg.r secret bs) (Sg.pub secret) bs * secret % 2305843009213693950) := rfl
  have hs1 : Hid ((Sg.once secret bs + Sg.x secret bs) % 2305843009213693950 = Sg.s secret bs) := rfl
  have lx := Sg.x_lt secret bs
  have ls := Sg.s_lt secret bs
  have hpow : Hid (∀ w, Calls Tryz.prog 127 #[.int .u64 37, .int .u64 (Sg.once secret bs : Int)] w fun e w' => e = .returned (.int .u64 (Sg.r secret bs : Int)) ∧ ∃ k, w' = w.drewN k) := fun w => pow01_any 37 (Sg.once secret bs) w (by omega) (by omega)
  have lp' : Sg.pub secret < 2305843009213693951 := lp
  have le := Sg.e_lt (Sg.r secret bs) (Sg.pub secret) bs
  have honce : Hid (Sg.once secret bs = Hs.secret Sg.lNonce [secret, Sg.m bs]) := rfl
  have hpubc := Lib.hid (fun w => pub08_any secret w hs)
  obtain ⟨P, hP⟩ := hid_ex (Sg.pub secret)
  obtain ⟨m, hm⟩ := hid_ex (Sg.m bs)
  obtain ⟨o, ho⟩ := hid_ex (Sg.once secret bs)
  obtain ⟨R, hR⟩ := hid_ex (Sg.r secret bs)
  rw [hR.out, hP.out] at hx1 le
  rw [hR.out, ho.out] at hpow
  rw [ho.out] at hs1 lo honce
  rw [hm.out] at honce lm
  rw [hR.out] at lr
  rw [hP.out] at lp' hpubc
  obtain ⟨E, hE⟩ := hid_ex (Sg.e R P bs)
  rw [hE.out] at hx1 le
  have htimes : Hid (∀ w, Calls Tryz.prog 129 #[.int .u64 (E : Int), .int .u64 (secret : Int)] w fun e w' => e = .returned (.int .u64 (Sg.x secret bs : Int)) ∧ w = w') := fun w => by rw [hx1.out]; exact times08_any E secret w
  obtain ⟨X, hX⟩ := hid_ex (Sg.x secret bs)
  obtain ⟨S, hS⟩ := hid_ex (Sg.s secret bs)
  rw [hX.out] at htimes lx hs1
  rw [hS.out] at hs1 ls
  obtain ⟨v1, v2⟩ := sum_named o X S lo lx hs1
  have hord : Hid (∀ w, Calls Tryz.prog 131 #[] w fun e w' => e = .returned (.int .u64 2305843009213693950) ∧ w = w') := fun w => order08_any w
  have z1 : ¬ (2305843009213693950 : Int) = 0 := by decide
  go_enter Tryz.func66, Tryz.ntmps66
  go_wp2_with (fail)
  refine (m08_any B n c A bs _ hlen hn (by simp; omega) hr0).mono ?_
  rw [hm.out]
  rintro _ w2 ⟨rfl, hf2⟩
  go_wp2_with (fail)
  have hnew := Blk.new w2 25 #[.int .u64 (secret : Int), .int .u64 (m : Int)]
  have hrd : Rd (w2.alloc (.cells #[.int .u64 (secret : Int), .int .u64 (m : Int)] 25)) (w2.heap.size + 1) 1 (some ⟨w2.heap.size, 0, none⟩) 2 ([secret, m].map Wv) := by
    refine ⟨rfl, .inr ⟨w2.heap.size, 0, rfl, by omega, fun j u hu => ?_⟩⟩
    rw [hnew.cell]
    match j, hu with
    | 0, hu => simpa [Wv] using hu
    | 1, hu => simpa [Wv] using hu
  refine (secret02_any Sg.lNonce [secret, m] _ 2 2 _ _ rfl (by decide) (by omega) hrd (by simp; omega)).mono ?_
  rw [← honce.out]
  rintro _ w3 ⟨rfl, hf3⟩
  go_wp2_with (fail)
  refine (hpow.out _).mono ?_
  rintro _ _ ⟨rfl, k4, rfl⟩
  go_wp2_with (fail)
  refine (hpubc.out _).mono ?_
  rintro _ w4 ⟨rfl, hf4⟩
  have hz2 := hf2.size
  have hz3 := hf3.size
  have hz4 := hf4.size
  simp only [World.size_alloc] at hz2 hz3
  have hz4' : w3.heap.size ≤ w4.heap.size := hz4
  have hr4 := ((((hr0.fr hf2 (fun _ _ e => e)).alloc (.cells #[.int .u64 (secret : Int), .int .u64 (m : Int)] 25)).fr hf3 (fun _ _ e => e)).drewN k4).fr hf4 (fun _ _ e => e)
  go_wp2_with (fail)
  refine (e08_any R P B n c A bs w4 (by omega) (by omega) hlen hn (by omega) hr4).mono ?_
  rw [hE.out]
  rintro _ w5 ⟨rfl, hf5⟩
  go_wp2_with (fail)
  refine (htimes.out _).mono ?_
  rintro _ _ ⟨rfl, rfl⟩
  unfold Hid at hord
  generalize (2305843009213693950 : Int) = M at *
  have hord' := Lib.hid hord
  clear hord
  go_wp2_with (fail)
  refine (hord'.out _).mono ?_
  rintro _ _ ⟨rfl, rfl⟩
  have hb6 := (((((hb0.fr hf2 (fun e => e)).alloc (.cells #[.int .u64 (secret : Int), .int .u64 (m : Int)] 25)).fr hf3 (fun e => e)).drewN k4).fr hf4 (fun e => e)).fr hf5 (fun e => e)
  have hff := (((((hf0.trans hf2 (fun _ _ e => e)).alloc (.cells #[.int .u64 (secret : Int), .int .u64 (m : Int)] 25)).trans hf3 (fun _ _ e => e)).drewN k4).trans hf4 (fun _ _ e => e)).trans hf5 (fun _ _ e => e)
  have hc0 := hb6.cell 0
  have hc1 := hb6.cell 1
  have hz0 := hb6.frozen 0
  have hz1 := hb6.frozen 1
  go_wp2
  refine ret_blk rfl rfl ((hb6.set 0 _).set 1 _) rfl Tryz.underlying33 (by kernel_rfl) rfl ⟨?_, (hff.setNew (Nat.le_refl _) _ _).setNew (Nat.le_refl _) _ _⟩
  rw [hR.out, hS.out]
  rfl
end Go.Proofs.YthmlaigpdpdpjaaGreatDoor
