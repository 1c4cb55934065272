/-
  bits.Div64 by P - 1: the remainder.
  Conditions: the upper half is below P - 1.
-/
import Derived.Test.YtlcomikbmbnddaaLen64
import Derived.Test.YtlcomikbmbnddaaField
namespace Go.Proofs.Ytlcomikbmbnddaa
open Go.RowKit
attribute [local go_sem ↓] Go.wp_at_zero Go.wp_at_succ

def DivPost (r : Nat) (w : World) (e : Ending) (w' : World) : Prop := (∃ q, e = .returned (.tuple #[.int .u64 q, .int .u64 (r : Int)])) ∧ w = w'

namespace Dv
theorem and_y : bits .and .u64 18446744073709551600 4294967295 = 4294967280 := by decide +kernel
theorem or_u {hi lo u : Nat} (hu : Hid (hi * 8 + lo / 2305843009213693952 = u)) (hhi8 : hi * 8 < 18446744073709551600) (hlo : lo < 18446744073709551616) : bits .or .u64 ((hi : Int) * 8) ((lo : Int) / 2305843009213693952) = (u : Int) := by
  have e1 : (hi : Int) * 8 = ((hi * 8 : Nat) : Int) := by omega
  have e2 : (lo : Int) / 2305843009213693952 = ((lo / 2305843009213693952 : Nat) : Int) := by omega
  have h := nat_join 3 (hi * 8) (lo / 2305843009213693952) (by omega) (by omega)
  rw [e1, e2, u64_or_nat _ _ (by omega) (by omega), h, hu.out]
theorem wrap_t {lo t : Nat} (ht : Hid (lo * 8 % 18446744073709551616 = t)) : IntKind.u64.wrap ((lo : Int) * 8) = (t : Int) := by rw [← ht.out, IntKind.wrap_u64]; omega
/-- A digit that is still too great, or right. -/
def Top (u t q s : Nat) : Prop := q * 4294967295 + s = u ∧ s < 4294967296 ∧ (u * 4294967296 + t) / 18446744073709551600 ≤ q
theorem top0 {u t : Nat} (hu : u < 18446744073709551600) (ht : t < 4294967296) : Top u t (u / 4294967295) (u - u / 4294967295 * 4294967295) := by unfold Top; omega
set_option maxRecDepth 100000 in
theorem big {u t q s : Nat} (h : Top u t q s) (hu : u < 18446744073709551600) (ht : t < 4294967296) (hq : 4294967296 ≤ q) : (u * 4294967296 + t) / 18446744073709551600 ≤ q - 1 ∧ 0 < q := by unfold Top at h; omega
theorem over1 {u t q s : Nat} (h1 : q * 4294967295 + s = u) (hq : 4294967296 * s + t < q * 4294967280) : u * 4294967296 + t < q * 18446744073709551600 := by omega
theorem over2 {U q : Nat} (h : U < q * 18446744073709551600) : U / 18446744073709551600 ≤ q - 1 ∧ 0 < q := by
  have h1 : U / 18446744073709551600 < q := Nat.div_lt_of_lt_mul (by rw [Nat.mul_comm]; exact h)
  omega
theorem over {u t q s : Nat} (h : Top u t q s) (hq : 4294967296 * s + t < q * 4294967280) : (u * 4294967296 + t) / 18446744073709551600 ≤ q - 1 ∧ 0 < q := over2 (over1 h.1 hq)
theorem step (k d u : Nat) (h : (d + 1) * k + 0 = u) : d * k + k = u := by rw [← h, Nat.succ_mul, Nat.add_zero]
theorem next {u t q : Nat} (h : Top u t q 0) (h1 : (u * 4294967296 + t) / 18446744073709551600 ≤ q - 1) (h0 : 0 < q) : Top u t (q - 1) 4294967295 := by
  obtain ⟨d, rfl⟩ : ∃ d, q = d + 1 := ⟨q - 1, (Nat.succ_pred_eq_of_pos h0).symm⟩
  obtain ⟨h2, _, _⟩ := h
  rw [Nat.add_sub_cancel] at h1 ⊢
  exact And.intro (step _ _ _ h2) (And.intro (by decide) h1)
theorem out1 {u t q s : Nat} (h : Top u t q s) (ht : q * 4294967280 ≤ 4294967296 * s + t) : (u * 4294967296 + t) / 18446744073709551600 = q := by unfold Top at h; omega
theorem out2 {u t q s : Nat} (h : Top u t q s) (_hu : u < 18446744073709551600) (h1 : (u * 4294967296 + t) / 18446744073709551600 ≤ q - 1) (h0 : 0 < q) (hs : 0 < s) : (u * 4294967296 + t) / 18446744073709551600 = q - 1 := by unfold Top at h; omega
theorem top_q {u t q s : Nat} (h : Top u t q s) (hu : u < 18446744073709551600) : q ≤ 4294967297 := by unfold Top at h; omega
/-- What is left behind a digit. -/
theorem left {W V : Int} (hW : Hid (4294967296 = W)) (hV : Hid (18446744073709551600 = V)) {u t q z : Nat} (hq : (u * 4294967296 + t) / 18446744073709551600 = q) (hz : Hid (u * 4294967296 + t - q * 18446744073709551600 = z)) :
    IntKind.u64.wrap (IntKind.u64.wrap (IntKind.u64.wrap ((u : Int) * W) + (t : Int)) - IntKind.u64.wrap ((q : Int) * V)) = (z : Int) ∧ z < 18446744073709551600 := by
  rw [← hz.out, ← hW.out, ← hV.out]
  simp only [IntKind.wrap_u64]
  omega
theorem test {W W0 : Int} (hW : Hid (4294967296 = W)) (hW0 : Hid (4294967280 = W0)) {q s t1 : Nat} (hq : q < 4294967296) (hs : s < 4294967296) (ht : t1 < 4294967296) :
    ∃ A B C : Nat, (q : Int) < W ∧ IntKind.u64.wrap (W * (s : Int)) = (A : Int) ∧ IntKind.u64.wrap ((A : Int) + (t1 : Int)) = (B : Int) ∧ IntKind.u64.wrap ((q : Int) * W0) = (C : Int) ∧ (B < C ↔ 4294967296 * s + t1 < q * 4294967280) ∧ Hid (B = 4294967296 * s + t1) := by
  refine ⟨4294967296 * s, 4294967296 * s + t1, q * 4294967280, ?_, ?_, ?_, ?_, Iff.rfl, rfl⟩
  · rw [← hW.out]; omega
  · rw [← hW.out, IntKind.wrap_u64]; omega
  · rw [IntKind.wrap_u64]; omega
  · rw [← hW0.out, IntKind.wrap_u64]; omega
theorem inc {W W1 : Int} (hW : Hid (4294967296 = W)) (hW1 : Hid (4294967295 = W1)) {s : Nat} (hs0 : 0 < s) (hs : s < 4294967296) : ∃ S : Nat, IntKind.u64.wrap ((s : Int) + W1) = (S : Int) ∧ W ≤ (S : Int) := by
  refine ⟨s + 4294967295, ?_, ?_⟩
  · rw [← hW1.out, IntKind.wrap_u64]; omega
  · rw [← hW.out]; omega
theorem inc0 {W W1 : Int} (hW : Hid (4294967296 = W)) (hW1 : Hid (4294967295 = W1)) : IntKind.u64.wrap W1 = W1 ∧ W1 < W ∧ ¬ W1 = 0 := by
  rw [← hW.out, ← hW1.out, IntKind.wrap_u64]; omega
theorem quo {W1 : Int} (hW1 : Hid (4294967295 = W1)) {u q1 : Nat} (hu : u < 18446744073709551616) (hq1 : Hid (u / 4294967295 = q1)) : IntKind.u64.wrap ((u : Int).tdiv W1) = (q1 : Int) := by
  rw [← hW1.out, Int.tdiv_eq_ediv_of_nonneg (by omega), IntKind.wrap_u64, ← hq1.out]; omega
theorem rest {W1 : Int} (hW1 : Hid (4294967295 = W1)) {u q1 r1 : Nat} (_hu : u < 18446744073709551616) (hq1 : Hid (u / 4294967295 = q1)) (hr1 : Hid (u - u / 4294967295 * 4294967295 = r1)) : IntKind.u64.wrap ((u : Int) - IntKind.u64.wrap ((q1 : Int) * W1)) = (r1 : Int) := by
  rw [← hW1.out, IntKind.wrap_u64, IntKind.wrap_u64, ← hq1.out, ← hr1.out]; omega
theorem fin {hi lo u t t1 u0 q z q0 R : Nat} (hu : Hid (hi * 8 + lo / 2305843009213693952 = u)) (ht : Hid (lo * 8 % 18446744073709551616 = t)) (ht1 : Hid (t / 4294967296 = t1)) (hu0 : Hid (t % 4294967296 = u0)) (hq : Hid ((u * 4294967296 + t1) / 18446744073709551600 = q)) (hz : Hid (u * 4294967296 + t1 - q * 18446744073709551600 = z))
    (hq0 : (z * 4294967296 + u0) / 18446744073709551600 = q0) (hR : Hid (z * 4294967296 + u0 - q0 * 18446744073709551600 = R)) : R / 8 = (hi * 18446744073709551616 + lo) % 2305843009213693950 := by
  have e1 : 8 * (hi * 18446744073709551616 + lo) = u * 18446744073709551616 + t := by rw [← hu.out, ← ht.out]; omega
  have e4 : t = t1 * 4294967296 + u0 := by rw [← ht1.out, ← hu0.out]; omega
  have e2 : u * 4294967296 + t1 = q * 18446744073709551600 + z := by rw [← hz.out, ← hq.out]; omega
  have e3 : z * 4294967296 + u0 = q0 * 18446744073709551600 + R ∧ R < 18446744073709551600 := by rw [← hR.out]; omega
  clear hu ht hq hz hq0 hR ht1 hu0
  omega
theorem quoD {W1 : Int} (hW1 : Hid (4294967295 = W1)) {u q1 : Nat} (hu : u < 18446744073709551616) (hq1 : Hid (u / 4294967295 = q1)) : IntKind.u64.wrap ((u : Int) / W1) = (q1 : Int) := by
  rw [← hW1.out, IntKind.wrap_u64, ← hq1.out]; omega
end Dv

set_option maxRecDepth 100000 in
set_option maxHeartbeats 4000000 in
theorem div64_any (hi lo : Nat) (w : World) (hhi : hi < 2305843009213693950) (hlo : lo < 18446744073709551616) :
    Calls Try.prog 38 #[.int .u64 (hi : Int), .int .u64 (lo : Int), .int .u64 2305843009213693950] w (fun e w' => ∃ n, DivPost ((hi * 18446744073709551616 + lo) % 2305843009213693950) (w.drewN n) e w') := by
  by_cases h0 : hi = 0
  · have hz : ((hi : Int) == 0) = true := by simp [h0]
    have hM : (2305843009213693950 : Int) ≤ hi ↔ False := by simp; omega
    have hr : Hid ((hi * 18446744073709551616 + lo) % 2305843009213693950 = lo % 2305843009213693950) := by show _ = _; rw [h0]; simp
    clear h0
    rw [hr.out]
    go_enter Try.func38, Try.ntmps38
    go_wp2
    go_quiet (fail)
    go_wp2
    go_ret2
    exact ⟨nq, ⟨_, rfl⟩, rfl⟩
  · have hz : ((hi : Int) == 0) = false := by simp; omega
    have hM : (2305843009213693950 : Int) ≤ hi ↔ False := by simp; omega
    have hb1 := Dv.and_y
    obtain ⟨u, hu⟩ := hid_ex (hi * 8 + lo / 2305843009213693952)
    obtain ⟨t, ht⟩ := hid_ex (lo * 8 % 18446744073709551616)
    have hul : u < 18446744073709551600 := by rw [← hu.out]; omega
    have htl : t < 18446744073709551616 := by rw [← ht.out]; omega
    have hb2 := Dv.or_u hu (by omega) hlo
    have hwt := Dv.wrap_t ht
    obtain ⟨u0, hu0⟩ := hid_ex (t % 4294967296)
    have hb3 := M64.maskN t htl
    rw [hu0.out] at hb3
    obtain ⟨t1, ht1⟩ := hid_ex (t / 4294967296)
    have ht1l : t1 < 4294967296 := by rw [← ht1.out]; omega
    have hwt1 : (t : Int) / 4294967296 = (t1 : Int) := by rw [← ht1.out]; omega
    go_enter Try.func38, Try.ntmps38
    go_wp2_with (fail)
    refine (lz64_order _).mono ?_
    rintro _ _ ⟨rfl, rfl⟩
    go_wp2_with (fail)
    -- LOOPS
    clear hb1 hM hb3 hwt1
    generalize eW : (4294967296 : Int) = W at *
    have hW := Lib.hid eW
    clear eW
    generalize eW1 : (4294967295 : Int) = W1 at *
    have hW1 := Lib.hid eW1
    clear eW1
    generalize eW0 : (4294967280 : Int) = W0 at *
    have hW0 := Lib.hid eW0
    clear eW0
    generalize eV : (18446744073709551600 : Int) = V at *
    have hV := Lib.hid eV
    clear eV
    have hi0 := Dv.inc0 hW hW1
    have hi01 := hi0.1
    have hi02 := hi0.2.1
    have hi03 := hi0.2.2
    clear hi0
    go_loopw [15, 16] (fun v r wr => ∃ q s : Nat, v = .int .u64 (q : Int) ∧ r = .int .u64 (s : Int) ∧ Dv.Top u t1 q s ∧ wr = w) (fun v _ _ => (intOf v).toNat)
    case atStart => exact ⟨_, _, by rw [← hW1.out]; go_num, by rw [← hW1.out]; go_num, Dv.top0 hul ht1l, rfl⟩
    case round =>
      obtain ⟨q, s, rfl, rfl, htop, rfl⟩ := hrel
      have hql1 := Dv.top_q htop hul
      have hsl1 := htop.2.1
      rcases Nat.lt_or_ge q 4294967296 with hc1 | hc1
      · obtain ⟨A, B, C, hqW, hwA, hwB, hwC, hBC, hBe⟩ := Dv.test hW hW0 hc1 hsl1 ht1l
        by_cases hlt : B < C
        · have hlow1 := Dv.over htop (hBC.1 hlt)
          obtain ⟨d, rfl⟩ : ∃ d', q = d' + 1 := ⟨q - 1, by omega⟩
          clear hBC
          rw [show ((d + 1 : Nat) : Int) = (d : Int) + 1 from rfl] at hwC hqW
          by_cases hs : s = 0
          · subst hs
            have hB0 : t1 < C := by have h := hBe.out; omega
            have hnx1 := Lib.hid (Dv.next htop hlow1.1 hlow1.2)
            clear hlow1 htop
            go_wp2
            first
              | exact ⟨⟨d, 4294967295, by go_num, by rw [← hW1.out]; rfl, hnx1.out, by first | rfl | trivial⟩, by simp [intOf]⟩
              | (refine ⟨?_, by simp [intOf]⟩
                 repeat apply Exists.intro
                 apply (fun h2 h1 => And.intro h1 h2) rfl
                 exact ⟨d, 4294967295, by go_num, by rw [← hW1.out]; rfl, hnx1.out, by first | rfl | trivial⟩)
          · obtain ⟨S, hwS, hSW⟩ := Dv.inc hW hW1 (by omega) hsl1
            have hd := Dv.out2 htop hul hlow1.1 hlow1.2 (by omega)
            rw [Nat.add_sub_cancel] at hd
            clear hlow1 htop
            obtain ⟨z, hz'⟩ := hid_ex (u * 4294967296 + t1 - d * 18446744073709551600)
            have hlf := Dv.left hW hV hd hz'
            have hdh := Lib.hid hd
            clear hd
            have hwz := hlf.1
            have hzl := hlf.2
            have hu0l : u0 < 4294967296 := by rw [← hu0.out]; omega
            obtain ⟨q0, hq0⟩ := hid_ex (z / 4294967295)
            obtain ⟨r0, hr0⟩ := hid_ex (z - z / 4294967295 * 4294967295)
            have hwq0 := Dv.quoD hW1 (by omega) hq0
            have hwr0 := Dv.rest hW1 (by omega) hq0 hr0
            have htop0 := Dv.top0 hzl hu0l
            rw [hr0.out, hq0.out] at htop0
            go_wp2_with (fail)
            go_loopw [18, 16] (fun v r wy => ∃ q s : Nat, v = .int .u64 (q : Int) ∧ r = .int .u64 (s : Int) ∧ Dv.Top z u0 q s ∧ wy = wr) (fun v _ _ => (intOf v).toNat)
            case atStart => exact ⟨_, _, rfl, rfl, htop0, rfl⟩
            case round =>
              obtain ⟨q2, s2, rfl, rfl, htop2, rfl⟩ := hrel
              have hql2 := Dv.top_q htop2 hzl
              have hsl2 := htop2.2.1
              rcases Nat.lt_or_ge q2 4294967296 with hc2 | hc2
              · obtain ⟨A, B, C, hqW, hwA, hwB, hwC, hBC, hBe⟩ := Dv.test hW hW0 hc2 hsl2 hu0l
                by_cases hlt : B < C
                · have hlow2 := Dv.over htop2 (hBC.1 hlt)
                  obtain ⟨e0, rfl⟩ : ∃ d', q2 = d' + 1 := ⟨q2 - 1, by omega⟩
                  clear hBC
                  rw [show ((e0 + 1 : Nat) : Int) = (e0 : Int) + 1 from rfl] at hwC hqW
                  by_cases hs2 : s2 = 0
                  · subst hs2
                    have hB0 : u0 < C := by have h := hBe.out; omega
                    have hnx2 := Lib.hid (Dv.next htop2 hlow2.1 hlow2.2)
                    clear hlow2 htop2
                    go_wp2
                    first
                      | exact ⟨⟨e0, 4294967295, by go_num, by rw [← hW1.out]; rfl, hnx2.out, by first | rfl | trivial⟩, by simp [intOf]⟩
                      | (refine ⟨?_, by simp [intOf]⟩
                         repeat apply Exists.intro
                         apply (fun h2 h1 => And.intro h1 h2) rfl
                         exact ⟨e0, 4294967295, by go_num, by rw [← hW1.out]; rfl, hnx2.out, by first | rfl | trivial⟩)
                  · obtain ⟨S, hwS, hSW⟩ := Dv.inc hW hW1 (by omega) hsl2
                    have hd0 := Dv.out2 htop2 hzl hlow2.1 hlow2.2 (by omega)
                    rw [Nat.add_sub_cancel] at hd0
                    clear hlow2 htop2
                    obtain ⟨R, hR⟩ := hid_ex (z * 4294967296 + u0 - e0 * 18446744073709551600)
                    have hlf0 := Dv.left hW hV hd0 hR
                    have hwR := hlf0.1
                    have hfin := Dv.fin hu ht ht1 hu0 hdh hz' hd0 hR
                    have hfin' := Lib.hid hfin
                    clear hfin hlf0 hlf hd0
                    go_wp2
                    go_ret2
                    refine ⟨0, ⟨_, congrArg (fun z => Ending.returned (.tuple #[_, .int .u64 z])) ?_⟩, rfl⟩
                    rw [← hfin'.out]
                    omega
                · have hd0 := Dv.out1 htop2 (by omega)
                  clear htop2 hBC
                  obtain ⟨R, hR⟩ := hid_ex (z * 4294967296 + u0 - q2 * 18446744073709551600)
                  have hlf0 := Dv.left hW hV hd0 hR
                  have hwR := hlf0.1
                  have hfin := Dv.fin hu ht ht1 hu0 hdh hz' hd0 hR
                  have hfin' := Lib.hid hfin
                  clear hfin hlf0 hlf hd0
                  go_wp2
                  go_ret2
                  refine ⟨0, ⟨_, congrArg (fun z => Ending.returned (.tuple #[_, .int .u64 z])) ?_⟩, rfl⟩
                  rw [← hfin'.out]
                  omega
              · have hqW : W ≤ (q2 : Int) := by rw [← hW.out]; omega
                have hlow2 := Dv.big htop2 hzl hu0l hc2
                obtain ⟨e0, rfl⟩ : ∃ d', q2 = d' + 1 := ⟨q2 - 1, by omega⟩
                rw [show ((e0 + 1 : Nat) : Int) = (e0 : Int) + 1 from rfl] at hqW
                by_cases hs2 : s2 = 0
                · subst hs2
                  have hnx2 := Lib.hid (Dv.next htop2 hlow2.1 hlow2.2)
                  clear hlow2 htop2
                  go_wp2
                  first
                    | exact ⟨⟨e0, 4294967295, by go_num, by rw [← hW1.out]; rfl, hnx2.out, by first | rfl | trivial⟩, by simp [intOf]⟩
                    | (refine ⟨?_, by simp [intOf]⟩
                       repeat apply Exists.intro
                       apply (fun h2 h1 => And.intro h1 h2) rfl
                       exact ⟨e0, 4294967295, by go_num, by rw [← hW1.out]; rfl, hnx2.out, by first | rfl | trivial⟩)
                · obtain ⟨S, hwS, hSW⟩ := Dv.inc hW hW1 (by omega) hsl2
                  have hd0 := Dv.out2 htop2 hzl hlow2.1 hlow2.2 (by omega)
                  rw [Nat.add_sub_cancel] at hd0
                  clear hlow2 htop2
                  obtain ⟨R, hR⟩ := hid_ex (z * 4294967296 + u0 - e0 * 18446744073709551600)
                  have hlf0 := Dv.left hW hV hd0 hR
                  have hwR := hlf0.1
                  have hfin := Dv.fin hu ht ht1 hu0 hdh hz' hd0 hR
                  have hfin' := Lib.hid hfin
                  clear hfin hlf0 hlf hd0
                  go_wp2
                  go_ret2
                  refine ⟨0, ⟨_, congrArg (fun z => Ending.returned (.tuple #[_, .int .u64 z])) ?_⟩, rfl⟩
                  rw [← hfin'.out]
                  omega
        · have hd := Dv.out1 htop (by omega)
          clear htop hBC
          obtain ⟨z, hz'⟩ := hid_ex (u * 4294967296 + t1 - q * 18446744073709551600)
          have hlf := Dv.left hW hV hd hz'
          have hdh := Lib.hid hd
          clear hd
          have hwz := hlf.1
          have hzl := hlf.2
          have hu0l : u0 < 4294967296 := by rw [← hu0.out]; omega
          obtain ⟨q0, hq0⟩ := hid_ex (z / 4294967295)
          obtain ⟨r0, hr0⟩ := hid_ex (z - z / 4294967295 * 4294967295)
          have hwq0 := Dv.quoD hW1 (by omega) hq0
          have hwr0 := Dv.rest hW1 (by omega) hq0 hr0
          have htop0 := Dv.top0 hzl hu0l
          rw [hr0.out, hq0.out] at htop0
          go_wp2_with (fail)
          go_loopw [18, 16] (fun v r wy => ∃ q s : Nat, v = .int .u64 (q : Int) ∧ r = .int .u64 (s : Int) ∧ Dv.Top z u0 q s ∧ wy = wr) (fun v _ _ => (intOf v).toNat)
          case atStart => exact ⟨_, _, rfl, rfl, htop0, rfl⟩
          case round =>
            obtain ⟨q2, s2, rfl, rfl, htop2, rfl⟩ := hrel
            have hql2 := Dv.top_q htop2 hzl
            have hsl2 := htop2.2.1
            rcases Nat.lt_or_ge q2 4294967296 with hc2 | hc2
            · obtain ⟨A, B, C, hqW, hwA, hwB, hwC, hBC, hBe⟩ := Dv.test hW hW0 hc2 hsl2 hu0l
              by_cases hlt : B < C
              · have hlow2 := Dv.over htop2 (hBC.1 hlt)
                obtain ⟨e0, rfl⟩ : ∃ d', q2 = d' + 1 := ⟨q2 - 1, by omega⟩
                clear hBC
                rw [show ((e0 + 1 : Nat) : Int) = (e0 : Int) + 1 from rfl] at hwC hqW
                by_cases hs2 : s2 = 0
                · subst hs2
                  have hB0 : u0 < C := by have h := hBe.out; omega
                  have hnx2 := Lib.hid (Dv.next htop2 hlow2.1 hlow2.2)
                  clear hlow2 htop2
                  go_wp2
                  first
                    | exact ⟨⟨e0, 4294967295, by go_num, by rw [← hW1.out]; rfl, hnx2.out, by first | rfl | trivial⟩, by simp [intOf]⟩
                    | (refine ⟨?_, by simp [intOf]⟩
                       repeat apply Exists.intro
                       apply (fun h2 h1 => And.intro h1 h2) rfl
                       exact ⟨e0, 4294967295, by go_num, by rw [← hW1.out]; rfl, hnx2.out, by first | rfl | trivial⟩)
                · obtain ⟨S, hwS, hSW⟩ := Dv.inc hW hW1 (by omega) hsl2
                  have hd0 := Dv.out2 htop2 hzl hlow2.1 hlow2.2 (by omega)
                  rw [Nat.add_sub_cancel] at hd0
                  clear hlow2 htop2
                  obtain ⟨R, hR⟩ := hid_ex (z * 4294967296 + u0 - e0 * 18446744073709551600)
                  have hlf0 := Dv.left hW hV hd0 hR
                  have hwR := hlf0.1
                  have hfin := Dv.fin hu ht ht1 hu0 hdh hz' hd0 hR
                  have hfin' := Lib.hid hfin
                  clear hfin hlf0 hlf hd0
                  go_wp2
                  go_ret2
                  refine ⟨0, ⟨_, congrArg (fun z => Ending.returned (.tuple #[_, .int .u64 z])) ?_⟩, rfl⟩
                  rw [← hfin'.out]
                  omega
              · have hd0 := Dv.out1 htop2 (by omega)
                clear htop2 hBC
                obtain ⟨R, hR⟩ := hid_ex (z * 4294967296 + u0 - q2 * 18446744073709551600)
                have hlf0 := Dv.left hW hV hd0 hR
                have hwR := hlf0.1
                have hfin := Dv.fin hu ht ht1 hu0 hdh hz' hd0 hR
                have hfin' := Lib.hid hfin
                clear hfin hlf0 hlf hd0
                go_wp2
                go_ret2
                refine ⟨0, ⟨_, congrArg (fun z => Ending.returned (.tuple #[_, .int .u64 z])) ?_⟩, rfl⟩
                rw [← hfin'.out]
                omega
            · have hqW : W ≤ (q2 : Int) := by rw [← hW.out]; omega
              have hlow2 := Dv.big htop2 hzl hu0l hc2
              obtain ⟨e0, rfl⟩ : ∃ d', q2 = d' + 1 := ⟨q2 - 1, by omega⟩
              rw [show ((e0 + 1 : Nat) : Int) = (e0 : Int) + 1 from rfl] at hqW
              by_cases hs2 : s2 = 0
              · subst hs2
                have hnx2 := Lib.hid (Dv.next htop2 hlow2.1 hlow2.2)
                clear hlow2 htop2
                go_wp2
                first
                  | exact ⟨⟨e0, 4294967295, by go_num, by rw [← hW1.out]; rfl, hnx2.out, by first | rfl | trivial⟩, by simp [intOf]⟩
                  | (refine ⟨?_, by simp [intOf]⟩
                     repeat apply Exists.intro
                     apply (fun h2 h1 => And.intro h1 h2) rfl
                     exact ⟨e0, 4294967295, by go_num, by rw [← hW1.out]; rfl, hnx2.out, by first | rfl | trivial⟩)
              · obtain ⟨S, hwS, hSW⟩ := Dv.inc hW hW1 (by omega) hsl2
                have hd0 := Dv.out2 htop2 hzl hlow2.1 hlow2.2 (by omega)
                rw [Nat.add_sub_cancel] at hd0
                clear hlow2 htop2
                obtain ⟨R, hR⟩ := hid_ex (z * 4294967296 + u0 - e0 * 18446744073709551600)
                have hlf0 := Dv.left hW hV hd0 hR
                have hwR := hlf0.1
                have hfin := Dv.fin hu ht ht1 hu0 hdh hz' hd0 hR
                have hfin' := Lib.hid hfin
                clear hfin hlf0 hlf hd0
                go_wp2
                go_ret2
                refine ⟨0, ⟨_, congrArg (fun z => Ending.returned (.tuple #[_, .int .u64 z])) ?_⟩, rfl⟩
                rw [← hfin'.out]
                omega
      · have hqW : W ≤ (q : Int) := by rw [← hW.out]; omega
        have hlow1 := Dv.big htop hul ht1l hc1
        obtain ⟨d, rfl⟩ : ∃ d', q = d' + 1 := ⟨q - 1, by omega⟩
        rw [show ((d + 1 : Nat) : Int) = (d : Int) + 1 from rfl] at hqW
        by_cases hs : s = 0
        · subst hs
          have hnx1 := Lib.hid (Dv.next htop hlow1.1 hlow1.2)
          clear hlow1 htop
          go_wp2
          first
            | exact ⟨⟨d, 4294967295, by go_num, by rw [← hW1.out]; rfl, hnx1.out, by first | rfl | trivial⟩, by simp [intOf]⟩
            | (refine ⟨?_, by simp [intOf]⟩
               repeat apply Exists.intro
               apply (fun h2 h1 => And.intro h1 h2) rfl
               exact ⟨d, 4294967295, by go_num, by rw [← hW1.out]; rfl, hnx1.out, by first | rfl | trivial⟩)
        · obtain ⟨S, hwS, hSW⟩ := Dv.inc hW hW1 (by omega) hsl1
          have hd := Dv.out2 htop hul hlow1.1 hlow1.2 (by omega)
          rw [Nat.add_sub_cancel] at hd
          clear hlow1 htop
          obtain ⟨z, hz'⟩ := hid_ex (u * 4294967296 + t1 - d * 18446744073709551600)
          have hlf := Dv.left hW hV hd hz'
          have hdh := Lib.hid hd
          clear hd
          have hwz := hlf.1
          have hzl := hlf.2
          have hu0l : u0 < 4294967296 := by rw [← hu0.out]; omega
          obtain ⟨q0, hq0⟩ := hid_ex (z / 4294967295)
          obtain ⟨r0, hr0⟩ := hid_ex (z - z / 4294967295 * 4294967295)
          have hwq0 := Dv.quoD hW1 (by omega) hq0
          have hwr0 := Dv.rest hW1 (by omega) hq0 hr0
          have htop0 := Dv.top0 hzl hu0l
          rw [hr0.out, hq0.out] at htop0
          go_wp2_with (fail)
          go_loopw [18, 16] (fun v r wy => ∃ q s : Nat, v = .int .u64 (q : Int) ∧ r = .int .u64 (s : Int) ∧ Dv.Top z u0 q s ∧ wy = wr) (fun v _ _ => (intOf v).toNat)
          case atStart => exact ⟨_, _, rfl, rfl, htop0, rfl⟩
          case round =>
            obtain ⟨q2, s2, rfl, rfl, htop2, rfl⟩ := hrel
            have hql2 := Dv.top_q htop2 hzl
            have hsl2 := htop2.2.1
            rcases Nat.lt_or_ge q2 4294967296 with hc2 | hc2
            · obtain ⟨A, B, C, hqW, hwA, hwB, hwC, hBC, hBe⟩ := Dv.test hW hW0 hc2 hsl2 hu0l
              by_cases hlt : B < C
              · have hlow2 := Dv.over htop2 (hBC.1 hlt)
                obtain ⟨e0, rfl⟩ : ∃ d', q2 = d' + 1 := ⟨q2 - 1, by omega⟩
                clear hBC
                rw [show ((e0 + 1 : Nat) : Int) = (e0 : Int) + 1 from rfl] at hwC hqW
                by_cases hs2 : s2 = 0
                · subst hs2
                  have hB0 : u0 < C := by have h := hBe.out; omega
                  have hnx2 := Lib.hid (Dv.next htop2 hlow2.1 hlow2.2)
                  clear hlow2 htop2
                  go_wp2
                  first
                    | exact ⟨⟨e0, 4294967295, by go_num, by rw [← hW1.out]; rfl, hnx2.out, by first | rfl | trivial⟩, by simp [intOf]⟩
                    | (refine ⟨?_, by simp [intOf]⟩
                       repeat apply Exists.intro
                       apply (fun h2 h1 => And.intro h1 h2) rfl
                       exact ⟨e0, 4294967295, by go_num, by rw [← hW1.out]; rfl, hnx2.out, by first | rfl | trivial⟩)
                · obtain ⟨S, hwS, hSW⟩ := Dv.inc hW hW1 (by omega) hsl2
                  have hd0 := Dv.out2 htop2 hzl hlow2.1 hlow2.2 (by omega)
                  rw [Nat.add_sub_cancel] at hd0
                  clear hlow2 htop2
                  obtain ⟨R, hR⟩ := hid_ex (z * 4294967296 + u0 - e0 * 18446744073709551600)
                  have hlf0 := Dv.left hW hV hd0 hR
                  have hwR := hlf0.1
                  have hfin := Dv.fin hu ht ht1 hu0 hdh hz' hd0 hR
                  have hfin' := Lib.hid hfin
                  clear hfin hlf0 hlf hd0
                  go_wp2
                  go_ret2
                  refine ⟨0, ⟨_, congrArg (fun z => Ending.returned (.tuple #[_, .int .u64 z])) ?_⟩, rfl⟩
                  rw [← hfin'.out]
                  omega
              · have hd0 := Dv.out1 htop2 (by omega)
                clear htop2 hBC
                obtain ⟨R, hR⟩ := hid_ex (z * 4294967296 + u0 - q2 * 18446744073709551600)
                have hlf0 := Dv.left hW hV hd0 hR
                have hwR := hlf0.1
                have hfin := Dv.fin hu ht ht1 hu0 hdh hz' hd0 hR
                have hfin' := Lib.hid hfin
                clear hfin hlf0 hlf hd0
                go_wp2
                go_ret2
                refine ⟨0, ⟨_, congrArg (fun z => Ending.returned (.tuple #[_, .int .u64 z])) ?_⟩, rfl⟩
                rw [← hfin'.out]
                omega
            · have hqW : W ≤ (q2 : Int) := by rw [← hW.out]; omega
              have hlow2 := Dv.big htop2 hzl hu0l hc2
              obtain ⟨e0, rfl⟩ : ∃ d', q2 = d' + 1 := ⟨q2 - 1, by omega⟩
              rw [show ((e0 + 1 : Nat) : Int) = (e0 : Int) + 1 from rfl] at hqW
              by_cases hs2 : s2 = 0
              · subst hs2
                have hnx2 := Lib.hid (Dv.next htop2 hlow2.1 hlow2.2)
                clear hlow2 htop2
                go_wp2
                first
                  | exact ⟨⟨e0, 4294967295, by go_num, by rw [← hW1.out]; rfl, hnx2.out, by first | rfl | trivial⟩, by simp [intOf]⟩
                  | (refine ⟨?_, by simp [intOf]⟩
                     repeat apply Exists.intro
                     apply (fun h2 h1 => And.intro h1 h2) rfl
                     exact ⟨e0, 4294967295, by go_num, by rw [← hW1.out]; rfl, hnx2.out, by first | rfl | trivial⟩)
              · obtain ⟨S, hwS, hSW⟩ := Dv.inc hW hW1 (by omega) hsl2
                have hd0 := Dv.out2 htop2 hzl hlow2.1 hlow2.2 (by omega)
                rw [Nat.add_sub_cancel] at hd0
                clear hlow2 htop2
                obtain ⟨R, hR⟩ := hid_ex (z * 4294967296 + u0 - e0 * 18446744073709551600)
                have hlf0 := Dv.left hW hV hd0 hR
                have hwR := hlf0.1
                have hfin := Dv.fin hu ht ht1 hu0 hdh hz' hd0 hR
                have hfin' := Lib.hid hfin
                clear hfin hlf0 hlf hd0
                go_wp2
                go_ret2
                refine ⟨0, ⟨_, congrArg (fun z => Ending.returned (.tuple #[_, .int .u64 z])) ?_⟩, rfl⟩
                rw [← hfin'.out]
                omega
end Go.Proofs.Ytlcomikbmbnddaa
