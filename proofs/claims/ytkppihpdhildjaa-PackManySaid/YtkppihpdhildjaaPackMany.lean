/-
  Layer 4, PackMany: how many of something follow is read just if it is from 0 to what is allowed; a number of the field is read as one still.
  Condition: none.
-/
import Derived.Test.YtkppihpdhildjaaPackPut
import Derived.Test.YtkppihpdhildjaaOpenAny
import Derived.Test.YtkppihpdhildjaaPackIn2
namespace Go.Proofs.Ytkppihpdhildjaa
open Go.RowKit

namespace Pk
def fieldNum (u : Nat) : Nat := u % 2305843009213693951
theorem fieldNum_lt (u : Nat) : fieldNum u < 2305843009213693951 := Nat.mod_lt _ (by omega)
end Pk

set_option maxRecDepth 100000 in
theorem fieldNum_any (u : Nat) (w : World) (hu : u < 18446744073709551616) :
    Calls Try.prog 28 #[.int .u64 (u : Int)] w fun e w' => e = .returned (.int .u64 (Pk.fieldNum u : Int)) ∧ w = w' := by
  have hm : bits .and .u64 (u : Int) 2305843009213693951 = ((u % 2305843009213693952 : Nat) : Int) := by
    have := u64_and_nat u 2305843009213693951 hu (by omega)
    rw [show (u &&& 2305843009213693951) = u % 2305843009213693952 from Nat.and_two_pow_sub_one_eq_mod u 61] at this
    exact this
  obtain ⟨x, hx⟩ := hid_ex (u % 2305843009213693952)
  rw [hx.out] at hm
  have hxl : x < 2305843009213693952 := by rw [← hx.out]; omega
  have hw1 : IntKind.u64.wrap ((x : Int) + (u : Int) / 2305843009213693952) = (x : Int) + (u : Int) / 2305843009213693952 := IntWalk.u64_in _ ⟨by omega, by omega⟩
  by_cases h : (2305843009213693951 : Int) ≤ (x : Int) + (u : Int) / 2305843009213693952
  · have hw2 : IntKind.u64.wrap ((x : Int) + (u : Int) / 2305843009213693952 - 2305843009213693951) = (x : Int) + (u : Int) / 2305843009213693952 - 2305843009213693951 := IntWalk.u64_in _ ⟨by omega, by omega⟩
    have hs : Hid ((x : Int) + (u : Int) / 2305843009213693952 - 2305843009213693951 = (Pk.fieldNum u : Int)) := by
      show _ = _
      unfold Pk.fieldNum
      rw [← hx.out] at *
      omega
    go_enter Try.func28, Try.ntmps28
    generalize (2305843009213693951 : Int) = P at *
    clear hxl
    go_wp2
    go_ret
    exact ⟨congrArg (fun z => Ending.returned (.int .u64 z)) hs.out, rfl⟩
  · have hs : Hid ((x : Int) + (u : Int) / 2305843009213693952 = (Pk.fieldNum u : Int)) := by
      show _ = _
      unfold Pk.fieldNum
      rw [← hx.out] at *
      omega
    go_enter Try.func28, Try.ntmps28
    generalize (2305843009213693951 : Int) = P at *
    clear hxl
    go_wp2
    go_ret
    exact ⟨congrArg (fun z => Ending.returned (.int .u64 z)) hs.out, rfl⟩

theorem fieldOk_any (u : Nat) (w : World) (hu : u < 2305843009213693951) :
    Calls Try.prog 30 #[.int .u64 (u : Int)] w fun e w' => e = .returned (.bool true) ∧ w = w' := by
  go_enter Try.func30, Try.ntmps30
  go_wp2
  go_ret
  exact ⟨congrArg (fun z => Ending.returned (.bool z)) (show _ = true from decide_eq_true (by omega)), rfl⟩

namespace Pk
theorem rdInt_int {bs : List UInt8} {a : Nat} {n : Int} {r : List UInt8} (h0 : -9223372036854775808 ≤ n) (h1 : n ≤ 9223372036854775807) (h : bs.drop a = int n ++ r) : rdInt bs a 0 = (n, a + (int n).length, 0) := by
  unfold rdInt
  rw [rd_num (fold_lt h0 h1) h, unfold_fold]
  rfl
theorem rdMany_yes {n M : Int} (h0 : 0 ≤ n) (h1 : n ≤ 9223372036854775807) (hM : n ≤ M) : rdMany (int n) 0 0 M = (n, (int n).length, 0) := by
  unfold rdMany
  rw [rdInt_int (r := []) (by omega) h1 (by simp), if_neg (by show ¬ (n < 0 ∨ M < n); omega), Nat.zero_add]
theorem rdMany_no {n M : Int} (h0 : -9223372036854775808 ≤ n) (h1 : n ≤ 9223372036854775807) (hM : n < 0 ∨ M < n) : rdMany (int n) 0 0 M = (0, 0, 7) := by
  unfold rdMany
  rw [rdInt_int (r := []) h0 h1 (by simp), if_pos (show (n < 0 ∨ M < n) from hM)]
end Pk

attribute [local go_sem ↓] Go.wp_at_zero Go.wp_at_succ

set_option maxRecDepth 100000 in
set_option maxHeartbeats 4000000 in
theorem many_any (n most : Int) (u : Nat) (w : World) (n0 : -9223372036854775808 ≤ n) (n1 : n ≤ 9223372036854775807) (m0 : -9223372036854775808 ≤ most) (m1 : most ≤ 9223372036854775807) (hu : u < 18446744073709551616) :
    Calls Try.prog 7 #[.int .i64 n, .int .i64 most, .int .u64 (u : Int)] w (LivesPost w) := by
  go_enter Try.func7, Try.ntmps7
  go_wp2_with (fail)
  refine (around_any most 2147483648 _ m0 m1 (by omega) (by omega)).mono ?_
  have hk := around_bd (n := most) (m := 2147483648) (by omega)
  rintro _ w1 ⟨rfl, rfl⟩
  have hk0 := hk.1
  have hk1 := hk.2
  generalize around most 2147483648 = K at *
  go_wp2_with (fail)
  all_goals
    go_loopw [8] (fun v wr => ∃ (i : Nat) (x y z : Int), v = .int .i64 (i : Int) ∧ i ≤ 3 ∧ (0 ≤ x ∧ x ≤ 2147483648) ∧ (0 ≤ y ∧ y ≤ 2147483648) ∧ (0 ≤ z ∧ z ≤ 2147483648) ∧ Blk wr w.heap.size 3 #[.int .i64 x, .int .i64 y, .int .i64 z] ∧ Fr Non w wr) (fun v _ => 3 - (intOf v).toNat)
    case atStart => exact ⟨0, _, _, _, rfl, by omega, by omega, by omega, by omega, Blk.new _ _ _, (Fr.refl _ _).alloc _⟩
    case round =>
      obtain ⟨i, x, y, z, rfl, hi, hx', hy, hz, hb, hf⟩ := hrel
      by_cases hlt : i < 3
      · obtain ⟨M, hM, hM0, hM1⟩ : ∃ M : Int, wr.cell? ⟨w.heap.size, i, none⟩ = some (.int .i64 M) ∧ 0 ≤ M ∧ M ≤ 2147483648 := by
          rw [hb.cell i]
          have : i = 0 ∨ i = 1 ∨ i = 2 := by omega
          rcases this with rfl | rfl | rfl <;> exact ⟨_, rfl, by omega, by omega⟩
        have hlt' : (i : Int) < 3 := by omega
        have hbl := hb.lt
        have hs := hf.size
        have ho0 : OutAt (wr.alloc (.cells #[.slice none 0 0] 26)) wr.heap.size wr.heap.size none 0 [] := ⟨Blk.new wr _ _, Own.nil _ _ _ _, Nat.le_refl _⟩
        have hl10 := Pk.int_len n
        go_wp2_with (fail)
        refine (outInt_any _ _ _ _ [] n _ ho0 n0 n1 (by simp)).mono ?_
        rintro _ w1 ⟨rfl, A1, c1, ho1, hst1⟩
        rw [List.nil_append] at ho1
        obtain ⟨L, hL⟩ := hid_ex (Pk.int n)
        rw [hL.out] at ho1 hl10
        have hb1 := (hb.alloc (.cells #[.slice none 0 0] 26)).fr hst1.fr (ho0.not (Nat.le_refl _) _ hbl)
        have hf1 := (hf.alloc (.cells #[.slice none 0 0] 26)).trans hst1.fr (fun q hq e => by
          rcases e with e | e
          · omega
          · cases e)
        have hs1 := hst1.fr.size
        simp at hs1
        go_wp2_with (fail)
        refine (outBytes_any _ _ _ _ _ _ ho1 (by omega)).mono ?_
        rintro _ w2 ⟨A2, c2, rfl, hown2, hf2⟩
        have hs2 := hf2.size
        have hb2 := hb1.fr hf2 (fun e => e)
        have ho2 := ho1.fr hf2 (fun e => e) (fun _ _ e => e)
        have hol := ho2.lt
        go_wp2_with (fail)
        refine (opened_any w2.heap.size L.length c2 A2 L w2 rfl hown2.rd (by omega)).mono ?_
        rintro _ w3 ⟨g, A3, c3, rfl, hin3, hown3, hf3, hg3, hrg3, hL62⟩
        have hs3 := hf3.size
        have hb3 := hb2.fr hf3 (fun e => e)
        have ho3 := ho2.fr hf3 (fun e => e) (fun _ _ e => e)
        have hi3 := inAt_of hin3 hown3 hrg3 hL62
        have hgl := hi3.lt
        have hM3 : w3.cell? ⟨w.heap.size, i, none⟩ = some (.int .i64 M) := by rw [hb3.cell i, ← hb.cell i]; exact hM
        have hbg : w.heap.size < g := by omega
        have hog : wr.heap.size < g := by omega
        have hrow3 := ho1.2.1.row
        by_cases hr : 0 ≤ n ∧ n ≤ M
        · obtain ⟨hr0, hr1⟩ := hr
          try (exfalso; omega)
          all_goals
            have hx : Hid (Pk.rdMany L 0 0 M = (n, L.length, 0)) := by rw [← hL.out]; exact Pk.rdMany_yes hr0 n1 hr1
            go_wp2_with (fail)
            refine (inMany_any g g L 0 0 M n L.length 0 _ hi3 hx).mono ?_
            rintro _ w4 ⟨rfl, hin4, hf4⟩
            have hb4 := hb3.fr hf4 (by unfold One; omega)
            have hff4 := ((hf1.trans hf2 (fun _ _ e => e)).trans hf3 (fun _ _ e => e)).trans hf4 (fun k hk e => by unfold One at e; omega)
            go_wp2_with (fail)
            refine (inErr_any g g L L.length 0 _ hin4).mono ?_
            rintro _ _ ⟨rfl, rfl⟩
            go_wp2_with (fail)
            refine (inLeft_any g g L L.length 0 _ hin4).mono ?_
            rintro _ w5 ⟨rfl, hin5, hf5⟩
            rw [Nat.sub_self]
            go_wp2
            go_roundw
            case rel => exact ⟨i + 1, x, y, z, by go_num, by omega, hx', hy, hz, hb4.fr hf5 (by unfold One; omega), hff4.trans hf5 (fun k hk e => by unfold One at e; omega)⟩
            case measure => simp [intOf]; omega
        · have hx : Hid (Pk.rdMany L 0 0 M = (0, 0, 7)) := by rw [← hL.out]; exact Pk.rdMany_no n0 n1 (by omega)
          have hor : (0 ≤ n ∧ M < n) ∨ n < 0 := by omega
          clear hr
          rcases hor with ⟨hr0, hr1⟩ | hr0
          all_goals try (exfalso; omega)
          all_goals
            go_wp2_with (fail)
            refine (inMany_any g g L 0 0 M 0 0 7 _ hi3 hx).mono ?_
            rintro _ w4 ⟨rfl, hin4, hf4⟩
            have hb4 := hb3.fr hf4 (by unfold One; omega)
            have ho4 := ho3.fr hf4 (by unfold One; omega) (fun k hk e => by have := hrow3 k hk; unfold One at e; omega)
            have hff4 := ((hf1.trans hf2 (fun _ _ e => e)).trans hf3 (fun _ _ e => e)).trans hf4 (fun k hk e => by unfold One at e; omega)
            go_wp2_with (fail)
            refine (inErr_any g g L 0 7 _ hin4).mono ?_
            rintro _ _ ⟨rfl, rfl⟩
            go_wp2_with (fail)
            refine (inLeft_any g g L 0 7 _ hin4).mono ?_
            rintro _ w5 ⟨rfl, hin5, hf5⟩
            rw [Nat.sub_zero]
            have ho5 := ho4.fr hf5 (by unfold One; omega) (fun k hk e => by have := hrow3 k hk; unfold One at e; omega)
            go_wp2_with (fail)
            refine (outBytes_any _ _ _ _ _ _ ho5 (by omega)).mono ?_
            rintro _ w6 ⟨A6, c6, rfl, hown6, hf6⟩
            go_wp2
            go_roundw
            case rel => exact ⟨i + 1, x, y, z, by go_num, by omega, hx', hy, hz, (hb4.fr hf5 (by unfold One; omega)).fr hf6 (fun e => e), (hff4.trans hf5 (fun k hk e => by unfold One at e; omega)).trans hf6 (fun _ _ e => e)⟩
            case measure => simp [intOf]; omega
      · clear hx' hy hz hb hi
        have hs := hf.size
        have ho0 : OutAt (wr.alloc (.cells #[.slice none 0 0] 26)) wr.heap.size wr.heap.size none 0 [] := ⟨Blk.new wr _ _, Own.nil _ _ _ _, Nat.le_refl _⟩
        have hfn := Pk.fieldNum_lt u
        go_wp2_with (fail)
        refine (fieldNum_any u _ hu).mono ?_
        rintro _ _ ⟨rfl, rfl⟩
        obtain ⟨v, hv⟩ := hid_ex (Pk.fieldNum u)
        rw [hv.out] at hfn
        rw [hv.out]
        go_wp2_with (fail)
        refine (outNum_any _ _ _ _ [] v _ ho0 (by omega) (by simp)).mono ?_
        rintro _ w1 ⟨rfl, A1, c1, ho1, hst1⟩
        rw [List.nil_append] at ho1
        have hl10 := Pk.num_len v
        obtain ⟨L, hL⟩ := hid_ex (Pk.num v)
        rw [hL.out] at ho1 hl10
        have hf1 := (hf.alloc (.cells #[.slice none 0 0] 26)).trans hst1.fr (fun q hq e => by
          rcases e with e | e
          · omega
          · cases e)
        go_wp2_with (fail)
        refine (outBytes_any _ _ _ _ _ _ ho1 (by omega)).mono ?_
        rintro _ w2 ⟨A2, c2, rfl, hown2, hf2⟩
        go_wp2_with (fail)
        refine (opened_any w2.heap.size L.length c2 A2 L w2 rfl hown2.rd (by omega)).mono ?_
        rintro _ w3 ⟨g, A3, c3, rfl, hin3, hown3, hf3, hg3, hrg3, hL62⟩
        have hi3 := inAt_of hin3 hown3 hrg3 hL62
        have hgl := hi3.lt
        have hs3 := ((hf1.trans hf2 (fun _ _ e => e)).size)
        have hx : Hid (Pk.rd L 0 0 = (v, L.length, 0)) := by
          show _ = _
          rw [← hL.out, Pk.rd_num (r := []) (n := v) (by omega) (by simp), Nat.zero_add]
        go_wp2_with (fail)
        refine (inNum_any g g L 0 0 v L.length 0 _ hi3 hx).mono ?_
        rintro _ w4 ⟨rfl, hin4, hf4⟩
        go_wp2_with (fail)
        refine (fieldNum_any u _ hu).mono ?_
        rintro _ _ ⟨rfl, rfl⟩
        rw [hv.out]
        go_wp2_with (fail)
        refine (fieldOk_any v _ (by omega)).mono ?_
        rintro _ _ ⟨rfl, rfl⟩
        go_wp2_with (fail)
        refine (inEnd_any g g L L.length 0 _ hin4).mono ?_
        rintro _ w5 ⟨rfl, hin5, hf5⟩
        have he : Pk.endE L L.length 0 = 0 := by unfold Pk.endE; rw [if_neg (by omega)]
        rw [he]
        go_wp2_with (fail)
        refine (lives_any _).mono ?_
        rintro _ w6 ⟨rfl, hf6⟩
        go_wp2
        go_ret
        exact ⟨rfl, ((((hf1.trans hf2 (fun _ _ e => e)).trans hf3 (fun _ _ e => e)).trans hf4 (fun k hk e => by unfold One at e; omega)).trans hf5 (fun k hk e => by unfold One at e; omega)).trans hf6 (fun _ _ e => e)⟩
end Go.Proofs.Ytkppihpdhildjaa
