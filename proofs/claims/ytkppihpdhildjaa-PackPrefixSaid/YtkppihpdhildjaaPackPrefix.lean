/-
  Layer 4, PackPrefix: no beginning of what is written is whole, and behind something wrong nothing is read any more.
  Condition: none.
-/
import Derived.Test.YtkppihpdhildjaaPackBack
import Derived.Test.YtkppihpdhildjaaOpenAny
namespace Go.Proofs.Ytkppihpdhildjaa
open Go.RowKit
attribute [local go_sem ↓] Go.wp_at_zero Go.wp_at_succ

namespace Pk
theorem rdText_9 (bs : List UInt8) (a : Nat) : rdText bs a 9 = ([], a, 9) := by
  unfold rdText; rw [rd_9, if_pos (by show (9 : Int) ≠ 0; omega)]
theorem rdBool_9 (bs : List UInt8) (a : Nat) : rdBool bs a 9 = (false, a, 9) := by
  unfold rdBool; rw [rd_9]; rfl
theorem putO_pos (d n : Int) (s : List UInt8) : 0 < (putO d n s).length := by
  unfold putO name ident int text bool
  have h1 := num_pos (Go.Proofs.Ytkppihpdhildjaa.u64 n)
  repeat' split
  all_goals try simp only [List.length_append]
  all_goals first | exact num_pos _ | (have := num_pos (fold (n.tmod 13)); omega) | (unfold int; have := num_pos (fold ((s.take 40).length : Int)); omega)
end Pk

set_option maxRecDepth 100000 in
set_option maxHeartbeats 4000000 in
theorem prefix_any (d n : Int) (s : List UInt8) (at_ : Int) (w : World) (d0 : -9223372036854775808 ≤ d) (d1 : d ≤ 9223372036854775807) (h0 : -9223372036854775808 ≤ n) (h1 : n ≤ 9223372036854775807) (hs : s.length ≤ 9223372036854775807)
    (a0 : -9223372036854775808 ≤ at_) (a1 : at_ ≤ 9223372036854775807) :
    Calls Try.prog 10 #[OV d n s, .int .i64 at_] w (LivesPost w) := by
  unfold OV
  have hb0 := Blk.new w 35 #[.int .i64 d, .int .i64 n, .string (str s)]
  have c0 := hb0.cell 0
  have c1' := hb0.cell 1
  have c2 := hb0.cell 2
  have hff : Fr Non w (w.alloc (.cells #[.int .i64 d, .int .i64 n, .string (str s)] 35)) := (Fr.refl _ _).alloc _
  obtain ⟨K, hK⟩ := hid_ex (around d 7)
  obtain ⟨T, hT⟩ := hid_ex (Pk.putO d n s)
  have hput : Hid (T = if K = 4 then Pk.num (Go.Proofs.Ytkppihpdhildjaa.u64 n) else if K = 5 then Pk.name n else if K = 6 then Pk.int (around n 21)
    else if K = 2 then Pk.text (s.take 40) else if K = 3 then Pk.bool (n % 2 == 0) else Pk.int n) := by show _ = _; rw [← hT.out]; unfold Pk.putO; rw [hK.out]
  have hT1 : 0 < T.length := by rw [← hT.out]; exact Pk.putO_pos d n s
  have hT50 : T.length ≤ 50 := by rw [← hT.out]; exact Pk.putO_len d n s
  have hRb := around_bd (n := at_) (m := (T.length : Int)) (by omega)
  obtain ⟨kk, hkk⟩ : ∃ kk : Nat, around at_ (T.length : Int) = (kk : Int) := ⟨(around at_ (T.length : Int)).toNat, by omega⟩
  have hkT : kk < T.length := by omega
  have hR := Lib.hid hkk
  clear hkk hRb
  obtain ⟨X, hX⟩ := hid_ex (T.take kk)
  have hXl : Hid (X.length = kk) := by show _ = _; rw [← hX.out, List.length_take]; omega
  have hse : str [] = ByteArray.mk #[] := rfl
  rcases kinds K with hk | ⟨k1', hk⟩ | ⟨k1', k2', hk⟩ | ⟨k1', k2', k3', hk⟩ | ⟨k1', k2', k3', k4', hk⟩ | ⟨k1', k2', k3', k4', hk⟩
  · have hp : Hid (T = Pk.num (Go.Proofs.Ytkppihpdhildjaa.u64 n)) := by show _ = _; rw [hput.out, if_pos (beq_iff_eq.1 hk)]
    go_enter Try.func10, Try.ntmps10
    go_wp2_with (fail)
    refine (put04_any d n s _ d0 d1 h0 h1 hs).mono ?_
    rw [hT.out]
    rintro _ w1 ⟨A1, c1, rfl, hown1, hf1⟩
    have e0 := hf1.cell c0 (fun e => e)
    have e1 := hf1.cell c1' (fun e => e)
    have e2 := hf1.cell c2 (fun e => e)
    have hcap := hown1.cap
    go_wp2_with (fail)
    refine (around_any at_ T.length _ a0 a1 (by omega) (by omega)).mono ?_
    rw [hR.out]
    rintro _ _ ⟨rfl, rfl⟩
    have hkc : (kk : Int) ≤ (c1 : Int) := by omega
    go_wp2_with (fail)
    refine (opened_any w1.heap.size kk c1 A1 X w1 hXl (by have h := hown1.rd.takeN (m := kk) (by omega); rw [Nat.mul_one, ← List.map_take, hX.out] at h; exact h) (by omega)).mono ?_
    rintro _ w3 ⟨g, A3, c3, rfl, hin3, hown3, hf3, hg3, hrg3, hL62⟩
    have hi3 := inAt_of hin3 hown3 hrg3 hL62
    have hgl := hi3.lt
    have hf03 := (hff.trans hf1 (fun _ _ e => e)).trans hf3 (fun _ _ e => e)
    have g0 := hf3.cell e0 (fun e => e)
    have hgw : w.heap.size ≤ g := by have := hf1.size; simp at this; omega
    have hcut : Pk.rd X 0 0 = (0, 0, 9) := by
      show _ = _
      rw [← hX.out, hp.out]
      exact Pk.cut_num (u64_lt n) (by rw [← hp.out]; exact hkT)
    clear hp
    have hc' := Lib.hid hcut
    clear hcut
    go_wp2_with (fail)
    refine (around_any d 7 _ d0 d1 (by omega) (by omega)).mono ?_
    rw [hK.out]
    rintro _ _ ⟨rfl, rfl⟩
    go_wp2_with (fail)
    refine (inNum_any g g X 0 0 0 0 9 _ hi3 hc').mono ?_
    rintro _ w4 ⟨rfl, hi4, hf4⟩
    have hf4' := hf03.trans hf4 (fun k hk e => by unfold One at e; omega)
    go_wp2_with (fail)
    refine (inErr_any g g X 0 9 _ hi4).mono ?_
    rintro _ _ ⟨rfl, rfl⟩
    go_wp2_with (fail)
    refine (inInt_any g g X 0 9 0 0 9 _ hi4 (Pk.rdInt_9 X 0)).mono ?_
    rintro _ w5 ⟨rfl, hi5, hf5⟩
    go_wp2_with (fail)
    refine (inText_any g g X 0 9 [] 0 9 _ hi5 (Pk.rdText_9 X 0)).mono ?_
    rintro _ w6 ⟨rfl, hi6, hf6⟩
    go_wp2_with (fail)
    refine (inBool_any g g X 0 9 false 0 9 _ hi6 (Pk.rdBool_9 X 0)).mono ?_
    rintro _ w7 ⟨rfl, hi7, hf7⟩
    go_wp2_with (fail)
    refine (inErr_any g g X 0 9 _ hi7).mono ?_
    rintro _ _ ⟨rfl, rfl⟩
    go_wp2_with (fail)
    refine (inEnd_any g g X 0 9 _ hi7).mono ?_
    rintro _ w8 ⟨rfl, hi8, hf8⟩
    rw [show Pk.endE X 0 9 = 9 by unfold Pk.endE; rw [if_neg (by omega)]]
    go_wp2_with (fail)
    refine (inLeft_any g g X 0 9 _ hi8).mono ?_
    rintro _ w9 ⟨rfl, hi9, hf9⟩
    rw [Nat.sub_zero, hXl.out]
    go_wp2_with (fail)
    refine (lives_any _).mono ?_
    rintro _ w10 ⟨rfl, hf10⟩
    go_wp2
    go_ret
    exact ⟨rfl, (((((hf4'.trans hf5 (fun k hk e => by unfold One at e; omega)).trans hf6 (fun k hk e => by unfold One at e; omega)).trans hf7 (fun k hk e => by unfold One at e; omega)).trans hf8 (fun k hk e => by unfold One at e; omega)).trans hf9 (fun k hk e => by unfold One at e; omega)).trans hf10 (fun _ _ e => e)⟩
  · have hp : Hid (T = Pk.name n) := by show _ = _; rw [hput.out, if_neg (beq_eq_false_iff_ne.1 k1'), if_pos (beq_iff_eq.1 hk)]
    go_enter Try.func10, Try.ntmps10
    go_wp2_with (fail)
    refine (put04_any d n s _ d0 d1 h0 h1 hs).mono ?_
    rw [hT.out]
    rintro _ w1 ⟨A1, c1, rfl, hown1, hf1⟩
    have e0 := hf1.cell c0 (fun e => e)
    have e1 := hf1.cell c1' (fun e => e)
    have e2 := hf1.cell c2 (fun e => e)
    have hcap := hown1.cap
    go_wp2_with (fail)
    refine (around_any at_ T.length _ a0 a1 (by omega) (by omega)).mono ?_
    rw [hR.out]
    rintro _ _ ⟨rfl, rfl⟩
    have hkc : (kk : Int) ≤ (c1 : Int) := by omega
    go_wp2_with (fail)
    refine (opened_any w1.heap.size kk c1 A1 X w1 hXl (by have h := hown1.rd.takeN (m := kk) (by omega); rw [Nat.mul_one, ← List.map_take, hX.out] at h; exact h) (by omega)).mono ?_
    rintro _ w3 ⟨g, A3, c3, rfl, hin3, hown3, hf3, hg3, hrg3, hL62⟩
    have hi3 := inAt_of hin3 hown3 hrg3 hL62
    have hgl := hi3.lt
    have hf03 := (hff.trans hf1 (fun _ _ e => e)).trans hf3 (fun _ _ e => e)
    have g0 := hf3.cell e0 (fun e => e)
    have hgw : w.heap.size ≤ g := by have := hf1.size; simp at this; omega
    have hcut : Pk.rdIdent X 0 0 = ((0, 0, 0), 0, 9) := by
      show _ = _
      rw [← hX.out, hp.out]
      exact Pk.cut_ident (tmod13 n h0 h1).1 (tmod13 n h0 h1).2 h0 h1 (u64_lt _) (by have h := hkT; rw [hp.out] at h; exact h)
    clear hp
    have hc' := Lib.hid hcut
    clear hcut
    go_wp2_with (fail)
    refine (around_any d 7 _ d0 d1 (by omega) (by omega)).mono ?_
    rw [hK.out]
    rintro _ _ ⟨rfl, rfl⟩
    go_wp2_with (fail)
    refine (inIdent_any g g X 0 0 0 0 0 0 9 _ hi3 hc').mono ?_
    rintro _ w4 ⟨rfl, hi4, hf4⟩
    have hf4' := hf03.trans hf4 (fun k hk e => by unfold One at e; omega)
    go_wp2_with (fail)
    refine (inErr_any g g X 0 9 _ hi4).mono ?_
    rintro _ _ ⟨rfl, rfl⟩
    go_wp2_with (fail)
    refine (inInt_any g g X 0 9 0 0 9 _ hi4 (Pk.rdInt_9 X 0)).mono ?_
    rintro _ w5 ⟨rfl, hi5, hf5⟩
    go_wp2_with (fail)
    refine (inText_any g g X 0 9 [] 0 9 _ hi5 (Pk.rdText_9 X 0)).mono ?_
    rintro _ w6 ⟨rfl, hi6, hf6⟩
    go_wp2_with (fail)
    refine (inBool_any g g X 0 9 false 0 9 _ hi6 (Pk.rdBool_9 X 0)).mono ?_
    rintro _ w7 ⟨rfl, hi7, hf7⟩
    go_wp2_with (fail)
    refine (inErr_any g g X 0 9 _ hi7).mono ?_
    rintro _ _ ⟨rfl, rfl⟩
    go_wp2_with (fail)
    refine (inEnd_any g g X 0 9 _ hi7).mono ?_
    rintro _ w8 ⟨rfl, hi8, hf8⟩
    rw [show Pk.endE X 0 9 = 9 by unfold Pk.endE; rw [if_neg (by omega)]]
    go_wp2_with (fail)
    refine (inLeft_any g g X 0 9 _ hi8).mono ?_
    rintro _ w9 ⟨rfl, hi9, hf9⟩
    rw [Nat.sub_zero, hXl.out]
    go_wp2_with (fail)
    refine (lives_any _).mono ?_
    rintro _ w10 ⟨rfl, hf10⟩
    go_wp2
    go_ret
    exact ⟨rfl, (((((hf4'.trans hf5 (fun k hk e => by unfold One at e; omega)).trans hf6 (fun k hk e => by unfold One at e; omega)).trans hf7 (fun k hk e => by unfold One at e; omega)).trans hf8 (fun k hk e => by unfold One at e; omega)).trans hf9 (fun k hk e => by unfold One at e; omega)).trans hf10 (fun _ _ e => e)⟩
  · have hp : Hid (T = Pk.int (around n 21)) := by show _ = _; rw [hput.out, if_neg (beq_eq_false_iff_ne.1 k1'), if_neg (beq_eq_false_iff_ne.1 k2'), if_pos (beq_iff_eq.1 hk)]
    go_enter Try.func10, Try.ntmps10
    go_wp2_with (fail)
    refine (put04_any d n s _ d0 d1 h0 h1 hs).mono ?_
    rw [hT.out]
    rintro _ w1 ⟨A1, c1, rfl, hown1, hf1⟩
    have e0 := hf1.cell c0 (fun e => e)
    have e1 := hf1.cell c1' (fun e => e)
    have e2 := hf1.cell c2 (fun e => e)
    have hcap := hown1.cap
    go_wp2_with (fail)
    refine (around_any at_ T.length _ a0 a1 (by omega) (by omega)).mono ?_
    rw [hR.out]
    rintro _ _ ⟨rfl, rfl⟩
    have hkc : (kk : Int) ≤ (c1 : Int) := by omega
    go_wp2_with (fail)
    refine (opened_any w1.heap.size kk c1 A1 X w1 hXl (by have h := hown1.rd.takeN (m := kk) (by omega); rw [Nat.mul_one, ← List.map_take, hX.out] at h; exact h) (by omega)).mono ?_
    rintro _ w3 ⟨g, A3, c3, rfl, hin3, hown3, hf3, hg3, hrg3, hL62⟩
    have hi3 := inAt_of hin3 hown3 hrg3 hL62
    have hgl := hi3.lt
    have hf03 := (hff.trans hf1 (fun _ _ e => e)).trans hf3 (fun _ _ e => e)
    have g0 := hf3.cell e0 (fun e => e)
    have hgw : w.heap.size ≤ g := by have := hf1.size; simp at this; omega
    have hcut : Pk.rdMany X 0 0 20 = (0, 0, 9) := by
      show _ = _
      rw [← hX.out, hp.out]
      exact Pk.cut_many (by have := around_bd (n := n) (m := 21) (by omega); omega) (by have := around_bd (n := n) (m := 21) (by omega); omega) (by omega) (by rw [← hp.out]; exact hkT)
    clear hp
    have hc' := Lib.hid hcut
    clear hcut
    go_wp2_with (fail)
    refine (around_any d 7 _ d0 d1 (by omega) (by omega)).mono ?_
    rw [hK.out]
    rintro _ _ ⟨rfl, rfl⟩
    go_wp2_with (fail)
    refine (inMany_any g g X 0 0 20 0 0 9 _ hi3 hc').mono ?_
    rintro _ w4 ⟨rfl, hi4, hf4⟩
    have hf4' := hf03.trans hf4 (fun k hk e => by unfold One at e; omega)
    go_wp2_with (fail)
    refine (inErr_any g g X 0 9 _ hi4).mono ?_
    rintro _ _ ⟨rfl, rfl⟩
    go_wp2_with (fail)
    refine (inInt_any g g X 0 9 0 0 9 _ hi4 (Pk.rdInt_9 X 0)).mono ?_
    rintro _ w5 ⟨rfl, hi5, hf5⟩
    go_wp2_with (fail)
    refine (inText_any g g X 0 9 [] 0 9 _ hi5 (Pk.rdText_9 X 0)).mono ?_
    rintro _ w6 ⟨rfl, hi6, hf6⟩
    go_wp2_with (fail)
    refine (inBool_any g g X 0 9 false 0 9 _ hi6 (Pk.rdBool_9 X 0)).mono ?_
    rintro _ w7 ⟨rfl, hi7, hf7⟩
    go_wp2_with (fail)
    refine (inErr_any g g X 0 9 _ hi7).mono ?_
    rintro _ _ ⟨rfl, rfl⟩
    go_wp2_with (fail)
    refine (inEnd_any g g X 0 9 _ hi7).mono ?_
    rintro _ w8 ⟨rfl, hi8, hf8⟩
    rw [show Pk.endE X 0 9 = 9 by unfold Pk.endE; rw [if_neg (by omega)]]
    go_wp2_with (fail)
    refine (inLeft_any g g X 0 9 _ hi8).mono ?_
    rintro _ w9 ⟨rfl, hi9, hf9⟩
    rw [Nat.sub_zero, hXl.out]
    go_wp2_with (fail)
    refine (lives_any _).mono ?_
    rintro _ w10 ⟨rfl, hf10⟩
    go_wp2
    go_ret
    exact ⟨rfl, (((((hf4'.trans hf5 (fun k hk e => by unfold One at e; omega)).trans hf6 (fun k hk e => by unfold One at e; omega)).trans hf7 (fun k hk e => by unfold One at e; omega)).trans hf8 (fun k hk e => by unfold One at e; omega)).trans hf9 (fun k hk e => by unfold One at e; omega)).trans hf10 (fun _ _ e => e)⟩
  · have hp : Hid (T = Pk.text (s.take 40)) := by show _ = _; rw [hput.out, if_neg (beq_eq_false_iff_ne.1 k1'), if_neg (beq_eq_false_iff_ne.1 k2'), if_neg (beq_eq_false_iff_ne.1 k3'), if_pos (beq_iff_eq.1 hk)]
    go_enter Try.func10, Try.ntmps10
    go_wp2_with (fail)
    refine (put04_any d n s _ d0 d1 h0 h1 hs).mono ?_
    rw [hT.out]
    rintro _ w1 ⟨A1, c1, rfl, hown1, hf1⟩
    have e0 := hf1.cell c0 (fun e => e)
    have e1 := hf1.cell c1' (fun e => e)
    have e2 := hf1.cell c2 (fun e => e)
    have hcap := hown1.cap
    go_wp2_with (fail)
    refine (around_any at_ T.length _ a0 a1 (by omega) (by omega)).mono ?_
    rw [hR.out]
    rintro _ _ ⟨rfl, rfl⟩
    have hkc : (kk : Int) ≤ (c1 : Int) := by omega
    go_wp2_with (fail)
    refine (opened_any w1.heap.size kk c1 A1 X w1 hXl (by have h := hown1.rd.takeN (m := kk) (by omega); rw [Nat.mul_one, ← List.map_take, hX.out] at h; exact h) (by omega)).mono ?_
    rintro _ w3 ⟨g, A3, c3, rfl, hin3, hown3, hf3, hg3, hrg3, hL62⟩
    have hi3 := inAt_of hin3 hown3 hrg3 hL62
    have hgl := hi3.lt
    have hf03 := (hff.trans hf1 (fun _ _ e => e)).trans hf3 (fun _ _ e => e)
    have g0 := hf3.cell e0 (fun e => e)
    have hgw : w.heap.size ≤ g := by have := hf1.size; simp at this; omega
    have hcut : Pk.rdText X 0 0 = ([], 0, 9) := by
      show _ = _
      rw [← hX.out, hp.out]
      exact Pk.cut_text (by have := List.length_take_le 40 s; omega) (by rw [← hp.out]; exact hkT)
    clear hp
    have hc' := Lib.hid hcut
    clear hcut
    go_wp2_with (fail)
    refine (around_any d 7 _ d0 d1 (by omega) (by omega)).mono ?_
    rw [hK.out]
    rintro _ _ ⟨rfl, rfl⟩
    go_wp2_with (fail)
    refine (inText_any g g X 0 0 [] 0 9 _ hi3 hc').mono ?_
    rintro _ w4 ⟨rfl, hi4, hf4⟩
    have hf4' := hf03.trans hf4 (fun k hk e => by unfold One at e; omega)
    go_wp2_with (fail)
    refine (inErr_any g g X 0 9 _ hi4).mono ?_
    rintro _ _ ⟨rfl, rfl⟩
    go_wp2_with (fail)
    refine (inInt_any g g X 0 9 0 0 9 _ hi4 (Pk.rdInt_9 X 0)).mono ?_
    rintro _ w5 ⟨rfl, hi5, hf5⟩
    go_wp2_with (fail)
    refine (inText_any g g X 0 9 [] 0 9 _ hi5 (Pk.rdText_9 X 0)).mono ?_
    rintro _ w6 ⟨rfl, hi6, hf6⟩
    go_wp2_with (fail)
    refine (inBool_any g g X 0 9 false 0 9 _ hi6 (Pk.rdBool_9 X 0)).mono ?_
    rintro _ w7 ⟨rfl, hi7, hf7⟩
    go_wp2_with (fail)
    refine (inErr_any g g X 0 9 _ hi7).mono ?_
    rintro _ _ ⟨rfl, rfl⟩
    go_wp2_with (fail)
    refine (inEnd_any g g X 0 9 _ hi7).mono ?_
    rintro _ w8 ⟨rfl, hi8, hf8⟩
    rw [show Pk.endE X 0 9 = 9 by unfold Pk.endE; rw [if_neg (by omega)]]
    go_wp2_with (fail)
    refine (inLeft_any g g X 0 9 _ hi8).mono ?_
    rintro _ w9 ⟨rfl, hi9, hf9⟩
    rw [Nat.sub_zero, hXl.out]
    go_wp2_with (fail)
    refine (lives_any _).mono ?_
    rintro _ w10 ⟨rfl, hf10⟩
    go_wp2
    go_ret
    exact ⟨rfl, (((((hf4'.trans hf5 (fun k hk e => by unfold One at e; omega)).trans hf6 (fun k hk e => by unfold One at e; omega)).trans hf7 (fun k hk e => by unfold One at e; omega)).trans hf8 (fun k hk e => by unfold One at e; omega)).trans hf9 (fun k hk e => by unfold One at e; omega)).trans hf10 (fun _ _ e => e)⟩
  · have hp : Hid (T = Pk.bool (n % 2 == 0)) := by show _ = _; rw [hput.out, if_neg (beq_eq_false_iff_ne.1 k1'), if_neg (beq_eq_false_iff_ne.1 k2'), if_neg (beq_eq_false_iff_ne.1 k3'), if_neg (beq_eq_false_iff_ne.1 k4'), if_pos (beq_iff_eq.1 hk)]
    go_enter Try.func10, Try.ntmps10
    go_wp2_with (fail)
    refine (put04_any d n s _ d0 d1 h0 h1 hs).mono ?_
    rw [hT.out]
    rintro _ w1 ⟨A1, c1, rfl, hown1, hf1⟩
    have e0 := hf1.cell c0 (fun e => e)
    have e1 := hf1.cell c1' (fun e => e)
    have e2 := hf1.cell c2 (fun e => e)
    have hcap := hown1.cap
    go_wp2_with (fail)
    refine (around_any at_ T.length _ a0 a1 (by omega) (by omega)).mono ?_
    rw [hR.out]
    rintro _ _ ⟨rfl, rfl⟩
    have hkc : (kk : Int) ≤ (c1 : Int) := by omega
    go_wp2_with (fail)
    refine (opened_any w1.heap.size kk c1 A1 X w1 hXl (by have h := hown1.rd.takeN (m := kk) (by omega); rw [Nat.mul_one, ← List.map_take, hX.out] at h; exact h) (by omega)).mono ?_
    rintro _ w3 ⟨g, A3, c3, rfl, hin3, hown3, hf3, hg3, hrg3, hL62⟩
    have hi3 := inAt_of hin3 hown3 hrg3 hL62
    have hgl := hi3.lt
    have hf03 := (hff.trans hf1 (fun _ _ e => e)).trans hf3 (fun _ _ e => e)
    have g0 := hf3.cell e0 (fun e => e)
    have hgw : w.heap.size ≤ g := by have := hf1.size; simp at this; omega
    have hcut : Pk.rdBool X 0 0 = (false, 0, 9) := by
      show _ = _
      rw [← hX.out, hp.out]
      exact Pk.cut_bool (by rw [← hp.out]; exact hkT)
    clear hp
    have hc' := Lib.hid hcut
    clear hcut
    go_wp2_with (fail)
    refine (around_any d 7 _ d0 d1 (by omega) (by omega)).mono ?_
    rw [hK.out]
    rintro _ _ ⟨rfl, rfl⟩
    go_wp2_with (fail)
    refine (inBool_any g g X 0 0 false 0 9 _ hi3 hc').mono ?_
    rintro _ w4 ⟨rfl, hi4, hf4⟩
    have hf4' := hf03.trans hf4 (fun k hk e => by unfold One at e; omega)
    go_wp2_with (fail)
    refine (inErr_any g g X 0 9 _ hi4).mono ?_
    rintro _ _ ⟨rfl, rfl⟩
    go_wp2_with (fail)
    refine (inInt_any g g X 0 9 0 0 9 _ hi4 (Pk.rdInt_9 X 0)).mono ?_
    rintro _ w5 ⟨rfl, hi5, hf5⟩
    go_wp2_with (fail)
    refine (inText_any g g X 0 9 [] 0 9 _ hi5 (Pk.rdText_9 X 0)).mono ?_
    rintro _ w6 ⟨rfl, hi6, hf6⟩
    go_wp2_with (fail)
    refine (inBool_any g g X 0 9 false 0 9 _ hi6 (Pk.rdBool_9 X 0)).mono ?_
    rintro _ w7 ⟨rfl, hi7, hf7⟩
    go_wp2_with (fail)
    refine (inErr_any g g X 0 9 _ hi7).mono ?_
    rintro _ _ ⟨rfl, rfl⟩
    go_wp2_with (fail)
    refine (inEnd_any g g X 0 9 _ hi7).mono ?_
    rintro _ w8 ⟨rfl, hi8, hf8⟩
    rw [show Pk.endE X 0 9 = 9 by unfold Pk.endE; rw [if_neg (by omega)]]
    go_wp2_with (fail)
    refine (inLeft_any g g X 0 9 _ hi8).mono ?_
    rintro _ w9 ⟨rfl, hi9, hf9⟩
    rw [Nat.sub_zero, hXl.out]
    go_wp2_with (fail)
    refine (lives_any _).mono ?_
    rintro _ w10 ⟨rfl, hf10⟩
    go_wp2
    go_ret
    exact ⟨rfl, (((((hf4'.trans hf5 (fun k hk e => by unfold One at e; omega)).trans hf6 (fun k hk e => by unfold One at e; omega)).trans hf7 (fun k hk e => by unfold One at e; omega)).trans hf8 (fun k hk e => by unfold One at e; omega)).trans hf9 (fun k hk e => by unfold One at e; omega)).trans hf10 (fun _ _ e => e)⟩
  · have hp : Hid (T = Pk.int n) := by show _ = _; rw [hput.out, if_neg (beq_eq_false_iff_ne.1 k1'), if_neg (beq_eq_false_iff_ne.1 k2'), if_neg (beq_eq_false_iff_ne.1 k3'), if_neg (beq_eq_false_iff_ne.1 k4'), if_neg (beq_eq_false_iff_ne.1 hk)]
    go_enter Try.func10, Try.ntmps10
    go_wp2_with (fail)
    refine (put04_any d n s _ d0 d1 h0 h1 hs).mono ?_
    rw [hT.out]
    rintro _ w1 ⟨A1, c1, rfl, hown1, hf1⟩
    have e0 := hf1.cell c0 (fun e => e)
    have e1 := hf1.cell c1' (fun e => e)
    have e2 := hf1.cell c2 (fun e => e)
    have hcap := hown1.cap
    go_wp2_with (fail)
    refine (around_any at_ T.length _ a0 a1 (by omega) (by omega)).mono ?_
    rw [hR.out]
    rintro _ _ ⟨rfl, rfl⟩
    have hkc : (kk : Int) ≤ (c1 : Int) := by omega
    go_wp2_with (fail)
    refine (opened_any w1.heap.size kk c1 A1 X w1 hXl (by have h := hown1.rd.takeN (m := kk) (by omega); rw [Nat.mul_one, ← List.map_take, hX.out] at h; exact h) (by omega)).mono ?_
    rintro _ w3 ⟨g, A3, c3, rfl, hin3, hown3, hf3, hg3, hrg3, hL62⟩
    have hi3 := inAt_of hin3 hown3 hrg3 hL62
    have hgl := hi3.lt
    have hf03 := (hff.trans hf1 (fun _ _ e => e)).trans hf3 (fun _ _ e => e)
    have g0 := hf3.cell e0 (fun e => e)
    have hgw : w.heap.size ≤ g := by have := hf1.size; simp at this; omega
    have hcut : Pk.rdInt X 0 0 = (0, 0, 9) := by
      show _ = _
      rw [← hX.out, hp.out]
      exact Pk.cut_int h0 h1 (by rw [← hp.out]; exact hkT)
    clear hp
    have hc' := Lib.hid hcut
    clear hcut
    go_wp2_with (fail)
    refine (around_any d 7 _ d0 d1 (by omega) (by omega)).mono ?_
    rw [hK.out]
    rintro _ _ ⟨rfl, rfl⟩
    go_wp2_with (fail)
    refine (inInt_any g g X 0 0 0 0 9 _ hi3 hc').mono ?_
    rintro _ w4 ⟨rfl, hi4, hf4⟩
    have hf4' := hf03.trans hf4 (fun k hk e => by unfold One at e; omega)
    go_wp2_with (fail)
    refine (inErr_any g g X 0 9 _ hi4).mono ?_
    rintro _ _ ⟨rfl, rfl⟩
    go_wp2_with (fail)
    refine (inInt_any g g X 0 9 0 0 9 _ hi4 (Pk.rdInt_9 X 0)).mono ?_
    rintro _ w5 ⟨rfl, hi5, hf5⟩
    go_wp2_with (fail)
    refine (inText_any g g X 0 9 [] 0 9 _ hi5 (Pk.rdText_9 X 0)).mono ?_
    rintro _ w6 ⟨rfl, hi6, hf6⟩
    go_wp2_with (fail)
    refine (inBool_any g g X 0 9 false 0 9 _ hi6 (Pk.rdBool_9 X 0)).mono ?_
    rintro _ w7 ⟨rfl, hi7, hf7⟩
    go_wp2_with (fail)
    refine (inErr_any g g X 0 9 _ hi7).mono ?_
    rintro _ _ ⟨rfl, rfl⟩
    go_wp2_with (fail)
    refine (inEnd_any g g X 0 9 _ hi7).mono ?_
    rintro _ w8 ⟨rfl, hi8, hf8⟩
    rw [show Pk.endE X 0 9 = 9 by unfold Pk.endE; rw [if_neg (by omega)]]
    go_wp2_with (fail)
    refine (inLeft_any g g X 0 9 _ hi8).mono ?_
    rintro _ w9 ⟨rfl, hi9, hf9⟩
    rw [Nat.sub_zero, hXl.out]
    go_wp2_with (fail)
    refine (lives_any _).mono ?_
    rintro _ w10 ⟨rfl, hf10⟩
    go_wp2
    go_ret
    exact ⟨rfl, (((((hf4'.trans hf5 (fun k hk e => by unfold One at e; omega)).trans hf6 (fun k hk e => by unfold One at e; omega)).trans hf7 (fun k hk e => by unfold One at e; omega)).trans hf8 (fun k hk e => by unfold One at e; omega)).trans hf9 (fun k hk e => by unfold One at e; omega)).trans hf10 (fun _ _ e => e)⟩
end Go.Proofs.Ytkppihpdhildjaa
