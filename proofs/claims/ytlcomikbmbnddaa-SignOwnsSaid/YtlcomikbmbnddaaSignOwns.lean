/-
  SignOwns: bytes that were handed in stay as they are, spare room too.
  Condition: none.
-/
import Derived.Test.YtlcomikbmbnddaaSignRange
namespace Go.Proofs.Ytlcomikbmbnddaa
open Go.RowKit Go.Shelf
attribute [local go_sem ↓] Go.wp_at_zero Go.wp_at_succ

set_option maxHeartbeats 4000000 in
theorem owns08_any (n : Nat) (A : Option Addr) (c : Nat) (b : List UInt8) (w : World) (hn : n < 18446744073709551616) (hr : Rd w w.heap.size 1 A b.length (b.map Bv)) (hc : b.length ≤ c) (hc' : c ≤ 9223372036854775807) :
    Calls Try.prog 8 #[.int .u64 (n : Int), .slice A b.length c] w (BoolPost true w) := by
  obtain ⟨L, nL, hnL, hl0, hFew⟩ := few_named 20 A c b w (by omega) hr hc hc'
  have hFew' : Hid (Calls Try.prog 10 #[.slice A b.length c, .int .i64 20] w fun r w' => ∃ A' c', r = .returned (.slice A' nL c') ∧ Own w' w.heap.size 5 1 A' nL c' (L.map Bv) ∧ Fr Non w w') := hFew
  clear hFew
  obtain ⟨x, p, R, S, lx, lp, lR, lS, p0, R0, hx, hp, hR, hS, kp, ks, kc⟩ := sign_named n L nL hnL (by omega)
  have kck := check_named p R S L nL true hnL (by omega) (by omega) (by omega) (by omega) kc
  have k0 := Lib.hid (fun w => secret08_any n w hn)
  rw [hx.out] at k0
  clear hp hR hS kc hx
  unfold SigV at kck
  go_enter Try.func8, Try.ntmps8
  go_wp2_with (fail)
  refine hFew'.out.mono ?_
  rintro _ w1 ⟨A1, c1, rfl, hown1, hf1⟩
  have hcap1 := hown1.cap
  have hs1 := hf1.size
  have hnew := Blk.new w1 5 #[.int .u8 1, .int .u8 2, .int .u8 3]
  have hrd : Rd (w1.alloc (.cells #[.int .u8 1, .int .u8 2, .int .u8 3] 5)) (w1.heap.size + 1) 1 (some ⟨w1.heap.size, 0, none⟩) 3 [.int .u8 1, .int .u8 2, .int .u8 3] := by
    refine ⟨rfl, .inr ⟨w1.heap.size, 0, rfl, by omega, fun j u hu => ?_⟩⟩
    rw [hnew.cell]
    match j, hu with
    | 0, hu => simpa using hu
    | 1, hu => simpa using hu
    | 2, hu => simpa using hu
  go_wp2_with (first | (at_builtin; go_loud (refine wpList_app (.tmp 11) (.tmp 12) 23 rfl rfl rfl rfl slB (hown1.alloc _) hrd (by simp [Value.oneCell']) (by omega) (by omega) (by simp; omega) ?_); intro A2 c2 w2 hown2 hf2 hat2; have hcap2 := hown2.cap; have hle2 : nL ≤ c2 := Nat.le_trans (Nat.le_add_right _ _) hcap2.1; have hown3 : Own w2 w.heap.size 5 1 A2 (nL + 3) c2 ((L ++ [1, 2, 3]).map Bv) := (by rw [List.map_append]; exact hown2); have q2 := run_str 23 5 9 Try.underlying23 Try.underlying5 Try.underlying9 w2 _ A2 (nL + 3) c2 (L ++ [1, 2, 3]) hown3.rd))
  have hwf2 := ((hf1.alloc (.cells #[.int .u8 1, .int .u8 2, .int .u8 3] 5)).trans hf2 (hown1.notNon (Nat.le_refl _)))
  have hfront : Rd w2 w2.heap.size 1 A2 nL (L.map Bv) := by
    have h := hown3.rd.takeN (m := nL) (by omega)
    rw [Nat.mul_one, ← List.map_take, List.take_append_of_le_length (by rw [hnL.out]; exact Nat.le_refl _), List.take_of_length_le (by rw [hnL.out]; exact Nat.le_refl _)] at h
    exact h
  refine (k0.out _).mono ?_
  rintro _ _ ⟨rfl, rfl⟩
  go_wp2_with (fail)
  refine (ks.out A2 c2 w2.heap.size w2 (by omega) (Nat.le_refl _) hfront).mono ?_
  rintro _ w4 ⟨rfl, hf4⟩
  have hown4 := hown3.fr hf4 (fun _ _ e => e)
  unfold SigV
  go_wp2_with (fail)
  have hb3 := Blk.new w4 28 #[.int .u64 (R : Int), .int .u64 (S : Int)]
  have hff := (hwf2.trans hf4 (fun _ _ e => e)).alloc (.cells #[.int .u64 (R : Int), .int .u64 (S : Int)] 28)
  have hown5 := hown4.alloc (.cells #[.int .u64 (R : Int), .int .u64 (S : Int)] 28)
  have r3 := (hfront.fr hf4 (fun _ _ e => e)).alloc (.cells #[.int .u64 (R : Int), .int .u64 (S : Int)] 28)
  have hz4 : w2.heap.size ≤ (w4.alloc (.cells #[.int .u64 (R : Int), .int .u64 (S : Int)] 28)).heap.size := by have := hf4.size; simp; omega
  generalize hG : w4.heap.size = G at *
  generalize w4.alloc (.cells #[.int .u64 (R : Int), .int .u64 (S : Int)] 28) = w3 at *
  clear hG
  have hb3d : Blk w3.drew G 28 #[.int .u64 (R : Int), .int .u64 (S : Int)] := hb3
  have r3d : Rd w3.drew w2.heap.size 1 A2 nL (L.map Bv) := r3
  have hown5d : Own w3.drew w.heap.size 5 1 A2 (nL + 3) c2 ((L ++ [1, 2, 3]).map Bv) := hown5
  have hz5 : w2.heap.size ≤ w3.drew.heap.size := hz4
  have d0 := hb3d.cell 0
  have d1 := hb3d.cell 1
  go_region_with (first
    | (go_at_call 12; (with_reducible refine (kp.out _).mono ?_); rintro _ w5 ⟨rfl, hf5⟩; have g0 := hf5.cell d0 (fun e => e); have g1 := hf5.cell d1 (fun e => e))
    | (go_at_call 18; (with_reducible refine (kck.out A2 c2 _ _ (by omega) (Nat.le_trans hz5 hf5.size) (r3d.fr hf5 (fun _ _ e => e))).mono ?_); rintro _ w6 ⟨rfl, hf6⟩; have ga := hf6.cell g0 (fun e => e); have gb := hf6.cell g1 (fun e => e); have q6 := run_str 23 5 9 Try.underlying23 Try.underlying5 Try.underlying9 w6 _ A2 (nL + 3) c2 (L ++ [1, 2, 3]) ((hown5d.fr hf5 (fun _ _ e => e)).fr hf6 (fun _ _ e => e)).rd)
    | (go_at_call 16; (with_reducible refine (lives08_any _).mono ?_); rintro _ w7 ⟨rfl, hf7⟩; have ge := hf7.cell ga (fun e => e); have gf := hf7.cell gb (fun e => e)))
  all_goals
    go_wp2
    go_ret
    refine ⟨?_, ((hff.drew.trans hf5 (fun _ _ e => e)).trans hf6 (fun _ _ e => e)).trans hf7 (fun _ _ e => e)⟩
    first | rfl | simp
end Go.Proofs.Ytlcomikbmbnddaa
