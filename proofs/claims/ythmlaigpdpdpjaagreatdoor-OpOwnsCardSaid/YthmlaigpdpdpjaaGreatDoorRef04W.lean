/-
  The reference of layer 4, writing: Num, Number, Text, Bool, Ident, Name; Short and Few of layer 1's helpers.
  Conditions: texts are shorter than 2^40 bytes.
-/
import Derived.Test.YthmlaigpdpdpjaaGreatDoorPackIn2
import Derived.Test.YthmlaigpdpdpjaaGreatDoorPackOut
import Derived.Deep.RegionHeld3
import Derived.Deep.DrawnRows
namespace Go.Proofs.YthmlaigpdpdpjaaGreatDoor
open Go.RowKit
attribute [local go_sem ↓] Go.wp_at_zero Go.wp_at_succ

/-- An own slice in a variable: a step in which it became another one, and nothing else has turned. -/
structure VStep (w : World) (A : Option Addr) (w' : World) (A' : Option Addr) : Prop where
  fr : Fr (fun k => rowOf A = some k) w w'
  row : ∀ k, rowOf A' = some k → rowOf A = some k ∨ w.heap.size ≤ k

set_option maxHeartbeats 1000000 in
theorem num04_any (n : Nat) (w : World) (hn : n < 18446744073709551616) :
    Calls Tryz.prog 74 #[.int .u64 (n : Int)] w (NewB w (Pk.num n)) := by
  go_enter Tryz.func74, Tryz.ntmps74
  go_wp2
  go_loopw [0, 3] (fun v s wr => ∃ (m f : Nat) (L : List UInt8) (A : Option Addr) (c : Nat), v = .int .u64 (m : Int) ∧ s = .slice A L.length c ∧ m < 2 * 128 ^ f ∧ Hid (Pk.num n = L ++ Pk.numF (f + 1) m) ∧ L.length + f ≤ 9 ∧ m < 18446744073709551616 ∧
    Own wr w.heap.size 5 1 A L.length c (L.map Bv) ∧ Fr Non w wr) (fun v _ _ => (intOf v).toNat)
  case atStart => exact ⟨n, 9, [], none, 0, rfl, rfl, by simpa using hn, rfl, by simp, hn, Own.nil _ _ _ _, Fr.refl _ _⟩
  case round =>
    obtain ⟨m, f, L, A, c, rfl, rfl, hm, hpre, hlen, hm64, hown, hf⟩ := hrel
    have hBs := hf.size
    have hrow : ∀ k, k < w.heap.size → rowOf A = some k → Non k := fun k hk hA => by have := (hown.row k hA).1; omega
    by_cases hlt : m < 128
    · go_wp2_with (first | (at_builtin; go_loud (refine wpList_app (.tmp 15) (.tmp 18) 28 rfl rfl rfl rfl slB (hown.alloc _) (Rd.one _ _ _) (by simp [Value.oneCell']) (by omega) (by omega) (by simp; omega) ?_); intro A1 c1 w1 hown1 hf1 hat1))
      go_ret
      refine NewB.mk hown1 rfl ?_ ((hf.alloc _).trans hf1 hrow)
      rw [hpre.out]
      simp [Pk.numF, hlt, Bv]
      omega
    · go_wp2_with (first | (at_builtin; go_loud (refine wpList_app (.tmp 6) (.tmp 11) 28 rfl rfl rfl rfl slB (hown.alloc _) (Rd.one _ _ _) (by simp [Value.oneCell']) (by omega) (by omega) (by simp; omega) ?_); intro A1 c1 w1 hown1 hf1 hat1))
      go_roundw
      case rel =>
        have hf0 : f ≠ 0 := by rintro rfl; omega
        obtain ⟨f', rfl⟩ : ∃ f', f = f' + 1 := ⟨f - 1, by omega⟩
        refine ⟨m / 128, f', L ++ [UInt8.ofNat (m % 128 + 128)], A1, c1, by go_num, by simp, ?_, ?_, ?_, by omega, ?_, (hf.alloc _).trans hf1 hrow⟩
        · rw [Nat.div_lt_iff_lt_mul (by omega)]; rw [Nat.pow_succ] at hm; omega
        · show _ = _
          rw [hpre.out]
          conv => lhs; unfold Pk.numF
          rw [if_neg hlt]
          simp
        · simp; omega
        · have := Pk.tn (m % 128 + 128) (by omega)
          have e : (L ++ [UInt8.ofNat (m % 128 + 128)]).map Bv = L.map Bv ++ [.int .u8 ((m : Int) % 128 + 128)] := by
            simp [Bv]; omega
          rw [e, List.length_append]
          exact hown1
      case measure => simp [intOf]; omega

theorem number04_any (n : Int) (w : World) (h0 : -9223372036854775808 ≤ n) (h1 : n ≤ 9223372036854775807) :
    Calls Tryz.prog 76 #[.int .i64 n] w (NewB w (Pk.int n)) := by
  have hfl := Pk.fold_lt h0 h1
  by_cases hn : n < 0
  · have hv : Hid (-(n + 1) * 2 + 1 = ((Pk.fold n : Nat) : Int)) := by show _ = _; unfold Pk.fold; rw [if_pos hn]; omega
    go_enter Tryz.func76, Tryz.ntmps76
    go_wp2_with (fail)
    rw [hv.out]
    refine (num04_any _ _ hfl).mono ?_
    rintro _ w1 ⟨A, c, rfl, hown, hf⟩
    go_wp2
    go_ret
    exact ⟨A, c, rfl, hown, hf⟩
  · have hv : Hid (n * 2 = ((Pk.fold n : Nat) : Int)) := by show _ = _; unfold Pk.fold; rw [if_neg hn]; omega
    go_enter Tryz.func76, Tryz.ntmps76
    go_wp2_with (fail)
    rw [hv.out]
    refine (num04_any _ _ hfl).mono ?_
    rintro _ w1 ⟨A, c, rfl, hown, hf⟩
    go_wp2
    go_ret
    exact ⟨A, c, rfl, hown, hf⟩

theorem text04_any (l : List UInt8) (w : World) (hl : l.length ≤ 1099511627700) : Calls Tryz.prog 77 #[.string (str l)] w (NewB w (Pk.text l)) := by
  have hs := str_size l
  have hil := Pk.int_len (l.length : Int)
  go_enter Tryz.func77, Tryz.ntmps77
  go_wp2_with (fail)
  refine (number04_any _ _ (by omega) (by omega)).mono ?_
  rintro _ w1 ⟨A, c, rfl, hown, hf⟩
  clear hs
  have hBs := hf.size
  go_wp2_with (first | (at_builtin; go_loud (refine wpList_app_str (.tmp 5) (.tmp 6) 28 9 rfl rfl rfl rfl slB Tryz.underlying9 hown (by omega) (by omega) ?_); intro A2 c2 w2 hown2 hf2 hat2))
  go_ret
  exact NewB.mk hown2 rfl (by simp [Pk.text]) (hf.trans hf2 (hown.notNon (Nat.le_refl _)))

set_option maxRecDepth 100000 in
set_option maxHeartbeats 4000000 in
theorem ident04_any (b s : Int) (u : Nat) (w : World) (b0 : -9223372036854775808 ≤ b) (b1 : b ≤ 9223372036854775807)
    (s0 : -9223372036854775808 ≤ s) (s1 : s ≤ 9223372036854775807) (hu : u < 18446744073709551616) :
    Calls Tryz.prog 73 #[.agg #[.int .i64 b, .int .i64 s, .int .u64 (u : Int)]] w (NewB w (Pk.ident b s u)) := by
  have hb0 := Blk.new w 27 #[.int .i64 b, .int .i64 s, .int .u64 (u : Int)]
  have l1 := Pk.int_len b
  have l2 := Pk.int_len s
  have l3 := Pk.num_len u
  have c0 := hb0.cell 0
  have c1 := hb0.cell 1
  have c2 := hb0.cell 2
  go_enter Tryz.func73, Tryz.ntmps73
  go_wp2
  go_region_held3 (fun w' => w'.cell? ⟨w.heap.size, 0, none⟩ = some (.int .i64 b) ∧ w'.cell? ⟨w.heap.size, 1, none⟩ = some (.int .i64 s)) (go_keep) (first
    | ((refine step_app (.tmp 6) (.tmp 9) 28 (by rfl) (by rfl) (by rfl) (by rfl) slB (hown1.fr hf2 (fun _ _ e => e)) hown2.rd (Bv_one _) (by omega) (by omega) (by omega) ?_; intro A3 c3 w3 hown3 hf3 hat3; have hb3 := hb2.fr hf3 (hown1.ne hb1 (by decide)); have d0 := hb3.cell 0; have d1 := hb3.cell 1))
    | (go_at_call 76; (with_reducible refine (number04_any b _ b0 b1).mono ?_); rintro _ w1 ⟨A1, c1, rfl, hown1, hf1⟩; have hb1 := hb0.drew.fr hf1 (fun e => e); have d0 := hb1.cell 0; have d1 := hb1.cell 1; have hsz1 := hf1.size)
    | (go_at_call 76; (with_reducible refine (number04_any s _ s0 s1).mono ?_); rintro _ w2 ⟨A2, c2, rfl, hown2, hf2⟩; have hb2 := hb1.fr hf2 (fun e => e); have d0 := hb2.cell 0; have d1 := hb2.cell 1; have hsz2 := hf2.size))
  have e2 := hb3.cell 2
  have hs3 := hf3.size
  go_wp2_with (fail)
  refine (num04_any u _ hu).mono ?_
  rintro _ w4 ⟨A4, c4, rfl, hown4, hf4⟩
  have hs4 := hf4.size
  have hown3' := (hown3.fr hf4 (fun _ _ e => e)).lower (base' := w.heap.size) (by simp)
  go_wp2_with (first | (at_builtin; go_loud (refine wpList_app (.tmp 11) (.tmp 14) 28 rfl rfl rfl rfl slB hown3' hown4.rd (Bv_one _) (by omega) (by omega) (by simp at hsz1; omega) ?_); intro A5 c5 w5 hown5 hf5 hat5))
  go_ret
  have hff : Fr Non w w4 := (((((Fr.refl _ _).alloc _).drew.trans hf1 (fun _ _ e => e)).trans hf2 (fun _ _ e => e)).trans hf3 (fun k hk e => by have := (hown1.row k e).1; simp at this; omega)).trans hf4 (fun _ _ e => e)
  exact NewB.mk hown5 rfl (by simp [Pk.ident]) (hff.trans hf5 (hown3'.notNon (Nat.le_refl _)))
end Go.Proofs.YthmlaigpdpdpjaaGreatDoor
