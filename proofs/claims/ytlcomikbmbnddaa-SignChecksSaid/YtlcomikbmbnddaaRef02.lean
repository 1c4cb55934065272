/-
  The reference of layer 2: Words, Of, Bytes, Secret.
  Conditions: the bytes, and the numbers, are no more than 2^40.
-/
import Derived.Test.YtlcomikbmbnddaaRef01F
import Derived.Test.YtlcomikbmbnddaaHashBytes
namespace Go.Proofs.Ytlcomikbmbnddaa
open Go.RowKit
attribute [local go_sem ↓] Go.wp_at_zero Go.wp_at_succ

set_option maxHeartbeats 2000000 in
theorem words02_any (A : Option Addr) (n c B : Nat) (bs : List UInt8) (w : World) (hlen : Hid (bs.length = n)) (hn : n ≤ 1099511627776) (_hB : B ≤ w.heap.size) (hr : Rd w B 1 A n (bs.map Bv)) :
    Calls Try.prog 48 #[.slice A n c] w (NewW w (Hs.words bs)) := by
  have hwl : (Hs.words bs).length = (n + 6) / 7 := by rw [Hs.words_length, hlen.out]
  obtain ⟨ws, hW⟩ := hid_ex (Hs.words bs)
  have hget : Hid (∀ j, 7 * j < n → ws[j]? = some (Hs.le ((bs.drop (7 * j)).take 7))) := fun j hj => by rw [← hW.out]; exact Hs.words_get j bs (by rw [hlen.out]; exact hj)
  rw [hW.out] at hwl
  rw [hW.out]
  have hwl' := Lib.hid hwl
  clear hwl
  go_enter Try.func48, Try.ntmps48
  go_wp2
  go_loopw [3, 4] (fun s v wr => ∃ (j : Nat) (A' : Option Addr) (c' : Nat), v = .int .i64 ((7 * j : Nat) : Int) ∧ s = .slice A' j c' ∧ j ≤ (n + 6) / 7 ∧ Own wr w.heap.size 22 1 A' j c' ((ws.take j).map Wv) ∧ Fr Non w wr) (fun _ v _ => n + 7 - (intOf v).toNat)
  case atStart => exact ⟨0, none, 0, rfl, rfl, Nat.zero_le _, Own.nil _ _ _ _, Fr.refl _ _⟩
  case round =>
    obtain ⟨j, A', c', rfl, rfl, hj, hown, hf⟩ := hrel
    have hs := hf.size
    by_cases hlt : 7 * j < n
    · obtain ⟨k, hk⟩ := hid_ex (min 7 (n - 7 * j))
      have hk0 : 0 < k := by rw [← hk.out]; omega
      have hk7 : k ≤ 7 := by rw [← hk.out]; omega
      have hkn : 7 * j + k ≤ n := by rw [← hk.out]; omega
      have hmin : min (n : Int) (7 * (j : Int) + 7) = 7 * (j : Int) + (k : Int) := by rw [← hk.out]; omega
      have hif1 : (if (7 * (j : Int) + 7) < (n : Int) then (7 * (j : Int) + 7) else (n : Int)) = 7 * (j : Int) + (k : Int) := by rw [← hk.out]; split <;> omega
      have hif2 : (if (n : Int) < (7 * (j : Int) + 7) then (n : Int) else (7 * (j : Int) + 7)) = 7 * (j : Int) + (k : Int) := by rw [← hk.out]; split <;> omega
      obtain ⟨X, hX⟩ := hid_ex ((bs.drop (7 * j)).take 7)
      have hXl : Hid (X.length = k) := by show _ = _; rw [← hX.out, List.length_take, List.length_drop, hlen.out, ← hk.out]
      have hwj : Hid (ws[j]? = some (Hs.le X)) := by rw [← hX.out]; exact hget.out j hlt
      have hrd := hr.fr hf (fun _ _ e => e)
      have hXget : Hid (∀ m, m < k → ∃ (b off : Nat) (x : UInt8), A = some ⟨b, off, none⟩ ∧ X.drop m = x :: X.drop (m + 1) ∧ wr.cell? ⟨b, off + (7 * j + m), none⟩ = some (.int .u8 (x.toNat : Int))) := by
        intro m hm
        obtain ⟨b', off', u, e, _, hu, hcu⟩ := hrd.at (k := 7 * j + m) (by omega)
        obtain ⟨x, hx, rfl⟩ := byte_of hu
        refine ⟨b', off', x, e, drop_cons ?_, hcu⟩
        rw [← hX.out, List.getElem?_take_of_lt (by omega), List.getElem?_drop]
        exact hx
      clear hk hX
      go_wp2_with (fail)
      go_loopw [5, 6] (fun u v wy => ∃ m : Nat, u = .int .u64 (Hs.le (X.drop m) : Int) ∧ v = .int .i64 (7 * (j : Int) + (m : Int) - 1) ∧ m ≤ k ∧ wy = wr) (fun _ v _ => (intOf v + 1).toNat)
      case atStart =>
        refine ⟨k, ?_, ?_, Nat.le_refl _, rfl⟩
        · rw [List.drop_eq_nil_iff.2 (by rw [hXl.out]; exact Nat.le_refl _)]; rfl
        · first | rfl | (simp only [hmin]; done) | (simp only [hif1]; done) | (simp only [hif2]; done) | (simp; omega)
      case round =>
        obtain ⟨m, rfl, rfl, hm, rfl⟩ := hrel
        by_cases hm0 : m = 0
        · subst hm0
          have hX0 : X.drop 0 = X := rfl
          rw [hX0]
          have hlX : Hs.le X < 18446744073709551616 := by
            have h1 := Hs.le_lt X
            have h2 : 256 ^ X.length ≤ 256 ^ 7 := Nat.pow_le_pow_right (by omega) (by rw [hXl.out]; omega)
            have h4 : (256 : Nat) ^ 7 = 72057594037927936 := by decide
            omega
          have htake : Hid (ws.take (j + 1) = ws.take j ++ [Hs.le X]) := by
            obtain ⟨h1, h2⟩ := List.getElem?_eq_some_iff.1 hwj.out
            show _ = _
            rw [List.take_succ_eq_append_getElem h1, h2]
          generalize Hs.le X = v at *
          go_wp2_with (first | (at_builtin; go_loud (refine wpList_app (.tmp 32) (.tmp 34) 26 rfl rfl rfl rfl slW (hown.alloc _) (Rd.one _ _ _) (by simp [Value.oneCell']) (by omega) (by omega) (by simp; omega) ?_); intro A1 c1 w1 hown1 hf1 hat1))
          have hown2 : Own w1 w.heap.size 22 1 A1 (j + 1) c1 ((ws.take (j + 1)).map Wv) := by rw [htake.out, List.map_append]; exact hown1
          have hf2 := (hf.alloc (.cells #[.int .u64 (v : Int)] 22)).trans hf1 (hown.notNon (Nat.le_refl _))
          exact ⟨⟨j + 1, A1, c1, by go_num, rfl, by omega, hown2, hf2⟩, by simp [intOf]; omega⟩
        · obtain ⟨m, rfl⟩ : ∃ m', m = m' + 1 := ⟨m - 1, by omega⟩
          obtain ⟨b', off', x, rfl, hdx, hcx⟩ := hXget.out m (by omega)
          have hle : Hid (Hs.le (X.drop m) = x.toNat + 256 * Hs.le (X.drop (m + 1))) := by show _ = _; rw [hdx]; rfl
          have hll : Hs.le (X.drop (m + 1)) < 281474976710656 := by
            have h1 := Hs.le_lt (X.drop (m + 1))
            have h2 : (X.drop (m + 1)).length ≤ 6 := by rw [List.length_drop, hXl.out]; omega
            have h3 : 256 ^ (X.drop (m + 1)).length ≤ 256 ^ 6 := Nat.pow_le_pow_right (by omega) h2
            have h4 : (256 : Nat) ^ 6 = 281474976710656 := by decide
            omega
          have hxl := x.toNat_lt
          clear hdx
          generalize Hs.le (X.drop (m + 1)) = v at *
          have hidx : 7 * (j : Int) + ((m + 1 : Nat) : Int) - 1 = ((7 * j + m : Nat) : Int) := by omega
          rw [hidx]
          go_wp2
          exact ⟨⟨m, congrArg (Value.int .u64) (by rw [hle.out]; omega), by go_num, by omega, by first | rfl | trivial⟩, by simp [intOf]; omega⟩
    · go_wp2
      go_ret
      have hje : j = ws.length := by rw [hwl'.out]; omega
      rw [hje, List.take_length] at hown
      rw [← hje] at hown
      exact ⟨A', c', by rw [← hje]; rfl, by rw [← hje]; exact hown, hf⟩
end Go.Proofs.Ytlcomikbmbnddaa
