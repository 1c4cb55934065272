/-
  What is written is read back (all six kinds), and what is cut off is short. Plain Lean.
-/
import Derived.Test.YtahcddlgghipjaaGreatDoorPackIn2
namespace Go.Proofs.YtahcddlgghipjaaGreatDoor
open Go.RowKit
namespace Pk
theorem drop_lt {bs x r : List UInt8} {a : Nat} (h : bs.drop a = x ++ r) (hx : 0 < x.length) : a + x.length + r.length = bs.length := by
  have := congrArg List.length h
  rw [List.length_drop, List.length_append] at this
  omega
theorem drop_more {bs x r : List UInt8} {a : Nat} (h : bs.drop a = x ++ r) : bs.drop (a + x.length) = r := by
  rw [← List.drop_drop, h, List.drop_left]
theorem back_num {bs r : List UInt8} {a u : Nat} (hu : u < 18446744073709551616) (h : bs.drop a = num u ++ r) : rd bs a 0 = (u, a + (num u).length, 0) := rd_num hu h
theorem back_int {bs r : List UInt8} {a : Nat} {n : Int} (h0 : -9223372036854775808 ≤ n) (h1 : n ≤ 9223372036854775807) (h : bs.drop a = int n ++ r) : rdInt bs a 0 = (n, a + (int n).length, 0) := by
  unfold rdInt
  rw [rd_num (fold_lt h0 h1) h, unfold_fold]
  rfl
theorem back_many {bs r : List UInt8} {a : Nat} {n M : Int} (h0 : 0 ≤ n) (h1 : n ≤ 9223372036854775807) (hM : n ≤ M) (h : bs.drop a = int n ++ r) : rdMany bs a 0 M = (n, a + (int n).length, 0) := by
  unfold rdMany
  rw [back_int (by omega) h1 h, if_neg (by show ¬ (n < 0 ∨ M < n); omega)]
theorem back_bool {bs r : List UInt8} {a : Nat} {b : Bool} (h : bs.drop a = bool b ++ r) : rdBool bs a 0 = (b, a + (bool b).length, 0) := by
  unfold rdBool
  cases b
  · have h' := rd_num (n := 0) (by omega) h
    rw [show bool false = num 0 from rfl, h']; rfl
  · have h' := rd_num (n := 2) (by omega) h
    rw [show bool true = num 2 from rfl, h']; rfl
theorem back_text {bs s r : List UInt8} {a : Nat} (hs : s.length ≤ 9223372036854775807) (h : bs.drop a = text s ++ r) : rdText bs a 0 = (s, a + (text s).length, 0) := by
  have hf : fold (s.length : Int) = 2 * s.length := by unfold fold; rw [if_neg (by omega)]; omega
  have e : text s = num (2 * s.length) ++ s := by unfold text int; rw [hf]
  rw [e, List.append_assoc] at h
  have hd := drop_lt h (num_pos _)
  rw [List.length_append] at hd
  have hm := drop_more h
  unfold rdText
  rw [rd_num (by omega) h, if_neg (by simp), if_neg (by show ¬ (2 * s.length % 2 = 1); omega), if_neg (by show ¬ (bs.length < a + (num (2 * s.length)).length + 2 * s.length / 2); omega)]
  show ((bs.drop (a + (num (2 * s.length)).length)).take (2 * s.length / 2), a + (num (2 * s.length)).length + 2 * s.length / 2, (0 : Int)) = _
  rw [hm, show 2 * s.length / 2 = s.length by omega, List.take_left, e, List.length_append, Nat.add_assoc]
theorem back_ident {bs r : List UInt8} {a : Nat} {b s : Int} {u : Nat} (b0 : -9223372036854775808 ≤ b) (b1 : b ≤ 9223372036854775807) (s0 : -9223372036854775808 ≤ s) (s1 : s ≤ 9223372036854775807) (hu : u < 18446744073709551616)
    (h : bs.drop a = ident b s u ++ r) : rdIdent bs a 0 = ((b, s, u), a + (ident b s u).length, 0) := by
  unfold ident at h ⊢
  rw [List.append_assoc, List.append_assoc] at h
  have h1 := back_int b0 b1 h
  have h' := drop_more h
  have h2 := back_int s0 s1 h'
  have h'' := drop_more h'
  have h3 := rd_num hu h''
  unfold rdIdent
  simp only [h1, h2, h3]
  simp [Nat.add_assoc]

/-- Cut off: short. -/
theorem cut_num {u j : Nat} (hu : u < 18446744073709551616) (hj : j < (num u).length) : rd ((num u).take j) 0 0 = (0, 0, 9) := by
  unfold rd
  rw [if_pos rfl, List.drop_zero, go_cut0 u hu hj]
theorem cut_int {n : Int} {j : Nat} (h0 : -9223372036854775808 ≤ n) (h1 : n ≤ 9223372036854775807) (hj : j < (int n).length) : rdInt ((int n).take j) 0 0 = (0, 0, 9) := by
  unfold rdInt int at *
  rw [cut_num (fold_lt h0 h1) hj]; rfl
theorem cut_many {n M : Int} {j : Nat} (h0 : -9223372036854775808 ≤ n) (h1 : n ≤ 9223372036854775807) (hM : 0 ≤ M) (hj : j < (int n).length) : rdMany ((int n).take j) 0 0 M = (0, 0, 9) := by
  unfold rdMany
  rw [cut_int h0 h1 hj, if_neg (by show ¬ ((0 : Int) < 0 ∨ M < 0); omega)]
theorem cut_bool {b : Bool} {j : Nat} (hj : j < (bool b).length) : rdBool ((bool b).take j) 0 0 = (false, 0, 9) := by
  have h : rd ((bool b).take j) 0 0 = (0, 0, 9) := by
    cases b
    · exact cut_num (u := 0) (by omega) hj
    · exact cut_num (u := 2) (by omega) hj
  unfold rdBool
  rw [h]; rfl
theorem cut_text {s : List UInt8} {j : Nat} (hs : s.length ≤ 9223372036854775807) (hj : j < (text s).length) : rdText ((text s).take j) 0 0 = ([], 0, 9) := by
  have hf : fold (s.length : Int) = 2 * s.length := by unfold fold; rw [if_neg (by omega)]; omega
  have e : text s = num (2 * s.length) ++ s := by unfold text int; rw [hf]
  rw [e] at hj ⊢
  rw [List.length_append] at hj
  by_cases h : j < (num (2 * s.length)).length
  · have h1 : (num (2 * s.length) ++ s).take j = (num (2 * s.length)).take j := by rw [List.take_append_of_le_length (by omega)]
    rw [h1]
    unfold rdText
    rw [cut_num (by omega) h, if_pos (by simp)]
  · have h1 : (num (2 * s.length) ++ s).take j = num (2 * s.length) ++ s.take (j - (num (2 * s.length)).length) := by
      rw [List.take_append, List.take_of_length_le (by omega)]
    rw [h1]
    unfold rdText
    rw [rd_num (a := 0) (by omega) List.drop_zero, if_neg (by simp), if_neg (by show ¬ (2 * s.length % 2 = 1); omega), if_pos]
    show List.length _ < 0 + (num (2 * s.length)).length + 2 * s.length / 2
    rw [List.length_append, List.length_take]
    omega
theorem unfold0 : unfold 0 = 0 := by decide
theorem rd_9 (bs : List UInt8) (a : Nat) : rd bs a 9 = (0, a, 9) := rd_ne (by decide)
theorem rdInt_9 (bs : List UInt8) (a : Nat) : rdInt bs a 9 = (0, a, 9) := by
  unfold rdInt; rw [rd_9]; show (unfold 0, a, (9 : Int)) = _; rw [unfold0]
theorem cut_rd {bs : List UInt8} {a u j : Nat} (hu : u < 18446744073709551616) (hj : j < (num u).length) (h : bs.drop a = (num u).take j) : rd bs a 0 = (0, a, 9) := by
  unfold rd
  rw [if_pos rfl, h, go_cut0 u hu hj]
theorem cut_rdInt {bs : List UInt8} {a j : Nat} {n : Int} (h0 : -9223372036854775808 ≤ n) (h1 : n ≤ 9223372036854775807) (hj : j < (int n).length) (h : bs.drop a = (int n).take j) : rdInt bs a 0 = (0, a, 9) := by
  have h := cut_rd (fold_lt h0 h1) hj h
  unfold rdInt; rw [h]; show (unfold 0, a, (9 : Int)) = _; rw [unfold0]
theorem cut_ident {b s : Int} {u j : Nat} (b0 : -9223372036854775808 ≤ b) (b1 : b ≤ 9223372036854775807) (s0 : -9223372036854775808 ≤ s) (s1 : s ≤ 9223372036854775807) (hu : u < 18446744073709551616)
    (hj : j < (ident b s u).length) : rdIdent ((ident b s u).take j) 0 0 = ((0, 0, 0), 0, 9) := by
  obtain ⟨bs, hbs⟩ : ∃ bs, bs = (ident b s u).take j := ⟨_, rfl⟩
  have key : (rd bs (rdInt bs (rdInt bs 0 0).2.1 (rdInt bs 0 0).2.2).2.1 (rdInt bs (rdInt bs 0 0).2.1 (rdInt bs 0 0).2.2).2.2).2.2 = 9 := by
    unfold ident at hj hbs
    rw [List.append_assoc] at hj hbs
    rw [List.length_append, List.length_append] at hj
    by_cases h1 : j < (int b).length
    · rw [List.take_append_of_le_length (by omega)] at hbs
      have g1 : rdInt bs 0 0 = (0, 0, 9) := cut_rdInt (a := 0) b0 b1 h1 (by rw [hbs, List.drop_zero])
      simp only [g1, rdInt_9, rd_9]
    · rw [List.take_append, List.take_of_length_le (show (int b).length ≤ j by omega)] at hbs
      have g1 : rdInt bs 0 0 = (b, 0 + (int b).length, 0) := back_int (a := 0) b0 b1 (by rw [hbs, List.drop_zero])
      have hd : bs.drop (0 + (int b).length) = (int s ++ num u).take (j - (int b).length) := by rw [Nat.zero_add, hbs, List.drop_left]
      by_cases h2 : j - (int b).length < (int s).length
      · rw [List.take_append_of_le_length (by omega)] at hd
        have g2 := cut_rdInt s0 s1 h2 hd
        simp only [g1, g2, rd_9]
      · rw [List.take_append, List.take_of_length_le (show (int s).length ≤ j - (int b).length by omega)] at hd
        have g2 := back_int s0 s1 hd
        have g3 := cut_rd hu (j := j - (int b).length - (int s).length) (by omega) (drop_more hd)
        simp only [g1, g2, g3]
  rw [← hbs]
  unfold rdIdent
  rw [if_pos (by rw [key]; decide), key]
end Pk

end Go.Proofs.YtahcddlgghipjaaGreatDoor
