/-
  The reference of layer 4, reading, the rest: Int, Many, Bool, Text, Ident, End.
  Conditions: the state lies in a block of its own, above the bytes that it reads; Many's bound is from 0 on.
-/
import Derived.Test.YtkppihpdhildjaaRef04R
namespace Go.Proofs.Ytkppihpdhildjaa
open Go.RowKit

theorem iNum_any (B g : Nat) (bs : List UInt8) (a : Nat) (e : Int) (v a' : Nat) (e' : Int) (w : World) (hin : IAt w B g bs a e) (hrd : Hid (Pk.rd bs a e = (v, a', e'))) :
    Calls Try.prog 44 #[.pointer (some ⟨g, 0, none⟩)] w (IPost B g bs (.int .u64 (v : Int)) a' e' w) := by
  by_cases he : e = 0
  · subst he
    have hr := hrd.out
    cases hfin : Pk.fin (bs.drop a) with
    | none =>
      rw [Pk.rd_none hfin] at hr
      cases hr
      exact iNum_none B g bs a w hin hfin
    | some j =>
      obtain ⟨hjl, _⟩ := Pk.fin_lt _ _ hfin
      have hy : bs[a + j]? = some (bs[a + j]'(by simp at hjl; omega)) := List.getElem?_eq_getElem _
      rw [Pk.rd_some hfin hy] at hr
      by_cases hbad : 10 ≤ j ∨ (j = 9 ∧ 1 < (bs[a + j]'(by simp at hjl; omega)).toNat) ∨ (0 < j ∧ (bs[a + j]'(by simp at hjl; omega)).toNat = 0)
      · rw [if_pos hbad] at hr
        cases hr
        exact iNum_bad B g bs a j _ w hin hfin hy hbad
      · rw [if_neg hbad] at hr
        have hV64 : v < 18446744073709551616 := rd_bd hrd
        cases hr
        exact iNum_good B g bs a j _ _ w hin hfin hy hbad rfl hV64
  · have hx := hrd.out
    rw [Pk.rd_ne he] at hx
    cases hx
    have hin0 := hin
    obtain ⟨A, c, hb, hr, hB, ha, hn⟩ := hin0
    have h2 := hb.cell 2
    have t : (e != 0) = true := by rw [bne, beq_f he]; rfl
    go_enter Try.func44, Try.ntmps44
    go_wp2
    go_ret
    exact ⟨rfl, hin, Fr.refl _ _⟩

theorem rdInt_bd {bs : List UInt8} {a : Nat} {e : Int} {v : Int} {a' : Nat} {e' : Int} (h : Hid (Pk.rdInt bs a e = (v, a', e'))) : -9223372036854775808 ≤ v ∧ v ≤ 9223372036854775807 := by
  have h1 := Pk.unfold_bd (Pk.rd_lt bs a e)
  have h2 : Pk.unfold (Pk.rd bs a e).1 = v := by
    have := h.out
    unfold Pk.rdInt at this
    cases this
    rfl
  rw [h2] at h1
  exact h1

theorem iInt_any (B g : Nat) (bs : List UInt8) (a : Nat) (e : Int) (v : Int) (a' : Nat) (e' : Int) (w : World) (hin : IAt w B g bs a e) (hrd : Hid (Pk.rdInt bs a e = (v, a', e'))) :
    Calls Try.prog 21 #[.pointer (some ⟨g, 0, none⟩)] w (IPost B g bs (.int .i64 v) a' e' w) := by
  obtain ⟨v1, a1, e1, hx⟩ := hid_ex3 (Pk.rd bs a e)
  have hv := rd_bd hx
  have hy := hrd.out
  unfold Pk.rdInt at hy
  rw [hx.out] at hy
  have hy' := Lib.hid hy
  clear hy
  by_cases hodd : v1 % 2 = 1
  · have ho : ((v1 : Int) % 2 == 1) = true := beq_t (by omega)
    have hu : Hid (Pk.unfold v1 = -((v1 : Int) / 2) - 1) := by show _ = _; unfold Pk.unfold; rw [if_pos hodd]; omega
    clear hodd
    go_enter Try.func21, Try.ntmps21
    go_wp2_with (fail)
    refine (iNum_any B g bs a e v1 a1 e1 _ hin hx).mono ?_
    rintro _ w1 ⟨rfl, hin1, hf1⟩
    go_wp2
    go_ret
    cases hy'.out
    exact ⟨congrArg (fun z => Ending.returned (.int .i64 z)) hu.out.symm, hin1, hf1⟩
  · have ho : ((v1 : Int) % 2 == 1) = false := beq_f (by omega)
    have hu : Hid (Pk.unfold v1 = (v1 : Int) / 2) := by show _ = _; unfold Pk.unfold; rw [if_neg hodd]; omega
    clear hodd
    go_enter Try.func21, Try.ntmps21
    go_wp2_with (fail)
    refine (iNum_any B g bs a e v1 a1 e1 _ hin hx).mono ?_
    rintro _ w1 ⟨rfl, hin1, hf1⟩
    go_wp2
    go_ret
    cases hy'.out
    exact ⟨congrArg (fun z => Ending.returned (.int .i64 z)) hu.out.symm, hin1, hf1⟩

theorem rdInt_err {bs : List UInt8} {a : Nat} {e : Int} {v : Int} {a' : Nat} {e' : Int} (h : Hid (Pk.rdInt bs a e = (v, a', e'))) (he : e' ≠ 0) : v = 0 ∧ a' = a := by
  have h1 := h.out
  unfold Pk.rdInt at h1
  cases h1
  have := Pk.rd_err (bs := bs) (a := a) (e := e) he
  rw [this.1]
  exact ⟨rfl, this.2⟩

set_option maxHeartbeats 1000000 in
theorem iMany_any (B g : Nat) (bs : List UInt8) (a : Nat) (e most : Int) (v : Int) (a' : Nat) (e' : Int) (w : World) (hin : IAt w B g bs a e) (hm : 0 ≤ most) (hrd : Hid (Pk.rdMany bs a e most = (v, a', e'))) :
    Calls Try.prog 49 #[.pointer (some ⟨g, 0, none⟩), .int .i64 most] w (IPost B g bs (.int .i64 v) a' e' w) := by
  obtain ⟨v1, a1, e1, hx⟩ := hid_ex3 (Pk.rdInt bs a e)
  have hy := hrd.out
  unfold Pk.rdMany at hy
  rw [hx.out] at hy
  have hin0 := hin
  obtain ⟨A, c, hb, hr, hB, ha, hn⟩ := hin0
  have h1 := hb.cell 1
  by_cases he : e1 = 0
  · have t0 : (e1 == 0) = true := beq_t he
    by_cases hbad : v1 < 0 ∨ most < v1
    · rw [if_pos hbad] at hy
      clear he
      have hy' := Lib.hid hy
      clear hy
      rcases hbad with hbad | hbad
      all_goals
        go_enter Try.func49, Try.ntmps49
        go_wp2_with (fail)
        refine (iInt_any B g bs a e v1 a1 e1 _ hin hx).mono ?_
        rintro _ w1 ⟨rfl, hin1, hf1⟩
        obtain ⟨A1, c1, hb1, hr1, _, _, hn1⟩ := hin1
        have g1 := hb1.cell 1
        have g2 := hb1.cell 2
        have q1 := hb1.frozen 1
        have q2 := hb1.frozen 2
        go_wp2
        all_goals
          go_ret
          cases hy'.out
          have hf2 := (((Fr.refl (One g) w1).setOne 2 (.int .i64 7)).setOne 1 (.int .i64 a))
          exact ⟨rfl, ⟨_, _, (hb1.set 2 _).set 1 _, hr1.fr hf2 (fun k hk => One.not hB hk), hB, ha, hn1⟩, hf1.transOne hf2⟩
    · rw [if_neg hbad] at hy
      clear he
      have hy' := Lib.hid hy
      clear hy
      have hb1 : ¬ v1 < 0 := fun h => hbad (.inl h)
      have hb2 : ¬ most < v1 := fun h => hbad (.inr h)
      clear hbad
      go_enter Try.func49, Try.ntmps49
      go_wp2_with (fail)
      refine (iInt_any B g bs a e v1 a1 e1 _ hin hx).mono ?_
      rintro _ w1 ⟨rfl, hin1, hf1⟩
      have hin2 := hin1
      obtain ⟨A1, c1, hb1, hr1, _, _, hn1⟩ := hin2
      have g2 := hb1.cell 2
      go_wp2
      go_ret
      cases hy'.out
      exact ⟨rfl, hin1, hf1⟩
  · have t0 : (e1 == 0) = false := beq_f he
    obtain ⟨rfl, rfl⟩ := rdInt_err hx he
    rw [if_neg (by omega)] at hy
    clear he
    have hy' := Lib.hid hy
    clear hy
    go_enter Try.func49, Try.ntmps49
    go_wp2_with (fail)
    refine (iInt_any B g bs _ e 0 _ e1 _ hin hx).mono ?_
    rintro _ w1 ⟨rfl, hin1, hf1⟩
    have hin2 := hin1
    obtain ⟨A1, c1, hb1, hr1, _, _, hn1⟩ := hin2
    have g2 := hb1.cell 2
    go_wp2
    go_ret
    cases hy'.out
    exact ⟨rfl, hin1, hf1⟩

/-- A truth, out of a number. -/
theorem rdBool_int (bs : List UInt8) (a : Nat) (e : Int) : Pk.rdBool bs a e =
    if (Pk.rdInt bs a e).2.2 = 0 ∧ (Pk.rdInt bs a e).1 ≠ 0 ∧ (Pk.rdInt bs a e).1 ≠ 1 then (false, a, 7) else (decide ((Pk.rdInt bs a e).1 = 1), (Pk.rdInt bs a e).2) := by
  unfold Pk.rdBool Pk.rdInt
  have h0 : ∀ u : Nat, Pk.unfold u = 0 ↔ u = 0 := fun u => by unfold Pk.unfold; split <;> omega
  have h1 : ∀ u : Nat, Pk.unfold u = 1 ↔ u = 2 := fun u => by unfold Pk.unfold; split <;> omega
  simp only [ne_eq, h0, h1]
  by_cases he : (Pk.rd bs a e).2.2 = 0
  · simp only [he, true_and]
  · have := Pk.rd_err he
    simp [this.1, he]

set_option maxHeartbeats 1000000 in
theorem iBool_any (B g : Nat) (bs : List UInt8) (a : Nat) (e : Int) (v : Bool) (a' : Nat) (e' : Int) (w : World) (hin : IAt w B g bs a e) (hrd : Hid (Pk.rdBool bs a e = (v, a', e'))) :
    Calls Try.prog 51 #[.pointer (some ⟨g, 0, none⟩)] w (IPost B g bs (.bool v) a' e' w) := by
  obtain ⟨v1, a1, e1, hx⟩ := hid_ex3 (Pk.rdInt bs a e)
  have hy := hrd.out
  rw [rdBool_int, hx.out] at hy
  have hin0 := hin
  obtain ⟨A, c, hb, hr, hB, ha, hn⟩ := hin0
  have h1 := hb.cell 1
  by_cases hbad : e1 = 0 ∧ v1 ≠ 0 ∧ v1 ≠ 1
  · rw [if_pos hbad] at hy
    obtain ⟨p0, p1, p2⟩ := hbad
    have t0 : (e1 == 0) = true := beq_t p0
    have t1 : (v1 != 0) = true := by rw [bne, beq_f p1]; rfl
    have t2 : (v1 != 1) = true := by rw [bne, beq_f p2]; rfl
    clear p0 p1 p2
    have hy' := Lib.hid hy
    clear hy
    go_enter Try.func51, Try.ntmps51
    go_wp2_with (fail)
    refine (iInt_any B g bs a e v1 a1 e1 _ hin hx).mono ?_
    rintro _ w1 ⟨rfl, hin1, hf1⟩
    obtain ⟨A1, c1, hb1, hr1, _, _, hn1⟩ := hin1
    have g1 := hb1.cell 1
    have g2 := hb1.cell 2
    have q1 := hb1.frozen 1
    have q2 := hb1.frozen 2
    go_wp2
    go_ret
    cases hy'.out
    have hf2 := (((Fr.refl (One g) w1).setOne 2 (.int .i64 7)).setOne 1 (.int .i64 a))
    exact ⟨rfl, ⟨_, _, (hb1.set 2 _).set 1 _, hr1.fr hf2 (fun k hk => One.not hB hk), hB, ha, hn1⟩, hf1.transOne hf2⟩
  · rw [if_neg hbad] at hy
    have hway : ((e1 == 0) = false ∧ (v1 == 1) = decide (v1 = 1)) ∨ ((e1 == 0) = true ∧ (v1 != 0) = false ∧ (v1 == 1) = decide (v1 = 1)) ∨ ((e1 == 0) = true ∧ (v1 != 0) = true ∧ (v1 != 1) = false ∧ (v1 == 1) = decide (v1 = 1)) := by
      have hd : (v1 == 1) = decide (v1 = 1) := by rw [Bool.eq_iff_iff]; simp
      by_cases q0 : e1 = 0
      · by_cases q1 : v1 = 0
        · exact .inr (.inl ⟨beq_t q0, by rw [bne, beq_t q1]; rfl, hd⟩)
        · have q2 : v1 = 1 := by
            rcases Classical.em (v1 = 1) with h | h
            · exact h
            · exact absurd ⟨q0, q1, h⟩ hbad
          exact .inr (.inr ⟨beq_t q0, by rw [bne, beq_f q1]; rfl, by rw [bne, beq_t q2]; rfl, hd⟩)
      · exact .inl ⟨beq_f q0, hd⟩
    clear hbad
    have hy' := Lib.hid hy
    clear hy
    rcases hway with ⟨t0, t3⟩ | ⟨t0, t1, t3⟩ | ⟨t0, t1, t2, t3⟩
    all_goals
      go_enter Try.func51, Try.ntmps51
      go_wp2_with (fail)
      refine (iInt_any B g bs a e v1 a1 e1 _ hin hx).mono ?_
      rintro _ w1 ⟨rfl, hin1, hf1⟩
      have hin2 := hin1
      obtain ⟨A1, c1, hb1, hr1, _, _, hn1⟩ := hin2
      have g2 := hb1.cell 2
      go_wp2
      go_ret
      cases hy'.out
      exact ⟨by first | rfl | simp, hin1, hf1⟩
end Go.Proofs.Ytkppihpdhildjaa
