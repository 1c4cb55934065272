/-
  get: one thing is read by the program and by the reference side by side, and nothing differs.
-/
import Derived.Test.YtkppihpdhildjaaRef04R3
import Derived.Test.YtkppihpdhildjaaPackBack
import Derived.Test.YtkppihpdhildjaaOpenAny
namespace Go.Proofs.Ytkppihpdhildjaa
open Go.RowKit

theorem iEnd_quiet (B g : Nat) (bs : List UInt8) (a : Nat) (e : Int) (w : World) (hin : IAt w B g bs a e) :
    Calls Try.prog 52 #[.pointer (some ⟨g, 0, none⟩)] w fun r w' => r = .returned (.int .i64 (Pk.endE bs a e)) ∧ ∃ n, w' = w.drewN n := by
  have hin0 := hin
  obtain ⟨A, c, hb, hr, hB, ha, hn⟩ := hin0
  have h0 := hb.cell 0
  have h1 := hb.cell 1
  have h2 := hb.cell 2
  by_cases he : e = 0
  · have hz : (e == 0) = true := beq_t he
    rcases Nat.lt_or_ge a bs.length with hlt | hge
    · have hE : Hid (Pk.endE bs a e = 2) := if_pos ⟨he, hlt⟩
      clear he
      go_enter Try.func52, Try.ntmps52
      go_wp2
      go_quiet (fail)
      go_wp2
      go_ret
      exact ⟨congrArg (fun z => Ending.returned (.int .i64 z)) hE.out.symm, _, rfl⟩
    · have hE : Hid (Pk.endE bs a e = e) := if_neg (fun h => absurd h.2 (by omega))
      have hd : decide ((a : Int) < (bs.length : Int)) = false := by simp; omega
      clear he
      go_enter Try.func52, Try.ntmps52
      go_wp2
      go_quiet (fail)
      go_wp2
      go_ret
      exact ⟨congrArg (fun z => Ending.returned (.int .i64 z)) hE.out.symm, _, rfl⟩
  · have hz : (e == 0) = false := beq_f he
    have hE : Hid (Pk.endE bs a e = e) := if_neg (fun h => he h.1)
    clear he
    go_enter Try.func52, Try.ntmps52
    go_wp2
    go_quiet (fail)
    go_wp2
    go_ret
    exact ⟨congrArg (fun z => Ending.returned (.int .i64 z)) hE.out.symm, _, rfl⟩

theorem inEnd_quiet (B g : Nat) (bs : List UInt8) (a : Nat) (e : Int) (w : World) (hin : InAt w B g bs a e) :
    Calls Try.prog 31 #[.pointer (some ⟨g, 0, none⟩)] w fun r w' => r = .returned (.int .i64 (Pk.endE bs a e)) ∧ ∃ n, w' = w.drewN n := by
  have hin0 := hin
  obtain ⟨A, c, hb, hr, hB, ha, hn⟩ := hin0
  have h2 := hb.cell 2
  by_cases he : e = 0
  · have hz : (e == 0) = true := beq_t he
    have he' := Lib.hid he
    clear he
    rcases Nat.lt_or_ge a bs.length with hlt | hge
    all_goals
      go_enter Try.func31, Try.ntmps31
      go_wp2_with (fail)
      refine (inLeft_quiet B g bs a e _ hin).mono ?_
      rintro _ w1 ⟨rfl, nn, rfl⟩
      go_wp2
      go_ret
      refine ⟨congrArg (fun z => Ending.returned (.int .i64 z)) ?_, _, rfl⟩
      unfold Pk.endE
      rw [he'.out]
      simp
      omega
  · have hz : (e == 0) = false := beq_f he
    have hE : Hid (Pk.endE bs a e = e) := if_neg (fun h => he h.1)
    clear he
    go_enter Try.func31, Try.ntmps31
    go_wp2
    go_ret
    exact ⟨congrArg (fun z => Ending.returned (.int .i64 z)) hE.out.symm, 0, rfl⟩

attribute [local go_sem ↓] Go.wp_at_zero Go.wp_at_succ
def Two (g gi : Nat) : Nat → Prop := fun k => k = g ∨ k = gi
def GetPost (B Bi g gi : Nat) (bs : List UInt8) (w : World) (r : Ending) (w' : World) : Prop :=
  r = .returned (.bool true) ∧ ∃ (a' : Nat) (e' : Int), InAt w' Bi g bs a' e' ∧ IAt w' B gi bs a' e' ∧ Fr (Two g gi) w w'

set_option maxRecDepth 100000 in
set_option maxHeartbeats 8000000 in
theorem get_any (B Bi g gi : Nat) (bs : List UInt8) (a : Nat) (e : Int) (d n : Int) (s : List UInt8) (w : World) (hin : InAt w Bi g bs a e) (hi : IAt w B gi bs a e) (hBg : B ≤ g) (hBgi : Bi ≤ gi) (hgg : g ≠ gi)
    (d0 : -9223372036854775808 ≤ d) (d1 : d ≤ 9223372036854775807) :
    Calls Try.prog 37 #[.pointer (some ⟨g, 0, none⟩), .pointer (some ⟨gi, 0, none⟩), OV d n s] w (GetPost B Bi g gi bs w) := by
  unfold OV
  have hb0 := Blk.new w 35 #[.int .i64 d, .int .i64 n, .string (str s)]
  have c0 := hb0.cell 0
  have hin0 := hin.alloc (.cells #[.int .i64 d, .int .i64 n, .string (str s)] 35)
  have hi0 := hi.alloc (.cells #[.int .i64 d, .int .i64 n, .string (str s)] 35)
  have hff : Fr (Two g gi) w (w.alloc (.cells #[.int .i64 d, .int .i64 n, .string (str s)] 35)) := (Fr.refl _ _).alloc _
  obtain ⟨K, hK⟩ := hid_ex (around d 7)
  rcases kinds K with hk | ⟨k1', hk⟩ | ⟨k1', k2', hk⟩ | ⟨k1', k2', k3', hk⟩ | ⟨k1', k2', k3', k4', hk⟩ | ⟨k1', k2', k3', k4', hk⟩
  · obtain ⟨v, a', e', hx⟩ := hid_ex3 (Pk.rd bs a e)
    go_enter Try.func37, Try.ntmps37
    go_wp2_with (fail)
    refine (around_any d 7 _ d0 d1 (by omega) (by omega)).mono ?_
    rw [hK.out]
    rintro _ _ ⟨rfl, rfl⟩
    go_wp2_with (fail)
    refine (inNum_any Bi g bs a e v a' e' _ hin0 hx).mono ?_
    rintro _ w4 ⟨rfl, hin4, hf4⟩
    have hi4 := hi0.fr hf4 (fun k hk => One.not hBg hk) (by unfold One; omega)
    go_wp2_with (fail)
    refine (iNum_any B gi bs a e v a' e' _ hi4 hx).mono ?_
    rintro _ w5 ⟨rfl, hi5, hf5⟩
    have hin5 := hin4.fr hf5 (fun k hk => One.not hBgi hk) (by unfold One; omega)
    have hff5 : Fr (Two g gi) w w5 := (hff.trans hf4 (fun k hk e => .inl e)).trans hf5 (fun k hk e => .inr e)
    have hi5' := hi5
    obtain ⟨A5, c5, ib5, ir5, _, ia5, _⟩ := hi5'
    have d0' := ib5.cell 0
    have d1' := ib5.cell 1
    have d2' := ib5.cell 2
    have tl : ((bs.length - a' : Nat) : Int) = (bs.length : Int) - (a' : Int) := by omega
    go_wp2
    go_quiet (first
      | (go_at_call 25; exact Calls.quiet_of (inLeft_quiet Bi g bs a' e' _ (hin5.drewN _)))
      | (go_at_call 22; exact Calls.quiet_of_same (inErr_quiet Bi g bs a' e' _ (hin5.drewN _)))
      | (go_at_call 31; exact Calls.quiet_of (inEnd_quiet Bi g bs a' e' _ (hin5.drewN _)))
      | (go_at_call 52; exact Calls.quiet_of (iEnd_quiet B gi bs a' e' _ (hi5.drewN _))))
    go_wp2
    go_ret
    exact ⟨rfl, a', e', hin5.drewN _, hi5.drewN _, hff5.drewN _⟩
  · obtain ⟨⟨vb, vs, vu⟩, a', e', hx⟩ := hid_ex3 (Pk.rdIdent bs a e)
    go_enter Try.func37, Try.ntmps37
    go_wp2_with (fail)
    refine (around_any d 7 _ d0 d1 (by omega) (by omega)).mono ?_
    rw [hK.out]
    rintro _ _ ⟨rfl, rfl⟩
    go_wp2_with (fail)
    refine (inIdent_any Bi g bs a e vb vs vu a' e' _ hin0 hx).mono ?_
    rintro _ w4 ⟨rfl, hin4, hf4⟩
    have hi4 := hi0.fr hf4 (fun k hk => One.not hBg hk) (by unfold One; omega)
    go_wp2_with (fail)
    refine (iIdent_any B gi bs a e vb vs vu a' e' _ hi4 hx).mono ?_
    rintro _ w5 ⟨rfl, hi5, hf5⟩
    have hin5 := hin4.fr hf5 (fun k hk => One.not hBgi hk) (by unfold One; omega)
    have hff5 : Fr (Two g gi) w w5 := (hff.trans hf4 (fun k hk e => .inl e)).trans hf5 (fun k hk e => .inr e)
    have hi5' := hi5
    obtain ⟨A5, c5, ib5, ir5, _, ia5, _⟩ := hi5'
    have d0' := ib5.cell 0
    have d1' := ib5.cell 1
    have d2' := ib5.cell 2
    have tl : ((bs.length - a' : Nat) : Int) = (bs.length : Int) - (a' : Int) := by omega
    go_wp2
    go_quiet (first
      | (go_at_call 25; exact Calls.quiet_of (inLeft_quiet Bi g bs a' e' _ (hin5.drewN _)))
      | (go_at_call 22; exact Calls.quiet_of_same (inErr_quiet Bi g bs a' e' _ (hin5.drewN _)))
      | (go_at_call 31; exact Calls.quiet_of (inEnd_quiet Bi g bs a' e' _ (hin5.drewN _)))
      | (go_at_call 52; exact Calls.quiet_of (iEnd_quiet B gi bs a' e' _ (hi5.drewN _))))
    go_wp2
    go_ret
    exact ⟨rfl, a', e', hin5.drewN _, hi5.drewN _, hff5.drewN _⟩
  · obtain ⟨v, a', e', hx⟩ := hid_ex3 (Pk.rdMany bs a e 20)
    go_enter Try.func37, Try.ntmps37
    go_wp2_with (fail)
    refine (around_any d 7 _ d0 d1 (by omega) (by omega)).mono ?_
    rw [hK.out]
    rintro _ _ ⟨rfl, rfl⟩
    go_wp2_with (fail)
    refine (inMany_any Bi g bs a e 20 v a' e' _ hin0 hx).mono ?_
    rintro _ w4 ⟨rfl, hin4, hf4⟩
    have hi4 := hi0.fr hf4 (fun k hk => One.not hBg hk) (by unfold One; omega)
    go_wp2_with (fail)
    refine (iMany_any B gi bs a e 20 v a' e' _ hi4 (by omega) hx).mono ?_
    rintro _ w5 ⟨rfl, hi5, hf5⟩
    have hin5 := hin4.fr hf5 (fun k hk => One.not hBgi hk) (by unfold One; omega)
    have hff5 : Fr (Two g gi) w w5 := (hff.trans hf4 (fun k hk e => .inl e)).trans hf5 (fun k hk e => .inr e)
    have hi5' := hi5
    obtain ⟨A5, c5, ib5, ir5, _, ia5, _⟩ := hi5'
    have d0' := ib5.cell 0
    have d1' := ib5.cell 1
    have d2' := ib5.cell 2
    have tl : ((bs.length - a' : Nat) : Int) = (bs.length : Int) - (a' : Int) := by omega
    go_wp2
    go_quiet (first
      | (go_at_call 25; exact Calls.quiet_of (inLeft_quiet Bi g bs a' e' _ (hin5.drewN _)))
      | (go_at_call 22; exact Calls.quiet_of_same (inErr_quiet Bi g bs a' e' _ (hin5.drewN _)))
      | (go_at_call 31; exact Calls.quiet_of (inEnd_quiet Bi g bs a' e' _ (hin5.drewN _)))
      | (go_at_call 52; exact Calls.quiet_of (iEnd_quiet B gi bs a' e' _ (hi5.drewN _))))
    go_wp2
    go_ret
    exact ⟨rfl, a', e', hin5.drewN _, hi5.drewN _, hff5.drewN _⟩
  · obtain ⟨v, a', e', hx⟩ := hid_ex3 (Pk.rdText bs a e)
    go_enter Try.func37, Try.ntmps37
    go_wp2_with (fail)
    refine (around_any d 7 _ d0 d1 (by omega) (by omega)).mono ?_
    rw [hK.out]
    rintro _ _ ⟨rfl, rfl⟩
    go_wp2_with (fail)
    refine (inText_any Bi g bs a e v a' e' _ hin0 hx).mono ?_
    rintro _ w4 ⟨rfl, hin4, hf4⟩
    have hi4 := hi0.fr hf4 (fun k hk => One.not hBg hk) (by unfold One; omega)
    go_wp2_with (fail)
    refine (iText_any B gi bs a e v a' e' _ hi4 hx).mono ?_
    rintro _ w5 ⟨rfl, hi5, hf5⟩
    have hin5 := hin4.fr hf5 (fun k hk => One.not hBgi hk) (by unfold One; omega)
    have hff5 : Fr (Two g gi) w w5 := (hff.trans hf4 (fun k hk e => .inl e)).trans hf5 (fun k hk e => .inr e)
    have hi5' := hi5
    obtain ⟨A5, c5, ib5, ir5, _, ia5, _⟩ := hi5'
    have d0' := ib5.cell 0
    have d1' := ib5.cell 1
    have d2' := ib5.cell 2
    have tl : ((bs.length - a' : Nat) : Int) = (bs.length : Int) - (a' : Int) := by omega
    go_wp2
    go_quiet (first
      | (go_at_call 25; exact Calls.quiet_of (inLeft_quiet Bi g bs a' e' _ (hin5.drewN _)))
      | (go_at_call 22; exact Calls.quiet_of_same (inErr_quiet Bi g bs a' e' _ (hin5.drewN _)))
      | (go_at_call 31; exact Calls.quiet_of (inEnd_quiet Bi g bs a' e' _ (hin5.drewN _)))
      | (go_at_call 52; exact Calls.quiet_of (iEnd_quiet B gi bs a' e' _ (hi5.drewN _))))
    go_wp2
    go_ret
    exact ⟨rfl, a', e', hin5.drewN _, hi5.drewN _, hff5.drewN _⟩
  · obtain ⟨v, a', e', hx⟩ := hid_ex3 (Pk.rdBool bs a e)
    go_enter Try.func37, Try.ntmps37
    go_wp2_with (fail)
    refine (around_any d 7 _ d0 d1 (by omega) (by omega)).mono ?_
    rw [hK.out]
    rintro _ _ ⟨rfl, rfl⟩
    go_wp2_with (fail)
    refine (inBool_any Bi g bs a e v a' e' _ hin0 hx).mono ?_
    rintro _ w4 ⟨rfl, hin4, hf4⟩
    have hi4 := hi0.fr hf4 (fun k hk => One.not hBg hk) (by unfold One; omega)
    go_wp2_with (fail)
    refine (iBool_any B gi bs a e v a' e' _ hi4 hx).mono ?_
    rintro _ w5 ⟨rfl, hi5, hf5⟩
    have hin5 := hin4.fr hf5 (fun k hk => One.not hBgi hk) (by unfold One; omega)
    have hff5 : Fr (Two g gi) w w5 := (hff.trans hf4 (fun k hk e => .inl e)).trans hf5 (fun k hk e => .inr e)
    have hi5' := hi5
    obtain ⟨A5, c5, ib5, ir5, _, ia5, _⟩ := hi5'
    have d0' := ib5.cell 0
    have d1' := ib5.cell 1
    have d2' := ib5.cell 2
    have tl : ((bs.length - a' : Nat) : Int) = (bs.length : Int) - (a' : Int) := by omega
    go_wp2
    go_quiet (first
      | (go_at_call 25; exact Calls.quiet_of (inLeft_quiet Bi g bs a' e' _ (hin5.drewN _)))
      | (go_at_call 22; exact Calls.quiet_of_same (inErr_quiet Bi g bs a' e' _ (hin5.drewN _)))
      | (go_at_call 31; exact Calls.quiet_of (inEnd_quiet Bi g bs a' e' _ (hin5.drewN _)))
      | (go_at_call 52; exact Calls.quiet_of (iEnd_quiet B gi bs a' e' _ (hi5.drewN _))))
    go_wp2
    go_ret
    exact ⟨rfl, a', e', hin5.drewN _, hi5.drewN _, hff5.drewN _⟩
  · obtain ⟨v, a', e', hx⟩ := hid_ex3 (Pk.rdInt bs a e)
    go_enter Try.func37, Try.ntmps37
    go_wp2_with (fail)
    refine (around_any d 7 _ d0 d1 (by omega) (by omega)).mono ?_
    rw [hK.out]
    rintro _ _ ⟨rfl, rfl⟩
    go_wp2_with (fail)
    refine (inInt_any Bi g bs a e v a' e' _ hin0 hx).mono ?_
    rintro _ w4 ⟨rfl, hin4, hf4⟩
    have hi4 := hi0.fr hf4 (fun k hk => One.not hBg hk) (by unfold One; omega)
    go_wp2_with (fail)
    refine (iInt_any B gi bs a e v a' e' _ hi4 hx).mono ?_
    rintro _ w5 ⟨rfl, hi5, hf5⟩
    have hin5 := hin4.fr hf5 (fun k hk => One.not hBgi hk) (by unfold One; omega)
    have hff5 : Fr (Two g gi) w w5 := (hff.trans hf4 (fun k hk e => .inl e)).trans hf5 (fun k hk e => .inr e)
    have hi5' := hi5
    obtain ⟨A5, c5, ib5, ir5, _, ia5, _⟩ := hi5'
    have d0' := ib5.cell 0
    have d1' := ib5.cell 1
    have d2' := ib5.cell 2
    have tl : ((bs.length - a' : Nat) : Int) = (bs.length : Int) - (a' : Int) := by omega
    go_wp2
    go_quiet (first
      | (go_at_call 25; exact Calls.quiet_of (inLeft_quiet Bi g bs a' e' _ (hin5.drewN _)))
      | (go_at_call 22; exact Calls.quiet_of_same (inErr_quiet Bi g bs a' e' _ (hin5.drewN _)))
      | (go_at_call 31; exact Calls.quiet_of (inEnd_quiet Bi g bs a' e' _ (hin5.drewN _)))
      | (go_at_call 52; exact Calls.quiet_of (iEnd_quiet B gi bs a' e' _ (hi5.drewN _))))
    go_wp2
    go_ret
    exact ⟨rfl, a', e', hin5.drewN _, hi5.drewN _, hff5.drewN _⟩
end Go.Proofs.Ytkppihpdhildjaa
