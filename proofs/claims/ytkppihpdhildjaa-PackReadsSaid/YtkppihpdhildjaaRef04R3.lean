/-
  The reference of layer 4, reading: Text, Ident, End.
  Condition: the state lies in a block of its own, above the bytes that it reads.
-/
import Derived.Test.YtkppihpdhildjaaRef04R2
namespace Go.Proofs.Ytkppihpdhildjaa
open Go.RowKit

theorem iEnd_any (B g : Nat) (bs : List UInt8) (a : Nat) (e : Int) (w : World) (hin : IAt w B g bs a e) :
    Calls Try.prog 52 #[.pointer (some ⟨g, 0, none⟩)] w (IPost B g bs (.int .i64 (Pk.endE bs a e)) a e w) := by
  have hin0 := hin
  obtain ⟨A, c, hb, hr, hB, ha, hn⟩ := hin0
  have h0 := hb.cell 0
  have h1 := hb.cell 1
  have h2 := hb.cell 2
  by_cases he : e = 0
  · have hz : (e == 0) = true := beq_t he
    rcases Nat.lt_or_ge a bs.length with hlt | hge
    · have hE : Hid (Pk.endE bs a e = 2) := if_pos ⟨he, hlt⟩
      clear he
      go_enter Try.func52, Try.ntmps52
      go_wp2
      go_quiet (fail)
      go_wp2
      go_ret
      exact ⟨congrArg (fun z => Ending.returned (.int .i64 z)) hE.out.symm, hin.drewN _, (Fr.refl _ _).drewN _⟩
    · have hE : Hid (Pk.endE bs a e = e) := if_neg (fun h => absurd h.2 (by omega))
      have hd : decide ((a : Int) < (bs.length : Int)) = false := by simp; omega
      clear he
      go_enter Try.func52, Try.ntmps52
      go_wp2
      go_quiet (fail)
      go_wp2
      go_ret
      exact ⟨congrArg (fun z => Ending.returned (.int .i64 z)) hE.out.symm, hin.drewN _, (Fr.refl _ _).drewN _⟩
  · have hz : (e == 0) = false := beq_f he
    have hE : Hid (Pk.endE bs a e = e) := if_neg (fun h => he h.1)
    clear he
    go_enter Try.func52, Try.ntmps52
    go_wp2
    go_quiet (fail)
    go_wp2
    go_ret
    exact ⟨congrArg (fun z => Ending.returned (.int .i64 z)) hE.out.symm, hin.drewN _, (Fr.refl _ _).drewN _⟩

/-- A text, out of a number. -/
theorem rdText_int (bs : List UInt8) (a : Nat) (e : Int) : Pk.rdText bs a e =
    if (Pk.rdInt bs a e).2.2 ≠ 0 then ([], (Pk.rdInt bs a e).2) else if (Pk.rdInt bs a e).1 < 0 then ([], a, 7)
    else if (bs.length : Int) < (Pk.rdInt bs a e).2.1 + (Pk.rdInt bs a e).1 then ([], a, 9)
    else ((bs.drop (Pk.rdInt bs a e).2.1).take (Pk.rdInt bs a e).1.toNat, (Pk.rdInt bs a e).2.1 + (Pk.rdInt bs a e).1.toNat, 0) := by
  unfold Pk.rdText Pk.rdInt
  simp only [ne_eq]
  by_cases he : (Pk.rd bs a e).2.2 = 0
  · simp only [he, not_true_eq_false, if_false]
    by_cases ho : (Pk.rd bs a e).1 % 2 = 1
    · rw [if_pos ho, if_pos (by unfold Pk.unfold; rw [if_pos ho]; omega)]
    · have hu : Pk.unfold (Pk.rd bs a e).1 = (((Pk.rd bs a e).1 / 2 : Nat) : Int) := by unfold Pk.unfold; rw [if_neg ho]
      have hu0 : ¬ ((((Pk.rd bs a e).1 / 2 : Nat) : Int) < 0) := by omega
      rw [if_neg ho, hu, if_neg hu0, Int.toNat_natCast]
      by_cases hl : bs.length < (Pk.rd bs a e).2.1 + (Pk.rd bs a e).1 / 2
      · rw [if_pos hl, if_pos (by omega)]
      · rw [if_neg hl, if_neg (by omega)]
  · simp only [he, not_false_eq_true, if_true]

set_option maxRecDepth 100000 in
set_option maxHeartbeats 2000000 in
theorem iText_any (B g : Nat) (bs : List UInt8) (a : Nat) (e : Int) (s : List UInt8) (a' : Nat) (e' : Int) (w : World) (hin : IAt w B g bs a e) (hrd : Hid (Pk.rdText bs a e = (s, a', e'))) :
    Calls Try.prog 50 #[.pointer (some ⟨g, 0, none⟩)] w (IPost B g bs (.string (str s)) a' e' w) := by
  obtain ⟨v1, a1, e1, hx⟩ := hid_ex3 (Pk.rdInt bs a e)
  have hbd := rdInt_bd hx
  have hy := hrd.out
  rw [rdText_int, hx.out] at hy
  have hin0 := hin
  obtain ⟨A, c, hb, hr, hB, ha, hn⟩ := hin0
  have h1 := hb.cell 1
  by_cases he : e1 = 0
  · have t0 : (e1 != 0) = false := by rw [bne, beq_t he]; rfl
    rw [if_neg (by simpa using he)] at hy
    subst he
    by_cases hneg : v1 < 0
    · rw [if_pos hneg] at hy
      have hy' := Lib.hid hy
      clear hy
      go_enter Try.func50, Try.ntmps50
      go_wp2_with (fail)
      refine (iInt_any B g bs a e v1 a1 0 _ hin hx).mono ?_
      rintro _ w1 ⟨rfl, hin1, hf1⟩
      obtain ⟨A1, c1, hb1, hr1, _, _, hn1⟩ := hin1
      have g1 := hb1.cell 1
      have g2 := hb1.cell 2
      have q1 := hb1.frozen 1
      have q2 := hb1.frozen 2
      go_wp2
      go_ret
      cases hy'.out
      have hf2 := (((Fr.refl (One g) w1).setOne 2 (.int .i64 7)).setOne 1 (.int .i64 a))
      exact ⟨rfl, ⟨_, _, (hb1.set 2 _).set 1 _, hr1.fr hf2 (fun k hk => One.not hB hk), hB, ha, hn1⟩, hf1.transOne hf2⟩
    · rw [if_neg hneg] at hy
      obtain ⟨m, rfl⟩ : ∃ m : Nat, v1 = (m : Int) := ⟨v1.toNat, by omega⟩
      clear hneg
      by_cases hl : (bs.length : Int) < (a1 : Int) + (m : Int)
      · rw [if_pos hl] at hy
        have hy' := Lib.hid hy
        clear hy
        go_enter Try.func50, Try.ntmps50
        go_wp2_with (fail)
        refine (iInt_any B g bs a e _ a1 0 _ hin hx).mono ?_
        rintro _ w1 ⟨rfl, hin1, hf1⟩
        obtain ⟨A1, c1, hb1, hr1, _, ha1, hn1⟩ := hin1
        have g0 := hb1.cell 0
        have g1 := hb1.cell 1
        have g2 := hb1.cell 2
        have q1 := hb1.frozen 1
        have q2 := hb1.frozen 2
        go_wp2
        go_quiet (fail)
        go_wp2
        go_ret
        cases hy'.out
        exact ⟨rfl, ⟨_, _, ((hb1.drewN _).set 2 _).set 1 _, hr1.fr ((((Fr.refl (One g) w1).drewN _).setOne 2 _).setOne 1 _) (fun k hk => One.not hB hk), hB, ha, hn1⟩, hf1.transOne ((((Fr.refl (One g) w1).drewN _).setOne 2 _).setOne 1 _)⟩
      · rw [if_neg hl, Int.toNat_natCast] at hy
        have hy' := Lib.hid hy
        clear hy
        have hle : a1 + m ≤ bs.length := by omega
        go_enter Try.func50, Try.ntmps50
        go_wp2_with (fail)
        refine (iInt_any B g bs a e _ a1 0 _ hin hx).mono ?_
        rintro _ w1 ⟨rfl, hin1, hf1⟩
        obtain ⟨A1, c1, hb1, hr1, _, ha1, hn1, hc1⟩ := hin1
        have g0 := hb1.cell 0
        have g1 := hb1.cell 1
        have g2 := hb1.cell 2
        have q1 := hb1.frozen 1
        have hconv : ∀ nq nr, (convert 24 9 (.slice (if c1 = a1 then A1 else A1.map (·.add a1)) m (c1 - a1))).run Try.prog (((w1.drewN nr).setCell ⟨g, 1, none⟩ (.int .i64 ((a1 : Int) + (m : Int)))).drewN nq) = .ok (.string (str ((bs.drop a1).take m))) (((w1.drewN nr).setCell ⟨g, 1, none⟩ (.int .i64 ((a1 : Int) + (m : Int)))).drewN nq) := by
          intro nq nr
          have hra := hr1.fr ((((Fr.refl (One g) w1).drewN nr).setOne 1 (.int .i64 ((a1 : Int) + (m : Int)))).drewN nq) (fun k hk => One.not hB hk)
          have hrp := hra.part (lo := a1) (hi := a1 + m) (by omega) hle (if c1 = a1 then A1 else A1.map (·.add a1)) (fun hlt => if_neg (by omega))
          rw [← List.map_drop, ← List.map_take, show a1 + m - a1 = m by omega] at hrp
          exact run_str 24 5 9 Try.underlying24 Try.underlying5 Try.underlying9 _ B _ _ _ _ hrp
        go_wp2
        go_quiet (fail)
        go_wp2
        go_quiet (fail)
        go_wp2
        all_goals go_ret
        all_goals cases hy'.out
        all_goals exact ⟨rfl, ⟨_, _, ((hb1.drewN _).set 1 _).drewN _, (hr1.fr ((((Fr.refl (One g) w1).drewN _).setOne 1 _).drewN _) (fun k hk => One.not hB hk)), hB, hle, hn1, hc1⟩, hf1.transOne ((((Fr.refl (One g) w1).drewN _).setOne 1 _).drewN _)⟩
  · have t0 : (e1 != 0) = true := by rw [bne, beq_f he]; rfl
    rw [if_pos (by simpa using he)] at hy
    have hy' := Lib.hid hy
    clear hy he
    go_enter Try.func50, Try.ntmps50
    go_wp2_with (fail)
    refine (iInt_any B g bs a e v1 a1 e1 _ hin hx).mono ?_
    rintro _ w1 ⟨rfl, hin1, hf1⟩
    have hin2 := hin1
    obtain ⟨A1, c1, hb1, hr1, _, _, hn1⟩ := hin2
    have g2 := hb1.cell 2
    go_wp2
    go_ret
    cases hy'.out
    exact ⟨rfl, hin1, hf1⟩

def IIdentPost (B g : Nat) (bs : List UInt8) (by_ sq : Int) (sum a' : Nat) (e' : Int) (w : World) (r : Ending) (w' : World) : Prop :=
  r = .returned (.agg #[.int .i64 by_, .int .i64 sq, .int .u64 (sum : Int)]) ∧ IAt w' B g bs a' e' ∧ Fr (One g) w w'

set_option maxHeartbeats 2000000 in
theorem iIdent_any (B g : Nat) (bs : List UInt8) (a : Nat) (e : Int) (by_ sq : Int) (sum a' : Nat) (e' : Int) (w : World) (hin : IAt w B g bs a e) (hrd : Hid (Pk.rdIdent bs a e = ((by_, sq, sum), a', e'))) :
    Calls Try.prog 48 #[.pointer (some ⟨g, 0, none⟩)] w (IIdentPost B g bs by_ sq sum a' e' w) := by
  obtain ⟨v1, a1, e1, hx1⟩ := hid_ex3 (Pk.rdInt bs a e)
  obtain ⟨v2, a2, e2, hx2⟩ := hid_ex3 (Pk.rdInt bs a1 e1)
  obtain ⟨v3, a3, e3, hx3⟩ := hid_ex3 (Pk.rd bs a2 e2)
  have hy := hrd.out
  unfold Pk.rdIdent at hy
  simp only [hx1.out, hx2.out, hx3.out] at hy
  have hg := hin.lt
  have hin0 := hin
  obtain ⟨A, c, hb, hr, hB, ha, hn⟩ := hin0
  have h1 := hb.cell 1
  have rb0 := (Blk.new w 60 #[.int .i64 0, .int .i64 0, .int .u64 0]).alloc (.cells #[.int .i64 0, .int .i64 0, .int .u64 0] 60)
  have ib0 : Blk ((w.alloc (.cells #[.int .i64 0, .int .i64 0, .int .u64 0] 60)).alloc (.cells #[.int .i64 0, .int .i64 0, .int .u64 0] 60)) (w.heap.size + 1) 60 #[.int .i64 0, .int .i64 0, .int .u64 0] := by
    have := Blk.new (w.alloc (.cells #[.int .i64 0, .int .i64 0, .int .u64 0] 60)) 60 #[.int .i64 0, .int .i64 0, .int .u64 0]
    simpa using this
  by_cases he : e3 = 0
  · rw [if_neg (by simpa using he)] at hy
    have hz : (e3 != 0) = false := by rw [bne, beq_t he]; rfl
    clear he
    have hy' := Lib.hid hy
    clear hy
    go_enter Try.func48, Try.ntmps48
    go_wp2_with (fail)
    refine (iInt_any B g bs a e v1 a1 e1 _ ((hin.alloc _).alloc _) hx1).mono ?_
    rintro _ w1 ⟨rfl, hin1, hf1⟩
    have rb1 := rb0.fr hf1 (fun e => by have e : _ = g := e; omega)
    have ib1 := ib0.fr hf1 (fun e => by have e : _ = g := e; omega)
    have i10 := ib1.cell 0
    have i1f := ib1.frozen 0
    go_wp2_with (fail)
    refine (iInt_any B g bs a1 e1 v2 a2 e2 _ (hin1.fr ((Fr.refl (One (w.heap.size + 1)) w1).setOne 0 _) (fun k hk => One.not (by omega) hk) (fun e => by have e : g = _ := e; omega)) hx2).mono ?_
    rintro _ w2 ⟨rfl, hin2, hf2⟩
    have rb2 := (rb1.far (p := ⟨w.heap.size + 1, 0, none⟩) (by show _ ≠ w.heap.size + 1; omega) _).fr hf2 (fun e => by have e : _ = g := e; omega)
    have ib2 := (ib1.set 0 (.int .i64 v1)).fr hf2 (fun e => by have e : _ = g := e; omega)
    have i20 := ib2.cell 1
    have i2f := ib2.frozen 1
    go_wp2_with (fail)
    refine (iNum_any B g bs a2 e2 v3 a3 e3 _ (hin2.fr ((Fr.refl (One (w.heap.size + 1)) w2).setOne 1 _) (fun k hk => One.not (by omega) hk) (fun e => by have e : g = _ := e; omega)) hx3).mono ?_
    rintro _ w3 ⟨rfl, hin3, hf3⟩
    have rb3 := (rb2.far (p := ⟨w.heap.size + 1, 1, none⟩) (by show _ ≠ w.heap.size + 1; omega) _).fr hf3 (fun e => by have e : _ = g := e; omega)
    have ib3 := (ib2.set 1 (.int .i64 v2)).fr hf3 (fun e => by have e : _ = g := e; omega)
    have i32 := ib3.cell 2
    have i30 := ib3.cell 0
    have i31 := ib3.cell 1
    have i3f := ib3.frozen 2
    have r0 := rb3.cell 0
    have r1 := rb3.cell 1
    have r2 := rb3.cell 2
    have q0 := rb3.frozen 0
    have q1 := rb3.frozen 1
    have q2 := rb3.frozen 2
    have hfA : Fr (One g) w w3 := by
      have s1 := ((Fr.refl (One g) w).alloc (.cells #[.int .i64 0, .int .i64 0, .int .u64 0] 60)).alloc (.cells #[.int .i64 0, .int .i64 0, .int .u64 0] 60)
      exact ((((s1.transOne hf1).setNew (g := w.heap.size + 1) (by omega) 0 (.int .i64 v1)).transOne hf2).setNew (g := w.heap.size + 1) (by omega) 1 (.int .i64 v2)).transOne hf3
    have hin4 := hin3
    obtain ⟨A3, c3, gb3, gr3, _, ga3, gn3⟩ := hin4
    have g1 := gb3.cell 1
    have g2 := gb3.cell 2
    have gf := gb3.frozen 1
    have gl := gb3.lt
    go_wp2_with (fail)
    cases hy'.out
    refine ret_blk (t := 60) rfl rfl ((((rb3.far (p := ⟨w.heap.size + 1, 2, none⟩) (by show _ ≠ w.heap.size + 1; omega) _).set 0 _).set 1 _).set 2 _) rfl Try.underlying60 (by kernel_rfl) rfl ?_
    have hfe := (((((Fr.refl (From w.heap.size) w3).setCell (p := ⟨w.heap.size + 1, 2, none⟩) (fun _ => by show w.heap.size ≤ w.heap.size + 1; omega) (.int .u64 sum)).setCell (p := ⟨w.heap.size, 0, none⟩) (fun _ => Nat.le_refl _) (.int .i64 by_)).setCell (p := ⟨w.heap.size, 1, none⟩) (fun _ => Nat.le_refl _) (.int .i64 sq)).setCell (p := ⟨w.heap.size, 2, none⟩) (fun _ => Nat.le_refl _) (.int .u64 sum))
    refine ⟨rfl, hin3.fr hfe (fun k hk e => ?_) (fun e => ?_), ((((hfA.setNew (by omega) _ _).setNew (Nat.le_refl _) _ _).setNew (Nat.le_refl _) _ _).setNew (Nat.le_refl _) _ _)⟩
    · have e : w.heap.size ≤ k := e
      omega
    · have e : w.heap.size ≤ g := e
      omega
  · rw [if_pos he] at hy
    have hz : (e3 != 0) = true := by rw [bne, beq_f he]; rfl
    clear he
    have hy' := Lib.hid hy
    clear hy
    go_enter Try.func48, Try.ntmps48
    go_wp2_with (fail)
    refine (iInt_any B g bs a e v1 a1 e1 _ ((hin.alloc _).alloc _) hx1).mono ?_
    rintro _ w1 ⟨rfl, hin1, hf1⟩
    have rb1 := rb0.fr hf1 (fun e => by have e : _ = g := e; omega)
    have ib1 := ib0.fr hf1 (fun e => by have e : _ = g := e; omega)
    have i10 := ib1.cell 0
    have i1f := ib1.frozen 0
    go_wp2_with (fail)
    refine (iInt_any B g bs a1 e1 v2 a2 e2 _ (hin1.fr ((Fr.refl (One (w.heap.size + 1)) w1).setOne 0 _) (fun k hk => One.not (by omega) hk) (fun e => by have e : g = _ := e; omega)) hx2).mono ?_
    rintro _ w2 ⟨rfl, hin2, hf2⟩
    have rb2 := (rb1.far (p := ⟨w.heap.size + 1, 0, none⟩) (by show _ ≠ w.heap.size + 1; omega) _).fr hf2 (fun e => by have e : _ = g := e; omega)
    have ib2 := (ib1.set 0 (.int .i64 v1)).fr hf2 (fun e => by have e : _ = g := e; omega)
    have i20 := ib2.cell 1
    have i2f := ib2.frozen 1
    go_wp2_with (fail)
    refine (iNum_any B g bs a2 e2 v3 a3 e3 _ (hin2.fr ((Fr.refl (One (w.heap.size + 1)) w2).setOne 1 _) (fun k hk => One.not (by omega) hk) (fun e => by have e : g = _ := e; omega)) hx3).mono ?_
    rintro _ w3 ⟨rfl, hin3, hf3⟩
    have rb3 := (rb2.far (p := ⟨w.heap.size + 1, 1, none⟩) (by show _ ≠ w.heap.size + 1; omega) _).fr hf3 (fun e => by have e : _ = g := e; omega)
    have ib3 := (ib2.set 1 (.int .i64 v2)).fr hf3 (fun e => by have e : _ = g := e; omega)
    have i32 := ib3.cell 2
    have i30 := ib3.cell 0
    have i31 := ib3.cell 1
    have i3f := ib3.frozen 2
    have r0 := rb3.cell 0
    have r1 := rb3.cell 1
    have r2 := rb3.cell 2
    have q0 := rb3.frozen 0
    have q1 := rb3.frozen 1
    have q2 := rb3.frozen 2
    have hfA : Fr (One g) w w3 := by
      have s1 := ((Fr.refl (One g) w).alloc (.cells #[.int .i64 0, .int .i64 0, .int .u64 0] 60)).alloc (.cells #[.int .i64 0, .int .i64 0, .int .u64 0] 60)
      exact ((((s1.transOne hf1).setNew (g := w.heap.size + 1) (by omega) 0 (.int .i64 v1)).transOne hf2).setNew (g := w.heap.size + 1) (by omega) 1 (.int .i64 v2)).transOne hf3
    have hin4 := hin3
    obtain ⟨A3, c3, gb3, gr3, _, ga3, gn3⟩ := hin4
    have g1 := gb3.cell 1
    have g2 := gb3.cell 2
    have gf := gb3.frozen 1
    have gl := gb3.lt
    go_wp2_with (fail)
    cases hy'.out
    have gne : g ≠ w.heap.size + 1 := by omega
    have gne0 : w.heap.size ≠ g := by omega
    have w5 : Blk (w3.setCell ⟨w.heap.size + 1, 2, none⟩ (.int .u64 v3)) g 44 _ := gb3.far (p := ⟨w.heap.size + 1, 2, none⟩) gne _
    refine ret_blk (t := 60) rfl rfl (((((rb3.far (p := ⟨w.heap.size + 1, 2, none⟩) (by show _ ≠ w.heap.size + 1; omega) _).far (p := ⟨g, 1, none⟩) gne0 _).set 0 _).set 1 _).set 2 _) rfl Try.underlying60 (by kernel_rfl) rfl ?_
    have hfe0 := ((Fr.refl (From w.heap.size) w3).setCell (p := ⟨w.heap.size + 1, 2, none⟩) (fun _ => by show w.heap.size ≤ w.heap.size + 1; omega) (.int .u64 v3))
    have gr5 := gr3.fr hfe0 (fun k hk e => by have e : w.heap.size ≤ k := e; omega)
    have hin5 : IAt ((w3.setCell ⟨w.heap.size + 1, 2, none⟩ (.int .u64 v3)).setCell ⟨g, 1, none⟩ (.int .i64 a)) B g bs a e' := ⟨_, _, w5.set 1 _, gr5.fr ((Fr.refl (One g) _).setOne 1 _) (fun k hk => One.not hB hk), hB, ha, gn3⟩
    have hfe := ((((Fr.refl (From w.heap.size) ((w3.setCell ⟨w.heap.size + 1, 2, none⟩ (.int .u64 v3)).setCell ⟨g, 1, none⟩ (.int .i64 a))).setCell (p := ⟨w.heap.size, 0, none⟩) (fun _ => Nat.le_refl _) (.int .i64 0)).setCell (p := ⟨w.heap.size, 1, none⟩) (fun _ => Nat.le_refl _) (.int .i64 0)).setCell (p := ⟨w.heap.size, 2, none⟩) (fun _ => Nat.le_refl _) (.int .u64 0))
    refine ⟨rfl, hin5.fr hfe (fun k hk e => ?_) (fun e => ?_), (((((hfA.setNew (by omega) _ _).setOne 1 _).setNew (Nat.le_refl _) _ _).setNew (Nat.le_refl _) _ _).setNew (Nat.le_refl _) _ _)⟩
    · have e : w.heap.size ≤ k := e
      omega
    · have e : w.heap.size ≤ g := e
      omega
end Go.Proofs.Ytkppihpdhildjaa
