/-
  Reading of package pack, the rest: Text, Ident, End, Open.
  Condition: the In lies in a block of its own, above the bytes that it reads.
-/
import Derived.Test.YtahcddlgghipjaaGreatDoorPackIn
namespace Go.Proofs.YtahcddlgghipjaaGreatDoor
open Go.RowKit

set_option maxRecDepth 100000 in
set_option maxHeartbeats 1000000 in
theorem inText_ok (B g : Nat) (bs : List UInt8) (a : Nat) (e : Int) (v a1 : Nat) (w : World) (hin : InAt w B g bs a e) (hx : Hid (Pk.rd bs a e = (v, a1, 0)))
   (hev : v % 2 = 0) (hle : a1 + v / 2 ≤ bs.length) :
    Calls Tryz.prog 57 #[.pointer (some ⟨g, 0, none⟩)] w (InPost B g bs (.string (str ((bs.drop a1).take (v / 2)))) (a1 + v / 2) 0 w) := by
  have hv := rd_bd hx
  have ht : (bits BinOp.and IntKind.u64 (v:Int) 1 != 0) = false := by rw [u64_and1 v hv, hev]; rfl
  have hin0 := hin
  obtain ⟨A, c, hb, hr, hB, ha, hn⟩ := hin0
  have h1 := hb.cell 1
  go_enter Tryz.func57, Tryz.ntmps57
  go_wp2_with (fail)
  refine (number_any B g bs a e v a1 0 _ hin hx).mono ?_
  rintro _ w1 ⟨rfl, hin1, hf1⟩
  obtain ⟨A1, c1, hb1, hr1, _, ha1, hn⟩ := hin1
  have h0 := hb1.cell 0
  have h1 := hb1.cell 1
  have h2 := hb1.cell 2
  have f1 := hb1.frozen 1
  go_wp2_with (fail)
  refine (inLeft_any B g bs a1 0 _ ⟨_, _, hb1, hr1, hB, ha1, hn⟩).mono ?_
  rintro _ w2 ⟨rfl, hin2, hf2⟩
  clear h0 h1 h2 f1
  obtain ⟨A2, c2, hb2, hr2, _, _, _, hc2⟩ := hin2
  have h0 := hb2.cell 0
  have h1 := hb2.cell 1
  have h2 := hb2.cell 2
  have f1 := hb2.frozen 1
  have hfa : Fr (One g) w2 (w2.setCell ⟨g, 1, none⟩ (.int .i64 ((a1 : Int) + (v : Int) / 2))) := (Fr.refl _ _).setOne 1 _
  have hra := hr2.fr hfa (fun k hk => One.not hB hk)
  have hrp := hra.part (lo := a1) (hi := a1 + v / 2) (by omega) hle (if c2 = a1 then A2 else A2.map (·.add a1)) (fun hlt => if_neg (by omega))
  rw [← List.map_drop, ← List.map_take, show a1 + v / 2 - a1 = v / 2 by omega] at hrp
  have hconv : ∀ nq, (convert 28 9 (.slice (if c2 = a1 then A2 else A2.map (·.add a1)) (v / 2) (c2 - a1))).run Tryz.prog ((w2.setCell ⟨g, 1, none⟩ (.int .i64 ((a1 : Int) + (v : Int) / 2))).drewN nq) = .ok (.string (str ((bs.drop a1).take (v / 2)))) ((w2.setCell ⟨g, 1, none⟩ (.int .i64 ((a1 : Int) + (v : Int) / 2))).drewN nq) :=
    fun nq => run_str 28 5 9 Tryz.underlying28 Tryz.underlying5 Tryz.underlying9 _ B _ _ _ _ (hrp.drewN nq)
  clear hra hrp
  go_wp2_with (fail)
  go_quiet (fail)
  go_wp2
  all_goals go_ret
  all_goals exact ⟨rfl, ⟨_, _, (hb2.set 1 _).drewN _, (hr2.fr hfa (fun k hk => One.not hB hk)).drewN _, hB, by omega, by omega, hc2⟩, ((hf1.transOne hf2).setOne 1 _).drewN _⟩

theorem inText_any (B g : Nat) (bs : List UInt8) (a : Nat) (e : Int) (s : List UInt8) (a' : Nat) (e' : Int) (w : World) (hin : InAt w B g bs a e) (hrd : Hid (Pk.rdText bs a e = (s, a', e'))) :
    Calls Tryz.prog 57 #[.pointer (some ⟨g, 0, none⟩)] w (InPost B g bs (.string (str s)) a' e' w) := by
  obtain ⟨v, a1, e1, hx⟩ := hid_ex3 (Pk.rd bs a e)
  have hv := rd_bd hx
  have hy := hrd.out
  unfold Pk.rdText at hy
  rw [hx.out] at hy
  have hin0 := hin
  obtain ⟨A, c, hb, hr, hB, ha, hn⟩ := hin0
  have h1 := hb.cell 1
  by_cases he : e1 = 0
  · subst he
    rw [if_neg (by simp)] at hy
    by_cases hodd : v % 2 = 1
    · rw [if_pos hodd] at hy
      cases hy
      have ht : (bits BinOp.and IntKind.u64 (v:Int) 1 != 0) = true := by rw [u64_and1 v hv, hodd]; rfl
      clear hodd
      go_enter Tryz.func57, Tryz.ntmps57
      go_wp2_with (fail)
      refine (number_any B g bs a e v a1 0 _ hin hx).mono ?_
      rintro _ w1 ⟨rfl, hin1, hf1⟩
      obtain ⟨A1, c1, hb1, hr1, _, ha1, hn1⟩ := hin1
      have h2 := hb1.cell 2
      go_wp2_with (fail)
      refine (wrong_any g _ _ _ _ _ _ hb1).mono ?_
      rintro _ w2 ⟨rfl, hb2, hf2⟩
      go_wp2
      go_ret
      exact ⟨rfl, ⟨_, _, hb2, hr1.fr hf2 (fun k hk => One.not hB hk), hB, ha, hn1⟩, hf1.transOne hf2⟩
    · rw [if_neg hodd] at hy
      by_cases hlong : bs.length < a1 + v / 2
      · rw [if_pos hlong] at hy
        cases hy
        have ht : (bits BinOp.and IntKind.u64 (v:Int) 1 != 0) = false := by rw [u64_and1 v hv, show v % 2 = 0 by omega]; rfl
        clear hodd
        go_enter Tryz.func57, Tryz.ntmps57
        go_wp2_with (fail)
        refine (number_any B g bs a e v a1 0 _ hin hx).mono ?_
        rintro _ w1 ⟨rfl, hin1, hf1⟩
        obtain ⟨A1, c1, hb1, hr1, _, ha1, hn1⟩ := hin1
        have h2 := hb1.cell 2
        go_wp2_with (fail)
        refine (inLeft_any B g bs a1 0 _ ⟨_, _, hb1, hr1, hB, ha1, hn1⟩).mono ?_
        rintro _ w2 ⟨rfl, hin2, hf2⟩
        obtain ⟨A2, c2, hb2, hr2, _, _, hn2⟩ := hin2
        go_wp2_with (fail)
        refine (wrong_any g _ _ _ _ _ _ hb2).mono ?_
        rintro _ w3 ⟨rfl, hb3, hf3⟩
        go_wp2
        go_ret
        exact ⟨rfl, ⟨_, _, hb3, hr2.fr hf3 (fun k hk => One.not hB hk), hB, ha, hn2⟩, (hf1.transOne hf2).transOne hf3⟩
      · rw [if_neg hlong] at hy
        cases hy
        exact inText_ok B g bs a e v a1 w hin hx (by omega) (by omega)
  · rw [if_pos he] at hy
    cases hy
    have he' : (e' != 0) = true := by rw [bne, beq_f he]; rfl
    go_enter Tryz.func57, Tryz.ntmps57
    go_wp2_with (fail)
    refine (number_any B g bs a e v a' e' _ hin hx).mono ?_
    rintro _ w1 ⟨rfl, hin1, hf1⟩
    have hin2 := hin1
    obtain ⟨A1, c1, hb1, hr1, _, ha1, hn1⟩ := hin2
    have h2 := hb1.cell 2
    go_wp2
    go_ret
    exact ⟨rfl, hin1, hf1⟩

def Pk.endE (bs : List UInt8) (a : Nat) (e : Int) : Int := if e = 0 ∧ a < bs.length then 2 else e

theorem inEnd_any (B g : Nat) (bs : List UInt8) (a : Nat) (e : Int) (w : World) (hin : InAt w B g bs a e) :
    Calls Tryz.prog 70 #[.pointer (some ⟨g, 0, none⟩)] w (InPost B g bs (.int .i64 (Pk.endE bs a e)) a e w) := by
  have hin0 := hin
  obtain ⟨A, c, hb, hr, hB, ha, hn⟩ := hin0
  have h2 := hb.cell 2
  by_cases he : e = 0
  · have hz : (e == 0) = true := beq_t he
    have he' := Lib.hid he
    clear he
    rcases Nat.lt_or_ge a bs.length with hlt | hge
    all_goals
      go_enter Tryz.func70, Tryz.ntmps70
      go_wp2_with (fail)
      refine (inLeft_any B g bs a e _ hin).mono ?_
      rintro _ w1 ⟨rfl, hin1, hf1⟩
      have hin2 := hin1
      obtain ⟨A1, c1, hb1, hr1, _, ha1, hn1⟩ := hin2
      have h3 := hb1.cell 2
      go_wp2
      go_ret
      refine ⟨congrArg (fun z => Ending.returned (.int .i64 z)) ?_, hin1, hf1⟩
      unfold Pk.endE
      rw [he'.out]
      simp
      omega
  · have hz : (e == 0) = false := beq_f he
    have hE : Hid (Pk.endE bs a e = e) := if_neg (fun h => he h.1)
    clear he
    go_enter Tryz.func70, Tryz.ntmps70
    go_wp2
    go_ret
    exact ⟨congrArg (fun z => Ending.returned (.int .i64 z)) hE.out.symm, hin, Fr.refl _ _⟩

/-- What reading a name answers. -/
def IdentPost (B g : Nat) (bs : List UInt8) (by_ sq : Int) (sum a' : Nat) (e' : Int) (w : World) (r : Ending) (w' : World) : Prop :=
  r = .returned (.agg #[.int .i64 by_, .int .i64 sq, .int .u64 (sum : Int)]) ∧ InAt w' B g bs a' e' ∧ Fr (One g) w w'

set_option maxHeartbeats 1000000 in
theorem inIdent_any (B g : Nat) (bs : List UInt8) (a : Nat) (e : Int) (by_ sq : Int) (sum a' : Nat) (e' : Int) (w : World) (hin : InAt w B g bs a e) (hrd : Hid (Pk.rdIdent bs a e = ((by_, sq, sum), a', e'))) :
    Calls Tryz.prog 62 #[.pointer (some ⟨g, 0, none⟩)] w (IdentPost B g bs by_ sq sum a' e' w) := by
  obtain ⟨v1, a1, e1, hx1⟩ := hid_ex3 (Pk.rdInt bs a e)
  obtain ⟨v2, a2, e2, hx2⟩ := hid_ex3 (Pk.rdInt bs a1 e1)
  obtain ⟨v3, a3, e3, hx3⟩ := hid_ex3 (Pk.rd bs a2 e2)
  have hy := hrd.out
  unfold Pk.rdIdent at hy
  simp only [hx1.out, hx2.out, hx3.out] at hy
  have hg := hin.lt
  have hin0 := hin
  obtain ⟨A, c, hb, hr, hB, ha, hn⟩ := hin0
  have h1 := hb.cell 1
  by_cases he : e3 = 0
  · rw [if_neg (by simpa using he)] at hy
    have hz : (e3 != 0) = false := by rw [bne, beq_t he]; rfl
    clear he
    have hy' := Lib.hid hy
    clear hy
    go_enter Tryz.func62, Tryz.ntmps62
    go_wp2_with (fail)
    refine (inInt_any B g bs a e v1 a1 e1 _ (hin.alloc _) hx1).mono ?_
    rintro _ w1 ⟨rfl, hin1, hf1⟩
    go_wp2_with (fail)
    refine (inInt_any B g bs a1 e1 v2 a2 e2 _ hin1 hx2).mono ?_
    rintro _ w2 ⟨rfl, hin2, hf2⟩
    go_wp2_with (fail)
    refine (inNum_any B g bs a2 e2 v3 a3 e3 _ hin2 hx3).mono ?_
    rintro _ w3 ⟨rfl, hin3, hf3⟩
    have hf := (hf1.transOne hf2).transOne hf3
    have hr0 := (Blk.new w 27 #[.int .i64 0, .int .i64 0, .int .u64 0]).fr hf (by unfold One; omega)
    have hin4 := hin3
    obtain ⟨A1, c1, hb1, hr1, _, ha1, hn1⟩ := hin4
    have hs := hr0.lt
    have hg3 := hb1.lt
    have g2 := hb1.cell 2
    have r0 := hr0.cell 0
    have r1 := hr0.cell 1
    have r2 := hr0.cell 2
    have q0 := hr0.frozen 0
    have q1 := hr0.frozen 1
    have q2 := hr0.frozen 2
    go_wp2_with (fail)
    cases hy'.out
    refine ret_blk (t := 27) rfl rfl ((((hr0.set 0 _).set 1 _).set 2 _).alloc _) rfl Tryz.underlying27 (by kernel_rfl) rfl ?_
    have hfe : Fr (One w.heap.size) w3 _ := ((((Fr.refl _ _).setOne 0 (.int .i64 by_)).setOne 1 (.int .i64 sq)).setOne 2 (.int .u64 sum)).alloc (.cells #[.int .i64 by_, .int .i64 sq, .int .u64 sum] 27)
    exact ⟨rfl, hin3.fr hfe (fun k hk => One.not (Nat.le_trans hB (Nat.le_of_lt hg)) hk) (by unfold One; omega), ((((((Fr.refl _ _).alloc _).transOne hf).setNew (Nat.le_refl _) _ _).setNew (Nat.le_refl _) _ _).setNew (Nat.le_refl _) _ _).alloc _⟩
  · rw [if_pos he] at hy
    have hz : (e3 != 0) = true := by rw [bne, beq_f he]; rfl
    clear he
    have hy' := Lib.hid hy
    clear hy
    go_enter Tryz.func62, Tryz.ntmps62
    go_wp2_with (fail)
    refine (inInt_any B g bs a e v1 a1 e1 _ (hin.alloc _) hx1).mono ?_
    rintro _ w1 ⟨rfl, hin1, hf1⟩
    go_wp2_with (fail)
    refine (inInt_any B g bs a1 e1 v2 a2 e2 _ hin1 hx2).mono ?_
    rintro _ w2 ⟨rfl, hin2, hf2⟩
    go_wp2_with (fail)
    refine (inNum_any B g bs a2 e2 v3 a3 e3 _ hin2 hx3).mono ?_
    rintro _ w3 ⟨rfl, hin3, hf3⟩
    have hf := (hf1.transOne hf2).transOne hf3
    have hr0 := (Blk.new w 27 #[.int .i64 0, .int .i64 0, .int .u64 0]).fr hf (by unfold One; omega)
    have hin4 := hin3
    obtain ⟨A1, c1, hb1, hr1, _, ha1, hn1⟩ := hin4
    have hs := hr0.lt
    have hg3 := hb1.lt
    have g1 := hb1.cell 1
    have g2 := hb1.cell 2
    have k1 := hb1.frozen 1
    have r0 := hr0.cell 0
    have r1 := hr0.cell 1
    have r2 := hr0.cell 2
    have q0 := hr0.frozen 0
    have q1 := hr0.frozen 1
    have q2 := hr0.frozen 2
    go_wp2_with (fail)
    cases hy'.out
    refine ret_blk (t := 27) rfl rfl (((((hr0.far (p := ⟨g, 1, none⟩) (by show _ ≠ g; omega) _).set 0 _).set 1 _).set 2 _).alloc _) rfl Tryz.underlying27 (by kernel_rfl) rfl ?_
    have hfe : Fr (One w.heap.size) (w3.setCell ⟨g, 1, none⟩ (.int .i64 a)) _ := ((((Fr.refl _ _).setOne 0 (.int .i64 0)).setOne 1 (.int .i64 0)).setOne 2 (.int .u64 0)).alloc (.cells #[.int .i64 v1, .int .i64 v2, .int .u64 v3] 27)
    have hin5 : InAt (w3.setCell ⟨g, 1, none⟩ (.int .i64 a)) B g bs a e' := ⟨_, _, hb1.set 1 _, hr1.fr ((Fr.refl _ _).setOne 1 _) (fun k hk => One.not hB hk), hB, ha, hn1⟩
    exact ⟨rfl, hin5.fr hfe (fun k hk => One.not (by omega) hk) (by unfold One; omega), (((((((Fr.refl _ _).alloc _).transOne hf).setOne 1 _).setNew (Nat.le_refl _) _ _).setNew (Nat.le_refl _) _ _).setNew (Nat.le_refl _) _ _).alloc _⟩
end Go.Proofs.YtahcddlgghipjaaGreatDoor
