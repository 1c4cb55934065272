/-
  Reading of package pack: what each method of In does, for every In.
  Condition: the In lies in a block of its own, above the bytes that it reads.
-/
import Derived.Test.YtahcddlgghipjaaGreatDoorPackNum
namespace Go.Proofs.YtahcddlgghipjaaGreatDoor
open Go.RowKit

theorem number_any (B g : Nat) (bs : List UInt8) (a : Nat) (e : Int) (v a' : Nat) (e' : Int) (w : World) (hin : InAt w B g bs a e) (hrd : Hid (Pk.rd bs a e = (v, a', e'))) :
    Calls Tryz.prog 89 #[.pointer (some ⟨g, 0, none⟩)] w (NumPost B g bs v a' e' w) := by
  by_cases he : e = 0
  · subst he
    exact number_ok B g bs a v a' e' w hin hrd
  · have hx := hrd.out
    rw [Pk.rd_ne he] at hx
    cases hx
    have hin0 := hin
    obtain ⟨A, c, hb, hr, hB, ha, hn⟩ := hin0
    have h1 := hb.cell 1
    have h2 := hb.cell 2
    have t := beq_f he
    go_enter Tryz.func89, Tryz.ntmps89
    go_wp2
    refine wp_loop_rounds 1 ?_
    rw [rounds_succ]
    go_wp2
    go_ret
    exact ⟨rfl, hin, Fr.refl _ _⟩

/-- What a read answers: a value; the In is at another place, with what is wrong now. -/
def InPost (B g : Nat) (bs : List UInt8) (v : Value) (a' : Nat) (e' : Int) (w : World) (r : Ending) (w' : World) : Prop :=
  r = .returned v ∧ InAt w' B g bs a' e' ∧ Fr (One g) w w'

namespace Pk
def rdInt (bs : List UInt8) (a : Nat) (e : Int) : Int × Nat × Int := (unfold (rd bs a e).1, (rd bs a e).2.1, (rd bs a e).2.2)
def rdBool (bs : List UInt8) (a : Nat) (e : Int) : Bool × Nat × Int :=
  if (rd bs a e).1 ≠ 0 ∧ (rd bs a e).1 ≠ 2 then (false, a, 7) else (decide ((rd bs a e).1 = 2), (rd bs a e).2.1, (rd bs a e).2.2)
def rdMany (bs : List UInt8) (a : Nat) (e : Int) (most : Int) : Int × Nat × Int :=
  if (rdInt bs a e).1 < 0 ∨ most < (rdInt bs a e).1 then (0, a, 7) else rdInt bs a e
def rdText (bs : List UInt8) (a : Nat) (e : Int) : List UInt8 × Nat × Int :=
  if (rd bs a e).2.2 ≠ 0 then ([], (rd bs a e).2)
  else if (rd bs a e).1 % 2 = 1 then ([], a, 7)
  else if bs.length < (rd bs a e).2.1 + (rd bs a e).1 / 2 then ([], a, 9)
  else ((bs.drop (rd bs a e).2.1).take ((rd bs a e).1 / 2), (rd bs a e).2.1 + (rd bs a e).1 / 2, 0)
def rdIdent (bs : List UInt8) (a : Nat) (e : Int) : (Int × Int × Nat) × Nat × Int :=
  if (rd bs (rdInt bs (rdInt bs a e).2.1 (rdInt bs a e).2.2).2.1 (rdInt bs (rdInt bs a e).2.1 (rdInt bs a e).2.2).2.2).2.2 ≠ 0 then
    ((0, 0, 0), a, (rd bs (rdInt bs (rdInt bs a e).2.1 (rdInt bs a e).2.2).2.1 (rdInt bs (rdInt bs a e).2.1 (rdInt bs a e).2.2).2.2).2.2)
  else (((rdInt bs a e).1, (rdInt bs (rdInt bs a e).2.1 (rdInt bs a e).2.2).1, (rd bs (rdInt bs (rdInt bs a e).2.1 (rdInt bs a e).2.2).2.1 (rdInt bs (rdInt bs a e).2.1 (rdInt bs a e).2.2).2.2).1),
    (rd bs (rdInt bs (rdInt bs a e).2.1 (rdInt bs a e).2.2).2.1 (rdInt bs (rdInt bs a e).2.1 (rdInt bs a e).2.2).2.2).2)
end Pk

theorem inNum_any (B g : Nat) (bs : List UInt8) (a : Nat) (e : Int) (v a' : Nat) (e' : Int) (w : World) (hin : InAt w B g bs a e) (hrd : Hid (Pk.rd bs a e = (v, a', e'))) :
    Calls Tryz.prog 59 #[.pointer (some ⟨g, 0, none⟩)] w (InPost B g bs (.int .u64 (v : Int)) a' e' w) := by
  go_enter Tryz.func59, Tryz.ntmps59
  go_wp2_with (fail)
  refine (number_any B g bs a e v a' e' _ hin hrd).mono ?_
  rintro _ w1 ⟨rfl, hin1, hf1⟩
  go_wp2
  go_ret
  exact ⟨rfl, hin1, hf1⟩

theorem u64_and1 (u : Nat) (h : u < 18446744073709551616) : bits BinOp.and IntKind.u64 (u : Int) 1 = ((u % 2 : Nat) : Int) := by
  rw [show (1 : Int) = ((1 : Nat) : Int) from rfl, u64_and_nat _ _ h (by omega), nat_mask1]

theorem xor_neg1 (a : Nat) (ha : a < 9223372036854775808) : bits BinOp.xor IntKind.i64 (a : Int) (-1) = -(a : Int) - 1 := by
  show IntKind.i64.wrap ((BitVec.ofInt 64 (a : Int) ^^^ BitVec.ofInt 64 (-1)).toNat : Int) = _
  have h1 : BitVec.ofInt 64 (-1) = BitVec.allOnes 64 := by decide
  rw [h1, BitVec.xor_allOnes, BitVec.toNat_not, ofInt_u64 a (by omega), IntKind.wrap_i64]
  omega
theorem xor_zero (a : Nat) (ha : a < 9223372036854775808) : bits BinOp.xor IntKind.i64 (a : Int) 0 = (a : Int) := by
  show IntKind.i64.wrap ((BitVec.ofInt 64 (a : Int) ^^^ BitVec.ofInt 64 0).toNat : Int) = _
  have h1 : BitVec.ofInt 64 0 = 0#64 := by decide
  rw [h1, BitVec.xor_zero, ofInt_u64 a (by omega), IntKind.wrap_i64]
  omega
theorem unfold_bits (u : Nat) (h : u < 18446744073709551616) : bits BinOp.xor IntKind.i64 ((u : Int) / 2) (wrap64 (-wrap64 (bits BinOp.and IntKind.u64 (u : Int) 1))) = Pk.unfold u := by
  rw [u64_and1 u h]
  have e1 : (u : Int) / 2 = ((u / 2 : Nat) : Int) := by omega
  rw [e1]
  unfold Pk.unfold
  by_cases h1 : u % 2 = 1
  · rw [if_pos h1, h1, show wrap64 (-wrap64 ((1 : Nat) : Int)) = -1 from by unfold wrap64; omega]
    exact xor_neg1 _ (by omega)
  · rw [if_neg h1, show u % 2 = 0 from by omega, show wrap64 (-wrap64 ((0 : Nat) : Int)) = 0 from by unfold wrap64; omega]
    exact xor_zero _ (by omega)
theorem unfold_any (u : Nat) (h : u < 18446744073709551616) (w : World) :
    Calls Tryz.prog 92 #[.int .u64 (u : Int)] w fun e w' => e = .returned (.int .i64 (Pk.unfold u)) ∧ w = w' := by
  have hu := Lib.hid (unfold_bits u h)
  go_enter Tryz.func92, Tryz.ntmps92
  go_wp2
  go_ret
  exact ⟨congrArg (fun z => Ending.returned (.int .i64 z)) hu.out, rfl⟩

theorem rd_bd {bs : List UInt8} {a : Nat} {e : Int} {v a' : Nat} {e' : Int} (h : Hid (Pk.rd bs a e = (v, a', e'))) : v < 18446744073709551616 := by
  have := Pk.rd_lt bs a e
  rw [h.out] at this
  exact this

theorem inInt_any (B g : Nat) (bs : List UInt8) (a : Nat) (e : Int) (v : Int) (a' : Nat) (e' : Int) (w : World) (hin : InAt w B g bs a e) (hrd : Hid (Pk.rdInt bs a e = (v, a', e'))) :
    Calls Tryz.prog 60 #[.pointer (some ⟨g, 0, none⟩)] w (InPost B g bs (.int .i64 v) a' e' w) := by
  obtain ⟨v1, a1, e1, hx⟩ := hid_ex3 (Pk.rd bs a e)
  have hv := rd_bd hx
  go_enter Tryz.func60, Tryz.ntmps60
  go_wp2_with (fail)
  refine (number_any B g bs a e v1 a1 e1 _ hin hx).mono ?_
  rintro _ w1 ⟨rfl, hin1, hf1⟩
  go_wp2_with (fail)
  refine (unfold_any v1 hv _).mono ?_
  rintro _ w2 ⟨rfl, rfl⟩
  go_wp2
  go_ret
  have hy := hrd.out
  unfold Pk.rdInt at hy
  rw [hx.out] at hy
  cases hy
  exact ⟨rfl, hin1, hf1⟩

theorem inErr_any (B g : Nat) (bs : List UInt8) (a : Nat) (e : Int) (w : World) (hin : InAt w B g bs a e) :
    Calls Tryz.prog 94 #[.pointer (some ⟨g, 0, none⟩)] w fun r w' => r = .returned (.int .i64 e) ∧ w = w' := by
  obtain ⟨A, c, hb, hr, hB, ha, hn⟩ := hin
  have h2 := hb.cell 2
  go_enter Tryz.func94, Tryz.ntmps94
  go_wp2
  go_ret
  exact ⟨rfl, rfl⟩

theorem inLeft_any (B g : Nat) (bs : List UInt8) (a : Nat) (e : Int) (w : World) (hin : InAt w B g bs a e) :
    Calls Tryz.prog 91 #[.pointer (some ⟨g, 0, none⟩)] w (InPost B g bs (.int .i64 ((bs.length - a : Nat) : Int)) a e w) := by
  have hin0 := hin
  obtain ⟨A, c, hb, hr, hB, ha, hn⟩ := hin0
  have h0 := hb.cell 0
  have h1 := hb.cell 1


  go_enter Tryz.func91, Tryz.ntmps91
  go_wp2
  go_quiet (fail)
  go_wp2
  go_ret
  refine ⟨congrArg (fun z => Ending.returned (.int .i64 z)) (show _ = ((bs.length - a : Nat) : Int) by omega), ?_, (Fr.refl _ _).drewN _⟩
  exact ⟨_, _, hb.drewN _, hr.drewN _, hB, ha, hn⟩

theorem inMany_any (B g : Nat) (bs : List UInt8) (a : Nat) (e most : Int) (v : Int) (a' : Nat) (e' : Int) (w : World) (hin : InAt w B g bs a e) (hrd : Hid (Pk.rdMany bs a e most = (v, a', e'))) :
    Calls Tryz.prog 93 #[.pointer (some ⟨g, 0, none⟩), .int .i64 most] w (InPost B g bs (.int .i64 v) a' e' w) := by
  obtain ⟨v1, a1, e1, hx⟩ := hid_ex3 (Pk.rdInt bs a e)
  have hy := hrd.out
  unfold Pk.rdMany at hy
  rw [hx.out] at hy
  have hy := Lib.hid hy
  have hin0 := hin
  obtain ⟨A, c, hb, hr, hB, ha, hn⟩ := hin0
  have h1 := hb.cell 1
  by_cases hbad : v1 < 0 ∨ most < v1
  · have hbad' := Lib.hid hbad
    rcases hbad with hbad | hbad
    all_goals
      go_enter Tryz.func93, Tryz.ntmps93
      go_wp2_with (fail)
      refine (inInt_any B g bs a e v1 a1 e1 _ hin hx).mono ?_
      rintro _ w1 ⟨rfl, hin1, hf1⟩
      go_wp2_with (fail)
      all_goals
        obtain ⟨A1, c1, hb1, hr1, _, _, hn⟩ := hin1
        refine (wrong_any g _ _ _ _ _ _ hb1).mono ?_
        rintro _ w2 ⟨rfl, hb2, hf2⟩
        go_wp2
        go_ret
        have hy := hy.out
        rw [if_pos hbad'.out] at hy
        cases hy
        exact ⟨rfl, ⟨_, _, hb2, hr1.fr hf2 (fun k hk => One.not hB hk), hB, ha, hn⟩, hf1.transOne hf2⟩
  · have hbad' := Lib.hid hbad
    have hb1 : ¬ v1 < 0 := fun h => hbad (.inl h)
    have hb2 : ¬ most < v1 := fun h => hbad (.inr h)
    clear hbad
    go_enter Tryz.func93, Tryz.ntmps93
    go_wp2_with (fail)
    refine (inInt_any B g bs a e v1 a1 e1 _ hin hx).mono ?_
    rintro _ w1 ⟨rfl, hin1, hf1⟩
    go_wp2
    go_ret
    have hy := hy.out
    rw [if_neg hbad'.out] at hy
    cases hy
    exact ⟨rfl, hin1, hf1⟩
end Go.Proofs.YtahcddlgghipjaaGreatDoor
