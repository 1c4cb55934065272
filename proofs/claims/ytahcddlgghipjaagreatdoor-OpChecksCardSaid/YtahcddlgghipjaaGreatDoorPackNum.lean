/-
  The cursor of package pack: wrong, number, truth: what each call does to the cursor, for every cursor.
  Condition: the cursor lies in a block of its own, above the bytes that it reads.
-/
import Derived.Test.YtahcddlgghipjaaGreatDoorProg
import Derived.Test.YtahcddlgghipjaaGreatDoorBase
import Derived.Test.YtahcddlgghipjaaGreatDoorCommon
import Derived.Test.YtahcddlgghipjaaGreatDoorPackSpec
namespace Go.Proofs.YtahcddlgghipjaaGreatDoor
open Go.RowKit

/-- Block g is an In (a cursor) over the bytes bs, at a place, with what is wrong; the bytes lie below B. -/
def InAt (w : World) (B g : Nat) (bs : List UInt8) (a : Nat) (e : Int) : Prop :=
  ∃ A c, Blk w g 111 #[.slice A bs.length c, .int .i64 a, .int .i64 e] ∧ Rd w B 1 A bs.length (bs.map Bv) ∧ B ≤ g ∧ a ≤ bs.length ∧ bs.length ≤ 4611686018427387904 ∧ bs.length ≤ c

theorem InAt.le {w : World} {B g : Nat} {bs : List UInt8} {a : Nat} {e : Int} (h : InAt w B g bs a e) : a ≤ bs.length := by
  obtain ⟨_, _, _, _, _, h, _⟩ := h; exact h
theorem InAt.lt {w : World} {B g : Nat} {bs : List UInt8} {a : Nat} {e : Int} (h : InAt w B g bs a e) : g < w.heap.size := by
  obtain ⟨_, _, h, _⟩ := h; exact h.lt
theorem InAt.fr {S : Nat → Prop} {w w' : World} {B g : Nat} {bs : List UInt8} {a : Nat} {e : Int} (h : InAt w B g bs a e) (hf : Fr S w w') (hs : ∀ k, k < B → ¬ S k) (hg : ¬ S g) : InAt w' B g bs a e := by
  obtain ⟨A, c, hb, hr, h1, h2, h3⟩ := h
  exact ⟨A, c, hb.fr hf hg, hr.fr hf hs, h1, h2, h3⟩

theorem InAt.alloc {w : World} {B g : Nat} {bs : List UInt8} {a : Nat} {e : Int} (h : InAt w B g bs a e) (o : Obj) : InAt (w.alloc o) B g bs a e :=
  h.fr (S := Non) ((Fr.refl _ _).alloc o) (fun _ _ hh => hh) (fun hh => hh)
theorem InAt.drewN {w : World} {B g : Nat} {bs : List UInt8} {a : Nat} {e : Int} (h : InAt w B g bs a e) (n : Nat) : InAt (w.drewN n) B g bs a e := h
def WrongPost (g : Nat) (s : Value) (a' e' : Int) (w : World) (r : Ending) (w' : World) : Prop :=
  r = .returned (.tuple #[]) ∧ Blk w' g 111 #[s, .int .i64 a', .int .i64 e'] ∧ Fr (One g) w w'
theorem wrong_any (g : Nat) (s : Value) (a e : Int) (a' e' : Int) (w : World) (hb : Blk w g 111 #[s, .int .i64 a, .int .i64 e]) :
    Calls Tryz.prog 90 #[.pointer (some ⟨g, 0, none⟩), .int .i64 e', .int .i64 a'] w (WrongPost g s a' e' w) := by
  have h1 := hb.cell 1
  have h2 := hb.cell 2
  have f1 := hb.frozen 1
  have f2 := hb.frozen 2
  go_enter Tryz.func90, Tryz.ntmps90
  go_wp2
  go_end0
  exact ⟨rfl, (hb.set 2 _).set 1 _, ((Fr.refl _ _).setOne _ _).setOne _ _⟩

def NumPost (B g : Nat) (bs : List UInt8) (v a' : Nat) (e' : Int) (w : World) (r : Ending) (w' : World) : Prop :=
  r = .returned (.int .u64 (v : Int)) ∧ InAt w' B g bs a' e' ∧ Fr (One g) w w'

/-- What a round of the loop knows: what is still to be read is what was to be read. -/
def NumRel (bs : List UInt8) (a j U : Nat) : Prop := Pk.go 0 0 (bs.drop a) = Pk.go j U (bs.drop (a + j)) ∧ U < 2 ^ (7 * j)

theorem numRel_next {bs : List UInt8} {a j U : Nat} {x : UInt8} (h : NumRel bs a j U) (hx : bs[a + j]? = some x) (hbad : ¬ ((j = 9 ∧ 1 < x.toNat) ∨ (x.toNat = 0 ∧ 0 < j))) (hl : ¬ x.toNat < 128) :
    NumRel bs a (j + 1) (U + x.toNat % 128 * 2 ^ (7 * j)) := by
  refine ⟨?_, ?_⟩
  · rw [h.1, drop_cons hx, Pk.go, if_neg hbad, if_neg hl]; rfl
  · have h1 := h.2
    have h2 : x.toNat % 128 ≤ 127 := by omega
    have h3 := Nat.mul_le_mul_right (2 ^ (7 * j)) h2
    rw [Pk.pow7]
    omega
theorem numRel_or {bs : List UInt8} {a j U : Nat} {x : UInt8} (hj : j ≤ 9) (h : NumRel bs a j U) (hbad : ¬ ((j = 9 ∧ 1 < x.toNat) ∨ (x.toNat = 0 ∧ 0 < j))) :
    bits BinOp.or IntKind.u64 (U : Int) (IntKind.u64.wrap ((x.toNat : Int) % 128 * 2 ^ (7 * j))) = ((U + x.toNat % 128 * 2 ^ (7 * j) : Nat) : Int) ∧ U + x.toNat % 128 * 2 ^ (7 * j) < 18446744073709551616 := by
  have hU := h.2
  have hx := x.toNat_lt
  have hb : x.toNat % 128 * 2 ^ (7 * j) + 2 ^ (7 * j) ≤ 18446744073709551616 := by
    by_cases h9 : j = 9
    · subst h9
      have : x.toNat % 128 ≤ 1 := by omega
      omega
    · have h1 : x.toNat % 128 ≤ 127 := by omega
      have h2 := Nat.mul_le_mul_right (2 ^ (7 * j)) h1
      have h3 : 2 ^ (7 * j) ≤ 2 ^ 56 := Nat.pow_le_pow_right (by omega) (by omega)
      omega
  have e1 : (x.toNat : Int) % 128 * 2 ^ (7 * j) = ((x.toNat % 128 * 2 ^ (7 * j) : Nat) : Int) := by
    rw [Int.natCast_mul, Int.natCast_pow]; rfl
  have hpos : 0 < 2 ^ (7 * j) := Nat.pow_pos (by omega)
  rw [e1, IntWalk.u64_in _ ⟨by omega, by omega⟩, u64_or_nat _ _ (by omega) (by omega), Nat.or_comm, nat_join (7 * j) _ _ (by simp) hU, Nat.add_comm]
  exact ⟨rfl, by omega⟩
theorem numRel_last {bs : List UInt8} {a j U : Nat} {x : UInt8} (h : NumRel bs a j U) (hx : bs[a + j]? = some x) (hbad : ¬ ((j = 9 ∧ 1 < x.toNat) ∨ (x.toNat = 0 ∧ 0 < j))) (hl : x.toNat < 128) :
    Pk.rd bs a 0 = (U + x.toNat % 128 * 2 ^ (7 * j), a + (j + 1), 0) := by
  unfold Pk.rd
  rw [if_pos rfl, h.1, drop_cons hx, Pk.go, if_neg hbad, if_pos hl]
theorem numRel_bad {bs : List UInt8} {a j U : Nat} {x : UInt8} (h : NumRel bs a j U) (hx : bs[a + j]? = some x) (hbad : (j = 9 ∧ 1 < x.toNat) ∨ (x.toNat = 0 ∧ 0 < j)) : Pk.rd bs a 0 = (0, a, 7) := by
  unfold Pk.rd
  rw [if_pos rfl, h.1, drop_cons hx, Pk.go, if_pos hbad]
theorem numRel_short {bs : List UInt8} {a j U : Nat} (h : NumRel bs a j U) (hn : bs.length ≤ a + j) : Pk.rd bs a 0 = (0, a, 9) := by
  unfold Pk.rd
  rw [if_pos rfl, h.1, List.drop_eq_nil_of_le hn, Pk.go]

set_option maxRecDepth 100000 in
set_option maxHeartbeats 2000000 in
theorem number_ok (B g : Nat) (bs : List UInt8) (a : Nat) (v a' : Nat) (e' : Int) (w : World) (hin : InAt w B g bs a 0) (hrd : Hid (Pk.rd bs a 0 = (v, a', e'))) :
    Calls Tryz.prog 89 #[.pointer (some ⟨g, 0, none⟩)] w (NumPost B g bs v a' e' w) := by
  obtain ⟨A, c, hb, hr, hB, ha, hn⟩ := hin
  generalize hlen0 : bs.length = n at *
  have hlen := Lib.hid hlen0
  clear hlen0
  have hn1 := hn.1
  have hn2 := Lib.hid hn
  clear hn
  have h0 := hb.cell 0
  have h1 := hb.cell 1
  have h2 := hb.cell 2
  go_enter Tryz.func89, Tryz.ntmps89
  go_wp2
  go_loopw [4, 5] (fun u k wr => ∃ (j U : Nat), k = .int .i64 j ∧ u = .int .u64 U ∧ j ≤ 9 ∧ a + j ≤ n ∧ NumRel bs a j U ∧ Blk wr g 111 #[.slice A n c, .int .i64 (a + j : Nat), .int .i64 0] ∧ Fr (One g) w wr) (fun _ k _ => 10 - (intOf k).toNat)
  case atStart => exact ⟨0, 0, rfl, rfl, by omega, by omega, ⟨rfl, by simp⟩, hb, Fr.refl _ _⟩
  case round =>
    clear h0 h1 h2
    obtain ⟨j, U, rfl, rfl, hj, haj, hrel, hb', hf⟩ := hrel
    have h0 := hb'.cell 0
    have h1 := hb'.cell 1
    have h2 := hb'.cell 2
    have f1 := hb'.frozen 1
    by_cases hlt : a + j < n
    · obtain ⟨b, off, u, rfl, hbB, hxu, hcu⟩ := (hr.fr hf (fun k hk => One.not hB hk)).at hlt
      obtain ⟨x, hx0, rfl⟩ := byte_of hxu
      have hx' := Lib.hid hx0
      clear hxu hx0
      have hx := x.toNat_lt
      by_cases hbad : (j = 9 ∧ 1 < x.toNat) ∨ (x.toNat = 0 ∧ 0 < j)
      · have hfin := Lib.hid (numRel_bad hrel hx'.out hbad)
        have hway : ((((j : Int) == 9) = true ∧ 1 < x.toNat) ∨ (((j : Int) == 9) = true ∧ ((x.toNat : Int) == 0) = true ∧ x.toNat ≤ 1 ∧ 0 < j)) ∨ (((j : Int) == 9) = false ∧ ((x.toNat : Int) == 0) = true ∧ 0 < j) := by
          simp only [beq_iff_eq, beq_eq_false_iff_ne, ne_eq]; omega
        clear hbad
        rcases hway with (⟨t1, t2⟩ | ⟨t1, t2, t3, t4⟩) | ⟨t1, t2, t3⟩
        all_goals
          go_wp2
          go_quiet (fail)
          go_wp2
          go_quiet (fail)
          go_wp2_with (fail)
          all_goals
            refine (wrong_any g _ _ _ _ _ _ ((hb'.drewN _).set 1 _)).mono ?_
            rintro e w1 ⟨rfl, hb1, hf1⟩
            go_wp2
            go_ret
            rw [hrd.out] at hfin
            cases hfin.out
            have hf2 := ((hf.drewN _).setOne 1 _).transOne hf1
            exact ⟨rfl, ⟨_, _, (by rw [hlen.out]; exact hb1), (by rw [hlen.out]; exact hr.fr hf2 (fun k hk => One.not hB hk)), hB, by rw [hlen.out]; exact ha, by rw [hlen.out]; exact hn2.out⟩, hf2⟩
      · have hor := numRel_or hj hrel hbad
        have hor1 := Lib.hid hor.1
        have hor2 := hor.2
        clear hor
        by_cases hlast : x.toNat < 128
        · have hfin := Lib.hid (numRel_last hrel hx'.out hbad hlast)
          have hway : ((((j : Int) == 9) = true ∧ ((x.toNat : Int) == 0) = false ∧ x.toNat ≤ 1) ∨ (((j : Int) == 9) = false ∧ ((x.toNat : Int) == 0) = false)) ∨ (((j : Int) == 9) = false ∧ ((x.toNat : Int) == 0) = true ∧ ¬ 0 < j) := by
            simp only [beq_iff_eq, beq_eq_false_iff_ne, ne_eq]; omega
          clear hbad
          rcases hway with (⟨t1, t2, t3⟩ | ⟨t1, t2⟩) | ⟨t1, t2, t3⟩
          all_goals
            go_wp2
            go_quiet (fail)
            go_wp2
            go_quiet (fail)
            go_wp2
            go_ret
            rw [hrd.out] at hfin
            cases hfin.out
            exact ⟨congrArg (fun z => Ending.returned (.int .u64 z)) hor1.out, ⟨_, _, (by rw [hlen.out]; exact (hb'.drewN _).set 1 _), (by rw [hlen.out]; exact hr.fr ((hf.drewN _).setOne 1 _) (fun k hk => One.not hB hk)), hB, by rw [hlen.out]; omega, by rw [hlen.out]; exact hn2.out⟩, (hf.drewN _).setOne 1 _⟩
        · have hnext := numRel_next hrel hx'.out hbad hlast
          have hj9 : j < 9 := by omega
          have t1 : ((j : Int) == 9) = false := beq_f (by omega)
          have t2 : ((x.toNat : Int) == 0) = false := beq_f (by omega)
          clear hbad
          go_wp2
          go_quiet (fail)
          go_wp2
          go_quiet (fail)
          go_wp2
          go_roundw
          case rel => exact ⟨j + 1, _, by go_num, congrArg (fun z => Value.int .u64 z) hor1.out, by omega, by omega, hnext, (hb'.drewN _).set 1 _, (hf.drewN _).setOne 1 _⟩
          case measure => simp [intOf]; omega
    · have hfin := Lib.hid (numRel_short hrel (by rw [hlen.out]; omega))
      go_wp2
      go_quiet (fail)
      go_wp2_with (fail)
      refine (wrong_any g _ _ _ _ _ _ (hb'.drewN _)).mono ?_
      rintro e w1 ⟨rfl, hb1, hf1⟩
      go_wp2
      go_ret
      rw [hrd.out] at hfin
      cases hfin.out
      have hf2 := (hf.drewN _).transOne hf1
      exact ⟨rfl, ⟨_, _, (by rw [hlen.out]; exact hb1), (by rw [hlen.out]; exact hr.fr hf2 (fun k hk => One.not hB hk)), hB, by rw [hlen.out]; exact ha, by rw [hlen.out]; exact hn2.out⟩, hf2⟩
end Go.Proofs.YtahcddlgghipjaaGreatDoor
