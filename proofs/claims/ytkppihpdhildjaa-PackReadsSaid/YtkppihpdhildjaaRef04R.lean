/-
  The reference of layer 4, reading: where a number ends, and the number: what each call does, for every state.
  Condition: the state lies in a block of its own, above the bytes that it reads.
-/
import Derived.Test.YtkppihpdhildjaaPackIn2
import Derived.Test.YtkppihpdhildjaaPackFin
namespace Go.Proofs.Ytkppihpdhildjaa
open Go.RowKit

/-- Block g is the reference's reader over the bytes bs, at a place, with what is wrong; the bytes lie below B. -/
def IAt (w : World) (B g : Nat) (bs : List UInt8) (a : Nat) (e : Int) : Prop :=
  ∃ A c, Blk w g 44 #[.slice A bs.length c, .int .i64 a, .int .i64 e] ∧ Rd w B 1 A bs.length (bs.map Bv) ∧ B ≤ g ∧ a ≤ bs.length ∧ bs.length ≤ 4611686018427387904 ∧ bs.length ≤ c

section
variable {S : Nat → Prop} {w w' : World} {B g a : Nat} {bs : List UInt8} {e : Int}
theorem IAt.le (h : IAt w B g bs a e) : a ≤ bs.length := by
  obtain ⟨_, _, _, _, _, h, _⟩ := h; exact h
theorem IAt.lt (h : IAt w B g bs a e) : g < w.heap.size := by
  obtain ⟨_, _, h, _⟩ := h; exact h.lt
theorem IAt.fr (h : IAt w B g bs a e) (hf : Fr S w w') (hs : ∀ k, k < B → ¬ S k) (hg : ¬ S g) : IAt w' B g bs a e := by
  obtain ⟨A, c, hb, hr, h1, h2, h3⟩ := h
  exact ⟨A, c, hb.fr hf hg, hr.fr hf hs, h1, h2, h3⟩
theorem IAt.alloc (h : IAt w B g bs a e) (o : Obj) : IAt (w.alloc o) B g bs a e :=
  h.fr (S := Non) ((Fr.refl _ _).alloc o) (fun _ _ hh => hh) (fun hh => hh)
theorem IAt.drewN (h : IAt w B g bs a e) (n : Nat) : IAt (w.drewN n) B g bs a e := h
end

theorem Blk.set' {w : World} {g : Nat} {t : TypeId} {cs cs' : Array Value} (h : Blk w g t cs) (i : Nat) (u : Value) (he : cs.setIfInBounds i u = cs') : Blk (w.setCell ⟨g, i, none⟩ u) g t cs' := he ▸ h.set i u
/-- What a read of the reference answers. -/
def IPost (B g : Nat) (bs : List UInt8) (v : Value) (a' : Nat) (e' : Int) (w : World) (r : Ending) (w' : World) : Prop :=
  r = .returned v ∧ IAt w' B g bs a' e' ∧ Fr (One g) w w'

def endAt (bs : List UInt8) (a : Nat) : Int := match Pk.fin (bs.drop a) with
  | some j => ((a + j : Nat) : Int)
  | none => -1

theorem fin_step {bs : List UInt8} {a : Nat} {x : UInt8} (h : bs[a]? = some x) : Pk.fin (bs.drop a) = if x.toNat < 128 then some 0 else (Pk.fin (bs.drop (a + 1))).map (· + 1) := by
  rw [drop_cons h, Pk.fin]

set_option maxRecDepth 100000 in
set_option maxHeartbeats 1000000 in
theorem end04_any (B : Nat) (A : Option Addr) (n c : Nat) (bs : List UInt8) (a : Nat) (w : World) (hn : Hid (bs.length = n)) (hr : Rd w B 1 A n (bs.map Bv)) (ha : a ≤ n) (hn' : n ≤ 4611686018427387904) :
    Calls Try.prog 56 #[.slice A n c, .int .i64 a] w fun r w' => r = .returned (.int .i64 (endAt bs a)) ∧ w' = w := by
  go_enter Try.func56, Try.ntmps56
  go_wp2
  go_loop [1] (fun v => ∃ k : Nat, v = .int .i64 (k : Int) ∧ k ≤ n ∧ Hid (endAt bs a = endAt bs k)) (fun v => n - (intOf v).toNat)
  case atStart => exact ⟨a, rfl, ha, rfl⟩
  case round =>
    obtain ⟨k, rfl, hk, hrel⟩ := hrel
    by_cases hlt : k < n
    · obtain ⟨b, off, u, rfl, hbB, hxu, hcu⟩ := hr.at hlt
      obtain ⟨x, hx0, rfl⟩ := byte_of hxu
      have hx' := Lib.hid hx0
      clear hxu hx0
      have hx := x.toNat_lt
      by_cases hl : x.toNat < 128
      · have hfin : Hid (endAt bs a = (k : Int)) := by
          show _ = _
          rw [hrel.out, endAt, fin_step hx'.out, if_pos hl]
          rfl
        go_wp2
        go_ret
        exact ⟨congrArg (fun z => Ending.returned (.int .i64 z)) hfin.out.symm, rfl⟩
      · have hfin : Hid (endAt bs a = endAt bs (k + 1)) := by
          show _ = _
          rw [hrel.out, endAt, fin_step hx'.out, if_neg hl]
          unfold endAt
          cases Pk.fin (bs.drop (k + 1)) with
          | none => rfl
          | some j => simp; omega
        go_wp2
        go_round
        case rel => exact ⟨k + 1, by go_num, by omega, hfin⟩
        case measure => simp [intOf]; omega
    · have hfin : Hid (endAt bs a = -1) := by
        show _ = _
        rw [hrel.out, endAt, List.drop_eq_nil_of_le (by rw [hn.out]; omega)]
        rfl
      go_wp2
      go_ret
      exact ⟨congrArg (fun z => Ending.returned (.int .i64 z)) hfin.out.symm, rfl⟩

set_option maxRecDepth 100000 in
set_option maxHeartbeats 4000000 in
theorem iNum_none (B g : Nat) (bs : List UInt8) (a : Nat) (w : World) (hin : IAt w B g bs a 0) (hfin : Pk.fin (bs.drop a) = none) :
    Calls Try.prog 44 #[.pointer (some ⟨g, 0, none⟩)] w (IPost B g bs (.int .u64 0) a (if 10 ≤ bs.length - a then 7 else 9) w) := by
  have hin0 := hin
  obtain ⟨A, c, hb, hr, hB, ha, hn, hc⟩ := hin0
  have hend : Hid (endAt bs a = -1) := by show _ = _; rw [endAt, hfin]
  generalize hlen0 : bs.length = n at *
  have hlen := Lib.hid hlen0
  clear hlen0
  have hfin' := Lib.hid hfin
  clear hfin
  have h0 := hb.cell 0
  have h1 := hb.cell 1
  have h2 := hb.cell 2
  have f2 := hb.frozen 2
  have hca := hc
  rcases (show 10 < n - a ∨ (10 ≤ n - a ∧ n - a ≤ 10) ∨ ¬ 10 ≤ n - a by omega) with h11 | ⟨h10, h11⟩ | h10
  · have t1 : ((n : Int) - (a : Int) == 10) = false := beq_f (by omega)
    have t2 : decide ((10 : Int) < (n : Int) - (a : Int)) = true := by simp; omega
    go_enter Try.func44, Try.ntmps44
    go_wp2
    go_quiet ((go_at_call 56; exact Calls.quiet_of_same (end04_any B _ n c bs a _ hlen (hr.drewN _) ha hn)))
    rw [hend.out]
    go_wp2
    go_quiet (fail)
    go_wp2
    go_quiet (fail)
    go_wp2
    go_ret
    exact ⟨rfl, ⟨_, c, (by rw [hlen.out]; exact (hb.drewN _).set 2 _), (by rw [hlen.out]; exact hr.fr (((Fr.refl (One g) _).drewN _).setOne 2 _) (fun k hk => One.not hB hk)), hB, by rw [hlen.out]; exact ha, by rw [hlen.out]; exact hn, by rw [hlen.out]; exact hc⟩, ((Fr.refl (One g) _).drewN _).setOne 2 _⟩
  · have t1 : ((n : Int) - (a : Int) == 10) = true := beq_t (by omega)
    have t2 : decide ((10 : Int) < (n : Int) - (a : Int)) = false := by simp; omega
    obtain ⟨b, off, u, rfl, hbB, hxu, hcu⟩ := hr.at (k := a + 9) (by omega)
    obtain ⟨x, hx0, rfl⟩ := byte_of hxu
    have hx' := Lib.hid hx0
    clear hxu hx0
    have hxge : 128 ≤ x.toNat := by
      obtain ⟨h1, h2⟩ := Pk.fin_ge (bs.drop a) 9 (fun k hk => by rw [hfin'.out] at hk; cases hk) (by rw [List.length_drop, hlen.out]; omega)
      obtain ⟨h3, h4⟩ := List.getElem?_eq_some_iff.1 hx'.out
      rw [List.getElem_drop, h4] at h2
      exact h2
    have t3 : decide ((1 : Int) < (x.toNat : Int)) = true := by simp; omega
    go_enter Try.func44, Try.ntmps44
    go_wp2
    go_quiet ((go_at_call 56; exact Calls.quiet_of_same (end04_any B _ n c bs a _ hlen (hr.drewN _) ha hn)))
    rw [hend.out]
    go_wp2
    go_quiet (fail)
    go_wp2
    go_quiet (fail)
    go_wp2
    go_ret
    exact ⟨rfl, ⟨_, c, (by rw [hlen.out]; exact (hb.drewN _).set 2 _), (by rw [hlen.out]; exact hr.fr (((Fr.refl (One g) _).drewN _).setOne 2 _) (fun k hk => One.not hB hk)), hB, by rw [hlen.out]; exact ha, by rw [hlen.out]; exact hn, by rw [hlen.out]; exact hc⟩, ((Fr.refl (One g) _).drewN _).setOne 2 _⟩
  · have t1 : ((n : Int) - (a : Int) == 10) = false := beq_f (by omega)
    have t2 : decide ((10 : Int) < (n : Int) - (a : Int)) = false := by simp; omega
    go_enter Try.func44, Try.ntmps44
    go_wp2
    go_quiet ((go_at_call 56; exact Calls.quiet_of_same (end04_any B _ n c bs a _ hlen (hr.drewN _) ha hn)))
    rw [hend.out]
    go_wp2
    go_quiet (fail)
    go_wp2
    go_quiet (fail)
    go_wp2
    go_ret
    exact ⟨rfl, ⟨_, c, (by rw [hlen.out]; exact (hb.drewN _).set 2 _), (by rw [hlen.out]; exact hr.fr (((Fr.refl (One g) _).drewN _).setOne 2 _) (fun k hk => One.not hB hk)), hB, by rw [hlen.out]; exact ha, by rw [hlen.out]; exact hn, by rw [hlen.out]; exact hc⟩, ((Fr.refl (One g) _).drewN _).setOne 2 _⟩

set_option maxRecDepth 100000 in
set_option maxHeartbeats 4000000 in
theorem iNum_bad (B g : Nat) (bs : List UInt8) (a j : Nat) (y : UInt8) (w : World) (hin : IAt w B g bs a 0) (hfin : Pk.fin (bs.drop a) = some j) (hy : bs[a + j]? = some y)
    (hbad : 10 ≤ j ∨ (j = 9 ∧ 1 < y.toNat) ∨ (0 < j ∧ y.toNat = 0)) :
    Calls Try.prog 44 #[.pointer (some ⟨g, 0, none⟩)] w (IPost B g bs (.int .u64 0) a 7 w) := by
  have hin0 := hin
  obtain ⟨A, c, hb, hr, hB, ha, hn, hc⟩ := hin0
  have hend : Hid (endAt bs a = ((a + j : Nat) : Int)) := by show _ = _; rw [endAt, hfin]
  have hjl : a + j < bs.length := (List.getElem?_eq_some_iff.1 hy).1
  generalize hlen0 : bs.length = n at *
  have hlen := Lib.hid hlen0
  clear hlen0
  have hfin' := Lib.hid hfin
  have hy' := Lib.hid hy
  clear hfin hy
  have h0 := hb.cell 0
  have h1 := hb.cell 1
  have h2 := hb.cell 2
  have f2 := hb.frozen 2
  obtain ⟨b, off, u, rfl, hbB, hxu, hcu⟩ := hr.at (k := a + j) hjl
  obtain ⟨x, hx0, rfl⟩ := byte_of hxu
  have hxy : x = y := by rw [hy'.out] at hx0; injection hx0 with h; exact h.symm
  subst hxy
  clear hxu hx0
  have hx := x.toNat_lt
  have hway : (9 < j) ∨ (j = 9 ∧ 1 < x.toNat) ∨ (j ≤ 9 ∧ ¬ (j = 9 ∧ 1 < x.toNat) ∧ 0 < j ∧ x.toNat = 0) := by omega
  clear hbad
  have hsz : (a : Int) + (j : Int) - (a : Int) = (j : Int) := by omega
  have hsz9 : (a : Int) + (9 : Int) - (a : Int) = (9 : Int) := by omega
  rcases hway with h10 | ⟨h9, hx1⟩ | ⟨h9, hx1, hj0, hx0⟩
  · have t1 : ((j : Int) + 1 == 10) = false := beq_f (by omega)
    have t2 : decide ((10 : Int) < (j : Int) + 1) = true := by simp; omega
    go_enter Try.func44, Try.ntmps44
    go_wp2
    go_quiet ((go_at_call 56; exact Calls.quiet_of_same (end04_any B _ n c bs a _ hlen (hr.drewN _) ha hn)))
    rw [hend.out]
    go_wp2
    go_quiet (fail)
    go_wp2
    go_ret
    exact ⟨rfl, ⟨_, c, (by rw [hlen.out]; exact (hb.drewN _).set 2 _), (by rw [hlen.out]; exact hr.fr (((Fr.refl (One g) _).drewN _).setOne 2 _) (fun k hk => One.not hB hk)), hB, by rw [hlen.out]; exact ha, by rw [hlen.out]; exact hn, by rw [hlen.out]; exact hc⟩, ((Fr.refl (One g) _).drewN _).setOne 2 _⟩
  · obtain rfl : j = 9 := h9
    have t3 : decide ((1 : Int) < (x.toNat : Int)) = true := by simp; omega
    go_enter Try.func44, Try.ntmps44
    go_wp2
    go_quiet ((go_at_call 56; exact Calls.quiet_of_same (end04_any B _ n c bs a _ hlen (hr.drewN _) ha hn)))
    rw [hend.out]
    go_wp2
    go_quiet (fail)
    go_wp2
    go_ret
    exact ⟨rfl, ⟨_, c, (by rw [hlen.out]; exact (hb.drewN _).set 2 _), (by rw [hlen.out]; exact hr.fr (((Fr.refl (One g) _).drewN _).setOne 2 _) (fun k hk => One.not hB hk)), hB, by rw [hlen.out]; exact ha, by rw [hlen.out]; exact hn, by rw [hlen.out]; exact hc⟩, ((Fr.refl (One g) _).drewN _).setOne 2 _⟩
  · have hx0' : (x.toNat : Int) ≤ 0 := by omega
    have t4 : ((x.toNat : Int) == 0) = true := beq_t (by omega)
    have t5 : decide ((1 : Int) < (x.toNat : Int)) = false := by simp; omega
    have hx0'' := Lib.hid hx0
    clear hx0
    by_cases h9' : j = 9
    · obtain rfl : j = 9 := h9'
      go_enter Try.func44, Try.ntmps44
      go_wp2
      go_quiet ((go_at_call 56; exact Calls.quiet_of_same (end04_any B _ n c bs a _ hlen (hr.drewN _) ha hn)))
      rw [hend.out]
      go_wp2
      go_quiet (fail)
      go_wp2
      go_ret
      exact ⟨rfl, ⟨_, c, (by rw [hlen.out]; exact (hb.drewN _).set 2 _), (by rw [hlen.out]; exact hr.fr (((Fr.refl (One g) _).drewN _).setOne 2 _) (fun k hk => One.not hB hk)), hB, by rw [hlen.out]; exact ha, by rw [hlen.out]; exact hn, by rw [hlen.out]; exact hc⟩, ((Fr.refl (One g) _).drewN _).setOne 2 _⟩
    · have t1 : ((j : Int) + 1 == 10) = false := beq_f (by omega)
      have t2 : decide ((10 : Int) < (j : Int) + 1) = false := by simp; omega
      have t6 : decide ((1 : Int) < (j : Int) + 1) = true := by simp; omega
      go_enter Try.func44, Try.ntmps44
      go_wp2
      go_quiet ((go_at_call 56; exact Calls.quiet_of_same (end04_any B _ n c bs a _ hlen (hr.drewN _) ha hn)))
      rw [hend.out]
      go_wp2
      go_quiet (fail)
      go_wp2
      go_ret
      exact ⟨rfl, ⟨_, c, (by rw [hlen.out]; exact (hb.drewN _).set 2 _), (by rw [hlen.out]; exact hr.fr (((Fr.refl (One g) _).drewN _).setOne 2 _) (fun k hk => One.not hB hk)), hB, by rw [hlen.out]; exact ha, by rw [hlen.out]; exact hn, by rw [hlen.out]; exact hc⟩, ((Fr.refl (One g) _).drewN _).setOne 2 _⟩

set_option maxRecDepth 100000 in
set_option maxHeartbeats 4000000 in
theorem iNum_good (B g : Nat) (bs : List UInt8) (a j V : Nat) (y : UInt8) (w : World) (hin : IAt w B g bs a 0) (hfin : Pk.fin (bs.drop a) = some j) (hy : bs[a + j]? = some y)
    (hgood : ¬ (10 ≤ j ∨ (j = 9 ∧ 1 < y.toNat) ∨ (0 < j ∧ y.toNat = 0))) (hV : Hid (Pk.val ((bs.drop a).take (j + 1)) = V)) (hV64 : V < 18446744073709551616) :
    Calls Try.prog 44 #[.pointer (some ⟨g, 0, none⟩)] w (IPost B g bs (.int .u64 (V : Int)) (a + (j + 1)) 0 w) := by
  have hin0 := hin
  obtain ⟨A, c, hb, hr, hB, ha, hn, hc⟩ := hin0
  have hend : Hid (endAt bs a = ((a + j : Nat) : Int)) := by show _ = _; rw [endAt, hfin]
  have hjl : a + j < bs.length := (List.getElem?_eq_some_iff.1 hy).1
  generalize hlen0 : bs.length = n at *
  have hlen := Lib.hid hlen0
  clear hlen0
  have hfin' := Lib.hid hfin
  have hy' := Lib.hid hy
  clear hfin hy
  have h0 := hb.cell 0
  have h1 := hb.cell 1
  have h2 := hb.cell 2
  have f1 := hb.frozen 1
  obtain ⟨b, off, u, rfl, hbB, hxu, hcu⟩ := hr.at (k := a + j) hjl
  obtain ⟨x, hx0, rfl⟩ := byte_of hxu
  have hxy : x = y := by rw [hy'.out] at hx0; injection hx0 with h; exact h.symm
  subst hxy
  clear hxu hx0
  have hx := x.toNat_lt
  have hsz : (a : Int) + (j : Int) - (a : Int) = (j : Int) := by omega
  have hsz9 : (a : Int) + (9 : Int) - (a : Int) = (9 : Int) := by omega
  have hway : (((j = 9 ∧ x.toNat ≤ 1 ∧ ((x.toNat : Int) == 0) = false) ∨ (j < 9 ∧ 0 < j ∧ ((x.toNat : Int) == 0) = false)) ∨ j ≤ 0) := by
    simp only [beq_eq_false_iff_ne, ne_eq]; omega
  clear hgood
  have hlist : ∀ k, k ≤ j → ∃ z : UInt8, ((bs.drop a).take (j + 1))[k]? = some z ∧ w.cell? ⟨b, off + (a + k), none⟩ = some (.int .u8 (z.toNat : Int)) := by
    intro k hk
    obtain ⟨b', off', u', e', _, hxu, hcu⟩ := hr.at (k := a + k) (by omega)
    cases e'
    obtain ⟨z, hz0, rfl⟩ := byte_of hxu
    exact ⟨z, by rw [List.getElem?_take, if_pos (by omega), List.getElem?_drop]; exact hz0, hcu⟩
  have hlist' := Lib.hid hlist
  clear hlist
  have hLl : Hid (((bs.drop a).take (j + 1)).length = j + 1) := by show _ = _; rw [List.length_take, List.length_drop, hlen.out]; omega
  obtain ⟨L, hL⟩ := hid_ex ((bs.drop a).take (j + 1))
  rw [hL.out] at hV hLl hlist'
  rcases hway with (⟨h9, hx1, t4⟩ | ⟨h9, hj0, t4⟩) | h9
  · obtain rfl : j = 9 := h9
    have t3 : decide ((1 : Int) < (x.toNat : Int)) = false := by simp; omega
    go_enter Try.func44, Try.ntmps44
    go_wp2
    go_quiet ((go_at_call 56; exact Calls.quiet_of_same (end04_any B _ n c bs a _ hlen (hr.drewN _) ha hn)))
    rw [hend.out]
    go_wp2
    go_quiet (fail)
    go_wp2
    go_loop [5, 6] (fun u v => ∃ (r U : Nat), v = .int .i64 ((a : Int) + (r : Int) - 1) ∧ u = .int .u64 (U : Int) ∧ Hid (U = Pk.val (L.drop r)) ∧ r ≤ 9 + 1) (fun _ v => (intOf v + 1 - a).toNat)
    case atStart => exact ⟨9 + 1, 0, congrArg (Value.int .i64) (by omega), rfl, (by show _ = _; rw [List.drop_eq_nil_of_le (by rw [hLl.out]; omega)]; rfl), by omega⟩
    case round =>
      obtain ⟨r, U, rfl, rfl, hU, hr1⟩ := hrel
      rcases Nat.eq_zero_or_pos r with h00 | h00
      · have hUV : Hid (U = V) := by show _ = _; rw [hU.out, h00, ← hV.out]; rfl
        have h00' : (r : Int) ≤ 0 := by omega
        clear h00
        go_wp2
        go_ret
        refine ⟨congrArg (fun z : Nat => Ending.returned (.int .u64 (z : Int))) hUV.out, ⟨_, c, ?_, (by rw [hlen.out]; exact hr.fr (((Fr.refl (One g) _).drewN _).setOne 1 _) (fun k hk => One.not hB hk)), hB, by rw [hlen.out]; omega, by rw [hlen.out]; exact hn, by rw [hlen.out]; exact hc⟩, ((Fr.refl (One g) _).drewN _).setOne 1 _⟩
        rw [hlen.out]
        exact (hb.drewN _).set' 1 _ (by simp; try omega)
      · obtain ⟨r', rfl⟩ : ∃ r', r = r' + 1 := ⟨r - 1, by omega⟩
        obtain ⟨z, hz, hcz⟩ := hlist'.out r' (by omega)
        have hstep : Hid (U * 128 + z.toNat % 128 = Pk.val (L.drop r')) := by show _ = _; rw [hU.out]; exact (Pk.val_drop L r' z hz).symm
        have hz64 : U * 128 + z.toNat % 128 < 18446744073709551616 := by
          rw [hstep.out]
          exact Nat.lt_of_le_of_lt (Pk.val_mono L r') (by rw [hV.out]; exact hV64)
        have hzl := z.toNat_lt
        have hz' := Lib.hid hz
        clear hz
        rw [show (a : Int) + ((r' + 1 : Nat) : Int) - 1 = ((a + r' : Nat) : Int) by omega]
        go_wp2
        go_round
        case rel => exact ⟨r', U * 128 + z.toNat % 128, congrArg (Value.int .i64) (by omega), by go_num, hstep.out, by omega⟩
        case measure => simp [intOf]; omega
  · have t1 : ((j : Int) + 1 == 10) = false := beq_f (by omega)
    have t2 : decide ((10 : Int) < (j : Int) + 1) = false := by simp; omega
    have t6 : decide ((1 : Int) < (j : Int) + 1) = true := by simp; omega
    go_enter Try.func44, Try.ntmps44
    go_wp2
    go_quiet ((go_at_call 56; exact Calls.quiet_of_same (end04_any B _ n c bs a _ hlen (hr.drewN _) ha hn)))
    rw [hend.out]
    go_wp2
    go_quiet (fail)
    go_wp2
    go_loop [5, 6] (fun u v => ∃ (r U : Nat), v = .int .i64 ((a : Int) + (r : Int) - 1) ∧ u = .int .u64 (U : Int) ∧ Hid (U = Pk.val (L.drop r)) ∧ r ≤ j + 1) (fun _ v => (intOf v + 1 - a).toNat)
    case atStart => exact ⟨j + 1, 0, congrArg (Value.int .i64) (by omega), rfl, (by show _ = _; rw [List.drop_eq_nil_of_le (by rw [hLl.out]; omega)]; rfl), by omega⟩
    case round =>
      obtain ⟨r, U, rfl, rfl, hU, hr1⟩ := hrel
      rcases Nat.eq_zero_or_pos r with h00 | h00
      · have hUV : Hid (U = V) := by show _ = _; rw [hU.out, h00, ← hV.out]; rfl
        have h00' : (r : Int) ≤ 0 := by omega
        clear h00
        go_wp2
        go_ret
        refine ⟨congrArg (fun z : Nat => Ending.returned (.int .u64 (z : Int))) hUV.out, ⟨_, c, ?_, (by rw [hlen.out]; exact hr.fr (((Fr.refl (One g) _).drewN _).setOne 1 _) (fun k hk => One.not hB hk)), hB, by rw [hlen.out]; omega, by rw [hlen.out]; exact hn, by rw [hlen.out]; exact hc⟩, ((Fr.refl (One g) _).drewN _).setOne 1 _⟩
        rw [hlen.out]
        exact (hb.drewN _).set' 1 _ (by simp; try omega)
      · obtain ⟨r', rfl⟩ : ∃ r', r = r' + 1 := ⟨r - 1, by omega⟩
        obtain ⟨z, hz, hcz⟩ := hlist'.out r' (by omega)
        have hstep : Hid (U * 128 + z.toNat % 128 = Pk.val (L.drop r')) := by show _ = _; rw [hU.out]; exact (Pk.val_drop L r' z hz).symm
        have hz64 : U * 128 + z.toNat % 128 < 18446744073709551616 := by
          rw [hstep.out]
          exact Nat.lt_of_le_of_lt (Pk.val_mono L r') (by rw [hV.out]; exact hV64)
        have hzl := z.toNat_lt
        have hz' := Lib.hid hz
        clear hz
        rw [show (a : Int) + ((r' + 1 : Nat) : Int) - 1 = ((a + r' : Nat) : Int) by omega]
        go_wp2
        go_round
        case rel => exact ⟨r', U * 128 + z.toNat % 128, congrArg (Value.int .i64) (by omega), by go_num, hstep.out, by omega⟩
        case measure => simp [intOf]; omega
  · obtain rfl : j = 0 := by omega
    have hsz0 : (a : Int) - (a : Int) = 0 := by omega
    go_enter Try.func44, Try.ntmps44
    go_wp2
    go_quiet ((go_at_call 56; exact Calls.quiet_of_same (end04_any B _ n c bs a _ hlen (hr.drewN _) ha hn)))
    rw [hend.out]
    go_wp2
    go_quiet (fail)
    go_wp2
    go_loop [5, 6] (fun u v => ∃ (r U : Nat), v = .int .i64 ((a : Int) + (r : Int) - 1) ∧ u = .int .u64 (U : Int) ∧ Hid (U = Pk.val (L.drop r)) ∧ r ≤ 0 + 1) (fun _ v => (intOf v + 1 - a).toNat)
    case atStart => exact ⟨0 + 1, 0, congrArg (Value.int .i64) (by omega), rfl, (by show _ = _; rw [List.drop_eq_nil_of_le (by rw [hLl.out]; omega)]; rfl), by omega⟩
    case round =>
      obtain ⟨r, U, rfl, rfl, hU, hr1⟩ := hrel
      rcases Nat.eq_zero_or_pos r with h00 | h00
      · have hUV : Hid (U = V) := by show _ = _; rw [hU.out, h00, ← hV.out]; rfl
        have h00' : (r : Int) ≤ 0 := by omega
        clear h00
        go_wp2
        go_ret
        refine ⟨congrArg (fun z : Nat => Ending.returned (.int .u64 (z : Int))) hUV.out, ⟨_, c, ?_, (by rw [hlen.out]; exact hr.fr (((Fr.refl (One g) _).drewN _).setOne 1 _) (fun k hk => One.not hB hk)), hB, by rw [hlen.out]; omega, by rw [hlen.out]; exact hn, by rw [hlen.out]; exact hc⟩, ((Fr.refl (One g) _).drewN _).setOne 1 _⟩
        rw [hlen.out]
        exact (hb.drewN _).set' 1 _ (by simp; try omega)
      · obtain ⟨r', rfl⟩ : ∃ r', r = r' + 1 := ⟨r - 1, by omega⟩
        obtain ⟨z, hz, hcz⟩ := hlist'.out r' (by omega)
        have hstep : Hid (U * 128 + z.toNat % 128 = Pk.val (L.drop r')) := by show _ = _; rw [hU.out]; exact (Pk.val_drop L r' z hz).symm
        have hz64 : U * 128 + z.toNat % 128 < 18446744073709551616 := by
          rw [hstep.out]
          exact Nat.lt_of_le_of_lt (Pk.val_mono L r') (by rw [hV.out]; exact hV64)
        have hzl := z.toNat_lt
        have hz' := Lib.hid hz
        clear hz
        rw [show (a : Int) + ((r' + 1 : Nat) : Int) - 1 = ((a + r' : Nat) : Int) by omega]
        go_wp2
        go_round
        case rel => exact ⟨r', U * 128 + z.toNat % 128, congrArg (Value.int .i64) (by omega), by go_num, hstep.out, by omega⟩
        case measure => simp [intOf]; omega
end Go.Proofs.Ytkppihpdhildjaa
