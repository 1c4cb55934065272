/-
  op.get at its instances, and the closures of op.Get: what each reads.
  Conditions: the In lies in a block of its own, its bytes below it.
-/
import Derived.Test.YtahcddlgghipjaaGreatDoorOpParse
import Derived.Test.YtahcddlgghipjaaGreatDoorRowOps
import Derived.Test.YtahcddlgghipjaaGreatDoorPackIn2
import Derived.Deep.RegionHeld3
import Derived.Deep.Cut
namespace Go.Proofs.YtahcddlgghipjaaGreatDoor
open Go.RowKit
attribute [local go_sem ↓] Go.wp_at_zero Go.wp_at_succ
namespace Oq

/-- Rows of the call's own: they read as these cells, lie from base on, are of element type t, and may be written. -/
def RowAt (w : World) (base : Nat) (t : TypeId) (size : Nat) (A : Option Addr) (n c : Nat) (xs : List Value) : Prop :=
  SlAt w w.heap.size size A n c xs ∧ (n = 0 ∨ ∃ k cs fr, A = some ⟨k, 0, none⟩ ∧ base ≤ k ∧ w.heap[k]? = some (.cells cs t fr) ∧ ∀ j, j < n * size → w.frozen? ⟨k, j, none⟩ = false)
section
variable {S : Nat → Prop} {w w' : World} {base base' size n c : Nat} {t : TypeId} {A : Option Addr} {xs : List Value}
theorem frozen_block {w w' : World} {k : Nat} (h : w'.heap[k]? = w.heap[k]?) (j : Nat) : w'.frozen? ⟨k, j, none⟩ = w.frozen? ⟨k, j, none⟩ := by
  unfold World.frozen?
  rw [h]
theorem RowAt.sl (h : RowAt w base t size A n c xs) : SlAt w w.heap.size size A n c xs := h.1
theorem RowAt.fr (h : RowAt w base t size A n c xs) (hf : Fr S w w') (hs : n ≠ 0 → ∀ k, rowOf A = some k → ¬ S k) : RowAt w' base t size A n c xs := by
  obtain ⟨⟨⟨h1, h2⟩, h3⟩, h4⟩ := h
  rcases h4 with h0 | ⟨k, cs, fr, rfl, hk, hb, hz⟩
  · exact ⟨⟨⟨h1, .inl h0⟩, h3⟩, .inl h0⟩
  · by_cases h0 : n = 0
    · exact ⟨⟨⟨h1, .inl h0⟩, h3⟩, .inl h0⟩
    · have hkl := (Array.getElem?_eq_some_iff.1 hb).1
      have hbk := hf.block k hkl (hs h0 k rfl)
      refine ⟨⟨⟨h1, ?_⟩, h3⟩, .inr ⟨k, cs, fr, rfl, hk, hbk.trans hb, fun j hj => (frozen_block hbk j).trans (hz j hj)⟩⟩
      rcases h2 with h2 | ⟨b, off, e, hlt, hc⟩
      · exact .inl h2
      · injection e with e
        injection e with e1 e2
        subst e1 e2
        exact .inr ⟨k, 0, rfl, Nat.lt_of_lt_of_le hkl hf.size, fun j u hu => (World.cell?_of_block hbk).trans (hc j u hu)⟩
theorem RowAt.lower (h : RowAt w base t size A n c xs) (hb : base' ≤ base) : RowAt w base' t size A n c xs :=
  ⟨h.1, h.2.imp id fun ⟨k, cs, fr, e, hk, r⟩ => ⟨k, cs, fr, e, Nat.le_trans hb hk, r⟩⟩
theorem RowAt.of_own (h : Own w base t size A n c xs) : RowAt w base t size A n c xs := by
  refine ⟨⟨h.rd, h.cap⟩, ?_⟩
  rcases h.2 with ⟨hv, hn⟩ | ⟨g, cap, cur, hv, hb, hg, _⟩
  · exact .inl hn
  · injection hv with hA _ _
    refine .inr ⟨g, cur, (0, 0), hA, hb, hg, fun j _ => ?_⟩
    simp [World.frozen?, hg]
theorem RowAt.ne (h : RowAt w base t size A n c xs) {g : Nat} {t' : TypeId} {cs : Array Value} {fr : Nat × Nat} (hb : w.heap[g]? = some (.cells cs t' fr)) (ht : t ≠ t') : n ≠ 0 → ∀ k, rowOf A = some k → k ≠ g := by
  intro h0 k hk
  rcases h.2 with hn | ⟨k', cs', fr', rfl, _, hb', _⟩
  · exact absurd hn h0
  · injection hk with hk
    subst hk
    rintro rfl
    rw [hb] at hb'
    injection hb' with hb'
    injection hb' with _ e _
    exact ht e.symm
/-- An own row of another type is not touched. -/
theorem RowAt.far (h : RowAt w base t size A n c xs) {A' : Option Addr} {base2 size2 n2 c2 : Nat} {t' : TypeId} {xs2 : List Value} (ho : Own w base2 t' size2 A' n2 c2 xs2) (ht : t ≠ t') : n ≠ 0 → ∀ k, rowOf A = some k → ¬ rowOf A' = some k := by
  intro h0 k hk hk'
  rcases ho.2 with ⟨hv, _⟩ | ⟨g, cap, cur, hv, _, hg, _⟩
  · injection hv with hA _ _
    subst hA
    cases hk'
  · injection hv with hA _ _
    subst hA
    injection hk' with hk'
    exact h.ne hg ht h0 k hk hk'.symm
end

theorem Rd.blk {w : World} {k : Nat} {t : TypeId} {size n : Nat} {l : List Value} (h : Blk w k t l.toArray) (hn : l.length = n * size) : Rd w w.heap.size size (some ⟨k, 0, none⟩) n l := by
  refine ⟨hn, .inr ⟨k, 0, rfl, h.lt, fun j u hu => ?_⟩⟩
  rw [Nat.zero_add, h.cell j, List.getElem?_toArray]
  exact hu

theorem many_bd {bs : List UInt8} {a a' : Nat} {e e' v : Int} (h : Pk.rdMany bs a e 1000 = (v, a', e')) : 0 ≤ v ∧ v ≤ 1000 := by
  unfold Pk.rdMany at h
  split at h
  · injection h with h; omega
  · rename_i hc
    have : v = (Pk.rdInt bs a e).1 := by rw [h]
    omega

theorem cell_set4 (w : World) (r : Nat) (u0 u1 u2 u3 : Value) {g : Nat} {v : Value} (h : w.cell? ⟨g, 0, none⟩ = some v) (hne : r ≠ g) :
    ((((w.setCell ⟨r, 0, none⟩ u0).setCell ⟨r, 1, none⟩ u1).setCell ⟨r, 2, none⟩ u2).setCell ⟨r, 3, none⟩ u3).cell? ⟨g, 0, none⟩ = some v := by
  rw [World.cell?_setCell_far _ _ _ _ (by exact hne), World.cell?_setCell_far _ _ _ _ (by exact hne), World.cell?_setCell_far _ _ _ _ (by exact hne), World.cell?_setCell_far _ _ _ _ (by exact hne)]
  exact h
theorem slId : SlT Tryz.prog 23 27 (.agg #[.int .i64 0, .int .i64 0, .int .u64 0]) 3 24 := ⟨Tryz.underlying23, by kernel_rfl, rfl, by decide⟩
theorem slBx : SlT Tryz.prog 30 60 (.agg #[.int .u64 0, .int .u64 0, .int .u64 0, .int .u64 0]) 4 32 := ⟨Tryz.underlying30, by kernel_rfl, rfl, by decide⟩
theorem slNd : SlT Tryz.prog 24 55 (.agg #[.int .u64 0, .slice none 0 0]) 2 32 := ⟨Tryz.underlying24, by kernel_rfl, rfl, by decide⟩
theorem slSl : SlT Tryz.prog 31 58 (.agg #[.int .i64 0, .int .i64 0, .int .u64 0, .slice none 0 0]) 4 48 := ⟨Tryz.underlying31, by kernel_rfl, rfl, by decide⟩
theorem slInt : SlT Tryz.prog 22 3 (.int .i64 0) 1 8 := ⟨Tryz.underlying22, by kernel_rfl, rfl, by decide⟩
theorem slU64 : SlT Tryz.prog 29 25 (.int .u64 0) 1 8 := ⟨Tryz.underlying29, by kernel_rfl, rfl, by decide⟩

theorem rdId_eq {bs : List UInt8} {a a1 : Nat} {e e1 : Int} {x : Id} (h : rdId bs a e = (x, a1, e1)) : Pk.rdIdent bs a e = ((x.b, x.s, x.u), a1, e1) := by
  have h1 : x = ⟨(Pk.rdIdent bs a e).1.1, (Pk.rdIdent bs a e).1.2.1, (Pk.rdIdent bs a e).1.2.2⟩ := (congrArg Prod.fst h).symm
  have h2 : (Pk.rdIdent bs a e).2 = (a1, e1) := congrArg Prod.snd h
  subst h1
  rw [← h2]
/-- What reading a list answers. -/
def ListPost (B g : Nat) (bs : List UInt8) (t : TypeId) (size : Nat) (n : Nat) (cells : List Value) (a' : Nat) (e' : Int) (w : World) (r : Ending) (w' : World) : Prop :=
  ∃ A c, r = .returned (.slice A n c) ∧ Own w' w.heap.size t size A n c cells ∧ InAt w' B g bs a' e' ∧ Fr (One g) w w'

theorem loop_next {α : Type} {f : Rdr α} {bs : List UInt8} {m a a1 : Nat} {e1 : Int} {xs : List α} {x : α} {r0 : List α × Nat × Int} (h : r0 = (xs ++ (loop f (m + 1) bs a 0).1, (loop f (m + 1) bs a 0).2)) (hx : f bs a 0 = (x, a1, e1)) :
    r0 = ((xs ++ [x]) ++ (loop f m bs a1 e1).1, (loop f m bs a1 e1).2) := by
  rw [h, loop_zero, hx]
  simp

set_option maxRecDepth 100000 in
set_option maxHeartbeats 2000000 in
theorem getId_any (B g : Nat) (bs : List UInt8) (a : Nat) (e : Int) (ys : List Id) (a' : Nat) (e' : Int) (w : World) (hin : InAt w B g bs a e) (hrd : Hid (lstR rdId bs a e = (ys, a', e'))) :
    Calls Tryz.prog 61 #[.pointer (some ⟨g, 0, none⟩), .func (.func 62) #[.pointer (some ⟨g, 0, none⟩)] #[]] w (ListPost B g bs 27 3 ys.length (ys.flatMap Id.cells) a' e' w) := by
  have hg := hin.lt
  obtain ⟨v, a0, e0, hm⟩ := hid_ex3 (Pk.rdMany bs a e 1000)
  have hvb := many_bd hm.out
  obtain ⟨M, hM⟩ : ∃ M : Nat, v = (M : Int) := ⟨v.toNat, by omega⟩
  subst hM
  have hlp : Hid ((ys, a', e') = loop rdId M bs a0 e0) := by
    show _ = _
    rw [← hrd.out]
    unfold lstR
    rw [hm.out]
    rfl
  have hgB : B ≤ g := by obtain ⟨_, _, _, _, h, _⟩ := hin; exact h
  go_enter Tryz.func61, Tryz.ntmps61
  go_wp2_with (fail)
  refine (inMany_any B g bs a e 1000 (M : Int) a0 e0 _ hin hm).mono ?_
  rintro _ w1 ⟨rfl, hin1, hf1⟩
  go_wp2
  go_loopw [5, 6] (fun s v wr => ∃ (m : Nat) (A : Option Addr) (c : Nat) (xs : List Id) (ai : Nat) (ei : Int), v = .int .i64 (m : Int) ∧ s = .slice A xs.length c ∧ xs.length + m = M ∧ Hid ((ys, a', e') = (xs ++ (loop rdId m bs ai ei).1, (loop rdId m bs ai ei).2)) ∧
    Own wr w.heap.size 27 3 A xs.length c (xs.flatMap Id.cells) ∧ InAt wr B g bs ai ei ∧ Fr (One g) w wr) (fun _ v _ => (intOf v).toNat)
  case atStart => exact ⟨M, none, 0, [], a0, e0, rfl, rfl, by simp, by show _ = _; rw [hlp.out]; rfl, Own.nil _ _ _ _, hin1, hf1⟩
  case round =>
    obtain ⟨m, A, c, xs, ai, ei, rfl, rfl, hlen, hL, hown, hini, hf⟩ := hrel
    have hBs := hf.size
    by_cases hm0 : m = 0
    · subst hm0
      have hfin : Hid ((ys, a', e') = (xs, ai, ei)) := by show _ = _; rw [hL.out]; simp [loop]
      go_wp2
      go_ret
      have h1 : ys = xs := congrArg Prod.fst hfin.out
      have h2 : a' = ai := congrArg (fun p => p.2.1) hfin.out
      have h3 : e' = ei := congrArg (fun p => p.2.2) hfin.out
      subst h1 h2 h3
      exact ⟨A, c, rfl, hown, hini, hf⟩
    · obtain ⟨m, rfl⟩ : ∃ k, m = k + 1 := ⟨m - 1, by omega⟩
      have hgt : (0 : Int) < ((m + 1 : Nat) : Int) := by omega
      by_cases he : ei = 0
      · have hz : (ei == 0) = true := beq_t he
        have he' := Lib.hid he
        clear he
        go_wp2_with (fail)
        refine (inErr_any B g bs ai ei _ hini).mono ?_
        rintro _ _ ⟨rfl, rfl⟩
        obtain ⟨x, a1, e1, hx⟩ := hid_ex3 (rdId bs ai ei)
        have hx0 : Hid (rdId bs ai 0 = (x, a1, e1)) := by show _ = _; rw [← he'.out]; exact hx.out
        have h9 := hL.out
        rw [he'.out] at h9
        have hL1 := Lib.hid (loop_next h9 hx0.out)
        clear h9
        have hi : Hid (Pk.rdIdent bs ai ei = ((x.b, x.s, x.u), a1, e1)) := rdId_eq hx.out
        go_wp2_with (fail)
        refine (inIdent_any B g bs ai ei x.b x.s x.u a1 e1 _ hini hi).mono ?_
        rintro _ wv ⟨rfl, hinv, hfv⟩
        have hzv := hfv.size
        have hownv := hown.fr hfv (fun k hk e => by have := (hown.row k hk).1; have e' : k = g := e; omega)
        have hrd1 := Rd.blk (n := 1) (size := 3) (Blk.new wv 27 #[.int .i64 x.b, .int .i64 x.s, .int .u64 (x.u : Int)]) rfl
        have hfnew := (Fr.refl Non wv).alloc (.cells #[.int .i64 x.b, .int .i64 x.s, .int .u64 (x.u : Int)] 27)
        have hlen1 : xs.length ≤ 1000 := by omega
        go_wp2_with (first | (at_builtin; go_loud (refine wpList_app (.tmp 18) (.tmp 21) 23 rfl rfl rfl rfl slId (hownv.alloc _) hrd1 (by simp [Value.oneCell']) (by omega) (by omega) (by simp; omega) ?_); intro A2 c2 w2 hown2 hf2 hat2))
        have hin3 := (hinv.alloc (.cells #[.int .i64 x.b, .int .i64 x.s, .int .u64 (x.u : Int)] 27)).fr hf2 (fun k hk e => by have := (hown.row k e).1; omega) (fun e => by have := (hown.row _ e).1; omega)
        have hf3 : Fr (One g) w w2 := (((hf.transOne hfv).alloc _).trans hf2 (fun k hk e => by have := (hown.row k e).1; omega))
        go_roundw
        case rel =>
          refine ⟨m, A2, c2, xs ++ [x], a1, e1, by go_num, by simp, by simp; omega, hL1, ?_, hin3, hf3⟩
          rw [List.flatMap_append, List.flatMap_cons, List.flatMap_nil, List.append_nil, List.length_append]
          exact hown2
        case measure => first | (simp [intOf]; done) | (simp [intOf]; omega)
      · have hz : (ei == 0) = false := beq_f he
        have hfin : Hid ((ys, a', e') = (xs, ai, ei)) := by show _ = _; rw [hL.out, loop_stay _ _ _ _ _ he]; simp
        clear he
        go_wp2_with (fail)
        refine (inErr_any B g bs ai ei _ hini).mono ?_
        rintro _ _ ⟨rfl, rfl⟩
        go_wp2
        go_ret
        have h1 : ys = xs := congrArg Prod.fst hfin.out
        have h2 : a' = ai := congrArg (fun p => p.2.1) hfin.out
        have h3 : e' = ei := congrArg (fun p => p.2.2) hfin.out
        subst h1 h2 h3
        exact ⟨A, c, rfl, hown, hini, hf⟩

set_option maxRecDepth 100000 in
set_option maxHeartbeats 2000000 in
theorem getNum_any (B g : Nat) (bs : List UInt8) (a : Nat) (e : Int) (ys : List Nat) (a' : Nat) (e' : Int) (w : World) (hin : InAt w B g bs a e) (hrd : Hid (lstR Pk.rd bs a e = (ys, a', e'))) :
    Calls Tryz.prog 66 #[.pointer (some ⟨g, 0, none⟩), .func (.func 59) #[.pointer (some ⟨g, 0, none⟩)] #[]] w (ListPost B g bs 25 1 ys.length (ys.map Uv) a' e' w) := by
  have hg := hin.lt
  obtain ⟨v, a0, e0, hm⟩ := hid_ex3 (Pk.rdMany bs a e 1000)
  have hvb := many_bd hm.out
  obtain ⟨M, hM⟩ : ∃ M : Nat, v = (M : Int) := ⟨v.toNat, by omega⟩
  subst hM
  have hlp : Hid ((ys, a', e') = loop Pk.rd M bs a0 e0) := by
    show _ = _
    rw [← hrd.out]
    unfold lstR
    rw [hm.out]
    rfl
  have hgB : B ≤ g := by obtain ⟨_, _, _, _, h, _⟩ := hin; exact h
  go_enter Tryz.func66, Tryz.ntmps66
  go_wp2_with (fail)
  refine (inMany_any B g bs a e 1000 (M : Int) a0 e0 _ hin hm).mono ?_
  rintro _ w1 ⟨rfl, hin1, hf1⟩
  go_wp2
  go_loopw [5, 6] (fun s v wr => ∃ (m : Nat) (A : Option Addr) (c : Nat) (xs : List Nat) (ai : Nat) (ei : Int), v = .int .i64 (m : Int) ∧ s = .slice A xs.length c ∧ xs.length + m = M ∧ Hid ((ys, a', e') = (xs ++ (loop Pk.rd m bs ai ei).1, (loop Pk.rd m bs ai ei).2)) ∧
    Own wr w.heap.size 25 1 A xs.length c (xs.map Uv) ∧ InAt wr B g bs ai ei ∧ Fr (One g) w wr) (fun _ v _ => (intOf v).toNat)
  case atStart => exact ⟨M, none, 0, [], a0, e0, rfl, rfl, by simp, by show _ = _; rw [hlp.out]; rfl, Own.nil _ _ _ _, hin1, hf1⟩
  case round =>
    obtain ⟨m, A, c, xs, ai, ei, rfl, rfl, hlen, hL, hown, hini, hf⟩ := hrel
    have hBs := hf.size
    by_cases hm0 : m = 0
    · subst hm0
      have hfin : Hid ((ys, a', e') = (xs, ai, ei)) := by show _ = _; rw [hL.out]; simp [loop]
      go_wp2
      go_ret
      have h1 : ys = xs := congrArg Prod.fst hfin.out
      have h2 : a' = ai := congrArg (fun p => p.2.1) hfin.out
      have h3 : e' = ei := congrArg (fun p => p.2.2) hfin.out
      subst h1 h2 h3
      exact ⟨A, c, rfl, hown, hini, hf⟩
    · obtain ⟨m, rfl⟩ : ∃ k, m = k + 1 := ⟨m - 1, by omega⟩
      have hgt : (0 : Int) < ((m + 1 : Nat) : Int) := by omega
      by_cases he : ei = 0
      · have hz : (ei == 0) = true := beq_t he
        have he' := Lib.hid he
        clear he
        go_wp2_with (fail)
        refine (inErr_any B g bs ai ei _ hini).mono ?_
        rintro _ _ ⟨rfl, rfl⟩
        obtain ⟨x, a1, e1, hx⟩ := hid_ex3 (Pk.rd bs ai ei)
        have hx0 : Hid (Pk.rd bs ai 0 = (x, a1, e1)) := by show _ = _; rw [← he'.out]; exact hx.out
        have h9 := hL.out
        rw [he'.out] at h9
        have hL1 := Lib.hid (loop_next h9 hx0.out)
        clear h9
        go_wp2_with (fail)
        refine (inNum_any B g bs ai ei x a1 e1 _ hini hx).mono ?_
        rintro _ wv ⟨rfl, hinv, hfv⟩
        have hzv := hfv.size
        have hownv := hown.fr hfv (fun k hk e => by have := (hown.row k hk).1; have e' : k = g := e; omega)
        have hrd1 := Rd.blk (n := 1) (size := 1) (Blk.new wv 25 #[.int .u64 (x : Int)]) rfl
        have hfnew := (Fr.refl Non wv).alloc (.cells #[.int .u64 (x : Int)] 25)
        have hlen1 : xs.length ≤ 1000 := by omega
        go_wp2_with (first | (at_builtin; go_loud (refine wpList_app (.tmp 18) (.tmp 21) 29 rfl rfl rfl rfl slU64 (hownv.alloc _) hrd1 (by simp [Value.oneCell']) (by omega) (by omega) (by simp; omega) ?_); intro A2 c2 w2 hown2 hf2 hat2))
        have hin3 := (hinv.alloc (.cells #[.int .u64 (x : Int)] 25)).fr hf2 (fun k hk e => by have := (hown.row k e).1; omega) (fun e => by have := (hown.row _ e).1; omega)
        have hf3 : Fr (One g) w w2 := (((hf.transOne hfv).alloc _).trans hf2 (fun k hk e => by have := (hown.row k e).1; omega))
        go_roundw
        case rel =>
          refine ⟨m, A2, c2, xs ++ [x], a1, e1, by go_num, by simp, by simp; omega, hL1, ?_, hin3, hf3⟩
          rw [List.map_append, List.map_cons, List.map_nil, List.length_append]
          exact hown2
        case measure => first | (simp [intOf]; done) | (simp [intOf]; omega)
      · have hz : (ei == 0) = false := beq_f he
        have hfin : Hid ((ys, a', e') = (xs, ai, ei)) := by show _ = _; rw [hL.out, loop_stay _ _ _ _ _ he]; simp
        clear he
        go_wp2_with (fail)
        refine (inErr_any B g bs ai ei _ hini).mono ?_
        rintro _ _ ⟨rfl, rfl⟩
        go_wp2
        go_ret
        have h1 : ys = xs := congrArg Prod.fst hfin.out
        have h2 : a' = ai := congrArg (fun p => p.2.1) hfin.out
        have h3 : e' = ei := congrArg (fun p => p.2.2) hfin.out
        subst h1 h2 h3
        exact ⟨A, c, rfl, hown, hini, hf⟩

set_option maxRecDepth 100000 in
set_option maxHeartbeats 2000000 in
theorem getInt_any (B g : Nat) (bs : List UInt8) (a : Nat) (e : Int) (ys : List Int) (a' : Nat) (e' : Int) (w : World) (hin : InAt w B g bs a e) (hrd : Hid (lstR Pk.rdInt bs a e = (ys, a', e'))) :
    Calls Tryz.prog 67 #[.pointer (some ⟨g, 0, none⟩), .func (.func 60) #[.pointer (some ⟨g, 0, none⟩)] #[]] w (ListPost B g bs 3 1 ys.length (ys.map Iv) a' e' w) := by
  have hg := hin.lt
  obtain ⟨v, a0, e0, hm⟩ := hid_ex3 (Pk.rdMany bs a e 1000)
  have hvb := many_bd hm.out
  obtain ⟨M, hM⟩ : ∃ M : Nat, v = (M : Int) := ⟨v.toNat, by omega⟩
  subst hM
  have hlp : Hid ((ys, a', e') = loop Pk.rdInt M bs a0 e0) := by
    show _ = _
    rw [← hrd.out]
    unfold lstR
    rw [hm.out]
    rfl
  have hgB : B ≤ g := by obtain ⟨_, _, _, _, h, _⟩ := hin; exact h
  go_enter Tryz.func67, Tryz.ntmps67
  go_wp2_with (fail)
  refine (inMany_any B g bs a e 1000 (M : Int) a0 e0 _ hin hm).mono ?_
  rintro _ w1 ⟨rfl, hin1, hf1⟩
  go_wp2
  go_loopw [5, 6] (fun s v wr => ∃ (m : Nat) (A : Option Addr) (c : Nat) (xs : List Int) (ai : Nat) (ei : Int), v = .int .i64 (m : Int) ∧ s = .slice A xs.length c ∧ xs.length + m = M ∧ Hid ((ys, a', e') = (xs ++ (loop Pk.rdInt m bs ai ei).1, (loop Pk.rdInt m bs ai ei).2)) ∧
    Own wr w.heap.size 3 1 A xs.length c (xs.map Iv) ∧ InAt wr B g bs ai ei ∧ Fr (One g) w wr) (fun _ v _ => (intOf v).toNat)
  case atStart => exact ⟨M, none, 0, [], a0, e0, rfl, rfl, by simp, by show _ = _; rw [hlp.out]; rfl, Own.nil _ _ _ _, hin1, hf1⟩
  case round =>
    obtain ⟨m, A, c, xs, ai, ei, rfl, rfl, hlen, hL, hown, hini, hf⟩ := hrel
    have hBs := hf.size
    by_cases hm0 : m = 0
    · subst hm0
      have hfin : Hid ((ys, a', e') = (xs, ai, ei)) := by show _ = _; rw [hL.out]; simp [loop]
      go_wp2
      go_ret
      have h1 : ys = xs := congrArg Prod.fst hfin.out
      have h2 : a' = ai := congrArg (fun p => p.2.1) hfin.out
      have h3 : e' = ei := congrArg (fun p => p.2.2) hfin.out
      subst h1 h2 h3
      exact ⟨A, c, rfl, hown, hini, hf⟩
    · obtain ⟨m, rfl⟩ : ∃ k, m = k + 1 := ⟨m - 1, by omega⟩
      have hgt : (0 : Int) < ((m + 1 : Nat) : Int) := by omega
      by_cases he : ei = 0
      · have hz : (ei == 0) = true := beq_t he
        have he' := Lib.hid he
        clear he
        go_wp2_with (fail)
        refine (inErr_any B g bs ai ei _ hini).mono ?_
        rintro _ _ ⟨rfl, rfl⟩
        obtain ⟨x, a1, e1, hx⟩ := hid_ex3 (Pk.rdInt bs ai ei)
        have hx0 : Hid (Pk.rdInt bs ai 0 = (x, a1, e1)) := by show _ = _; rw [← he'.out]; exact hx.out
        have h9 := hL.out
        rw [he'.out] at h9
        have hL1 := Lib.hid (loop_next h9 hx0.out)
        clear h9
        go_wp2_with (fail)
        refine (inInt_any B g bs ai ei x a1 e1 _ hini hx).mono ?_
        rintro _ wv ⟨rfl, hinv, hfv⟩
        have hzv := hfv.size
        have hownv := hown.fr hfv (fun k hk e => by have := (hown.row k hk).1; have e' : k = g := e; omega)
        have hrd1 := Rd.blk (n := 1) (size := 1) (Blk.new wv 3 #[.int .i64 x]) rfl
        have hfnew := (Fr.refl Non wv).alloc (.cells #[.int .i64 x] 3)
        have hlen1 : xs.length ≤ 1000 := by omega
        go_wp2_with (first | (at_builtin; go_loud (refine wpList_app (.tmp 18) (.tmp 21) 22 rfl rfl rfl rfl slInt (hownv.alloc _) hrd1 (by simp [Value.oneCell']) (by omega) (by omega) (by simp; omega) ?_); intro A2 c2 w2 hown2 hf2 hat2))
        have hin3 := (hinv.alloc (.cells #[.int .i64 x] 3)).fr hf2 (fun k hk e => by have := (hown.row k e).1; omega) (fun e => by have := (hown.row _ e).1; omega)
        have hf3 : Fr (One g) w w2 := (((hf.transOne hfv).alloc _).trans hf2 (fun k hk e => by have := (hown.row k e).1; omega))
        go_roundw
        case rel =>
          refine ⟨m, A2, c2, xs ++ [x], a1, e1, by go_num, by simp, by simp; omega, hL1, ?_, hin3, hf3⟩
          rw [List.map_append, List.map_cons, List.map_nil, List.length_append]
          exact hown2
        case measure => first | (simp [intOf]; done) | (simp [intOf]; omega)
      · have hz : (ei == 0) = false := beq_f he
        have hfin : Hid ((ys, a', e') = (xs, ai, ei)) := by show _ = _; rw [hL.out, loop_stay _ _ _ _ _ he]; simp
        clear he
        go_wp2_with (fail)
        refine (inErr_any B g bs ai ei _ hini).mono ?_
        rintro _ _ ⟨rfl, rfl⟩
        go_wp2
        go_ret
        have h1 : ys = xs := congrArg Prod.fst hfin.out
        have h2 : a' = ai := congrArg (fun p => p.2.1) hfin.out
        have h3 : e' = ei := congrArg (fun p => p.2.2) hfin.out
        subst h1 h2 h3
        exact ⟨A, c, rfl, hown, hini, hf⟩

/-- The closure that reads a box; gp: where it finds the In. -/
theorem rdBx_eq {bs : List UInt8} {a a1 a2 a3 a4 v1 v2 v3 v4 : Nat} {e e1 e2 e3 e4 : Int} (h1 : Pk.rd bs a e = (v1, a1, e1)) (h2 : Pk.rd bs a1 e1 = (v2, a2, e2)) (h3 : Pk.rd bs a2 e2 = (v3, a3, e3)) (h4 : Pk.rd bs a3 e3 = (v4, a4, e4)) : rdBx bs a e = (⟨v1, v2, v3, v4⟩, a4, e4) :=
  mapR_eq (seq_eq (seq_eq (seq_eq h1 h2) h3) h4)
section
attribute [local go_sem ↓] storeAt_box
set_option maxRecDepth 100000 in
set_option maxHeartbeats 4000000 in
theorem gbox_any (B g gp : Nat) (bs : List UInt8) (a : Nat) (e : Int) (x : Bx) (a' : Nat) (e' : Int) (w : World) (hin : InAt w B g bs a e) (hp : Blk w gp 86 #[.pointer (some ⟨g, 0, none⟩)]) (hrd : Hid (rdBx bs a e = (x, a', e'))) :
    Calls Tryz.prog 58 #[.pointer (some ⟨gp, 0, none⟩)] w (InPost B g bs (.agg #[.int .u64 (x.t : Int), .int .u64 (x.e : Int), .int .u64 (x.y : Int), .int .u64 (x.g : Int)]) a' e' w) := by
  obtain ⟨v1, a1, e1, h1⟩ := hid_ex3 (Pk.rd bs a e)
  obtain ⟨v2, a2, e2, h2⟩ := hid_ex3 (Pk.rd bs a1 e1)
  obtain ⟨v3, a3, e3, h3⟩ := hid_ex3 (Pk.rd bs a2 e2)
  obtain ⟨v4, a4, e4, h4⟩ := hid_ex3 (Pk.rd bs a3 e3)
  have hy := Lib.hid ((rdBx_eq h1.out h2.out h3.out h4.out).symm.trans hrd.out)
  have hg := hin.lt
  have hB : B ≤ g := by obtain ⟨_, _, _, _, h, _⟩ := hin; exact h
  have hgp : gp ≠ g := by
    obtain ⟨_, _, hb, _⟩ := hin
    exact hp.ne hb (by decide)
  have hplt := hp.lt
  have hne : w.heap.size ≠ gp := by omega
  have nG : ¬ One g gp := hgp
  have nR : ¬ One g w.heap.size := by unfold One; omega
  have hp0 : Blk (w.alloc (.cells #[.int .u64 0, .int .u64 0, .int .u64 0, .int .u64 0] 60)).drew gp 86 #[.pointer (some ⟨g, 0, none⟩)] := (hp.alloc _).drew
  have hr0 : Blk (w.alloc (.cells #[.int .u64 0, .int .u64 0, .int .u64 0, .int .u64 0] 60)).drew w.heap.size 60 #[.int .u64 0, .int .u64 0, .int .u64 0, .int .u64 0] := (Blk.new w _ _).drew
  have hin0 : InAt (w.alloc (.cells #[.int .u64 0, .int .u64 0, .int .u64 0, .int .u64 0] 60)).drew B g bs a e := (hin.alloc _).drewN 1
  have hf0 : Fr Non w (w.alloc (.cells #[.int .u64 0, .int .u64 0, .int .u64 0, .int .u64 0] 60)).drew := ((Fr.refl _ _).alloc _).drew
  have p0 := hp0.cell 0
  have hst := stS_blk (P := Tryz.prog) (t := 60) (old := #[.int .u64 0, .int .u64 0, .int .u64 0, .int .u64 0]) (cs := #[.int .u64 (v1 : Int), .int .u64 (v2 : Int), .int .u64 (v3 : Int), .int .u64 (v4 : Int)]) w.heap.size 60 (by kernel_rfl) rfl (by simp [Value.oneCell'])
  go_enter Tryz.func58, Tryz.ntmps58
  go_upto_region 1 with (fail)
  generalize w.alloc (.cells #[.int .u64 0, .int .u64 0, .int .u64 0, .int .u64 0] 60) = w0 at *
  go_region_held3 (fun w' => w'.cell? ⟨gp, 0, none⟩ = some (.pointer (some ⟨g, 0, none⟩))) ((first | assumption | exact cell_setRow p4 hne | go_keep)) (first
    | (go_at_call 59; (with_reducible refine (inNum_any B g bs a e v1 a1 e1 _ hin0 h1).mono ?_); rintro _ w1 ⟨rfl, hin1, hf1⟩; have p1 := (hp0.fr hf1 nG).cell 0)
    | (go_at_call 59; (with_reducible refine (inNum_any B g bs a1 e1 v2 a2 e2 _ hin1 h2).mono ?_); rintro _ w2 ⟨rfl, hin2, hf2⟩; have hf12 := hf1.transOne hf2; have p2 := (hp0.fr hf12 nG).cell 0)
    | (go_at_call 59; (with_reducible refine (inNum_any B g bs a2 e2 v3 a3 e3 _ hin2 h3).mono ?_); rintro _ w3 ⟨rfl, hin3, hf3⟩; have hf13 := hf12.transOne hf3; have p3 := (hp0.fr hf13 nG).cell 0)
    | (go_at_call 59; (with_reducible refine (inNum_any B g bs a3 e3 v4 a4 e4 _ hin3 h4).mono ?_); rintro _ w4 ⟨rfl, hin4, hf4⟩; have hf14 := hf13.transOne hf4; have p4 := (hp0.fr hf14 nG).cell 0; have hr4 := hr0.fr hf14 nR))
  go_wp2
  cases hy.out
  refine ret_blk (t := 60) rfl rfl hr4.setRow rfl Tryz.underlying60 (by kernel_rfl) rfl ?_
  have hfe := (Fr.refl (One w.heap.size) w4).setRow (g := w.heap.size) (fun _ => rfl) #[.int .u64 (v1 : Int), .int .u64 (v2 : Int), .int .u64 (v3 : Int), .int .u64 (v4 : Int)]
  exact ⟨rfl, hin4.fr hfe (fun k hk => One.not (Nat.le_trans hB (Nat.le_of_lt hg)) hk) (by unfold One; omega), ((hf0.of_non (One g)).transOne hf14).trans hfe (fun k hk e => absurd hk (by have e' : k = w.heap.size := e; omega))⟩
end

set_option maxRecDepth 100000 in
set_option maxHeartbeats 2000000 in
theorem getBx_any (B g gp : Nat) (bs : List UInt8) (a : Nat) (e : Int) (ys : List Bx) (a' : Nat) (e' : Int) (w : World) (hin : InAt w B g bs a e) (hrd : Hid (lstR rdBx bs a e = (ys, a', e'))) (hp : Blk w gp 86 #[.pointer (some ⟨g, 0, none⟩)]) :
    Calls Tryz.prog 65 #[.pointer (some ⟨g, 0, none⟩), .func (.func 58) #[] #[.pointer (some ⟨gp, 0, none⟩)]] w (ListPost B g bs 60 4 ys.length (ys.flatMap Bx.cells) a' e' w) := by
  have hg := hin.lt
  obtain ⟨v, a0, e0, hm⟩ := hid_ex3 (Pk.rdMany bs a e 1000)
  have hvb := many_bd hm.out
  obtain ⟨M, hM⟩ : ∃ M : Nat, v = (M : Int) := ⟨v.toNat, by omega⟩
  subst hM
  have hlp : Hid ((ys, a', e') = loop rdBx M bs a0 e0) := by
    show _ = _
    rw [← hrd.out]
    unfold lstR
    rw [hm.out]
    rfl
  have hgB : B ≤ g := by obtain ⟨_, _, _, _, h, _⟩ := hin; exact h
  have nG : ¬ One g gp := by
    obtain ⟨_, _, hb, _⟩ := hin
    exact hp.ne hb (by decide)
  go_enter Tryz.func65, Tryz.ntmps65
  go_wp2_with (fail)
  refine (inMany_any B g bs a e 1000 (M : Int) a0 e0 _ hin hm).mono ?_
  rintro _ w1 ⟨rfl, hin1, hf1⟩
  go_wp2
  go_loopw [5, 6] (fun s v wr => ∃ (m : Nat) (A : Option Addr) (c : Nat) (xs : List Bx) (ai : Nat) (ei : Int), v = .int .i64 (m : Int) ∧ s = .slice A xs.length c ∧ xs.length + m = M ∧ Hid ((ys, a', e') = (xs ++ (loop rdBx m bs ai ei).1, (loop rdBx m bs ai ei).2)) ∧
    Own wr w.heap.size 60 4 A xs.length c (xs.flatMap Bx.cells) ∧ InAt wr B g bs ai ei ∧ Fr (One g) w wr ∧ Blk wr gp 86 #[.pointer (some ⟨g, 0, none⟩)]) (fun _ v _ => (intOf v).toNat)
  case atStart => exact ⟨M, none, 0, [], a0, e0, rfl, rfl, by simp, by show _ = _; rw [hlp.out]; rfl, Own.nil _ _ _ _, hin1, hf1, hp.fr hf1 nG⟩
  case round =>
    obtain ⟨m, A, c, xs, ai, ei, rfl, rfl, hlen, hL, hown, hini, hf, hpi⟩ := hrel
    have hBs := hf.size
    by_cases hm0 : m = 0
    · subst hm0
      have hfin : Hid ((ys, a', e') = (xs, ai, ei)) := by show _ = _; rw [hL.out]; simp [loop]
      go_wp2
      go_ret
      have h1 : ys = xs := congrArg Prod.fst hfin.out
      have h2 : a' = ai := congrArg (fun p => p.2.1) hfin.out
      have h3 : e' = ei := congrArg (fun p => p.2.2) hfin.out
      subst h1 h2 h3
      exact ⟨A, c, rfl, hown, hini, hf⟩
    · obtain ⟨m, rfl⟩ : ∃ k, m = k + 1 := ⟨m - 1, by omega⟩
      have hgt : (0 : Int) < ((m + 1 : Nat) : Int) := by omega
      by_cases he : ei = 0
      · have hz : (ei == 0) = true := beq_t he
        have he' := Lib.hid he
        clear he
        go_wp2_with (fail)
        refine (inErr_any B g bs ai ei _ hini).mono ?_
        rintro _ _ ⟨rfl, rfl⟩
        obtain ⟨x, a1, e1, hx⟩ := hid_ex3 (rdBx bs ai ei)
        have hx0 : Hid (rdBx bs ai 0 = (x, a1, e1)) := by show _ = _; rw [← he'.out]; exact hx.out
        have h9 := hL.out
        rw [he'.out] at h9
        have hL1 := Lib.hid (loop_next h9 hx0.out)
        clear h9
        go_wp2_with (fail)
        refine (gbox_any B g gp bs ai ei x a1 e1 _ hini hpi hx).mono ?_
        rintro _ wv ⟨rfl, hinv, hfv⟩
        have hzv := hfv.size
        have hownv := hown.fr hfv (fun k hk e => by have := (hown.row k hk).1; have e' : k = g := e; omega)
        have hrd1 := Rd.blk (n := 1) (size := 4) (Blk.new wv 60 #[.int .u64 (x.t : Int), .int .u64 (x.e : Int), .int .u64 (x.y : Int), .int .u64 (x.g : Int)]) rfl
        have hfnew := (Fr.refl Non wv).alloc (.cells #[.int .u64 (x.t : Int), .int .u64 (x.e : Int), .int .u64 (x.y : Int), .int .u64 (x.g : Int)] 60)
        have hlen1 : xs.length ≤ 1000 := by omega
        go_wp2_with (first | (at_builtin; go_loud (refine wpList_app (.tmp 18) (.tmp 21) 30 rfl rfl rfl rfl slBx (hownv.alloc _) hrd1 (by simp [Value.oneCell']) (by omega) (by omega) (by simp; omega) ?_); intro A2 c2 w2 hown2 hf2 hat2))
        have hin3 := (hinv.alloc (.cells #[.int .u64 (x.t : Int), .int .u64 (x.e : Int), .int .u64 (x.y : Int), .int .u64 (x.g : Int)] 60)).fr hf2 (fun k hk e => by have := (hown.row k e).1; omega) (fun e => by have := (hown.row _ e).1; omega)
        have hf3 : Fr (One g) w w2 := (((hf.transOne hfv).alloc _).trans hf2 (fun k hk e => by have := (hown.row k e).1; omega))
        have hpv := hpi.fr hfv nG
        have hpi3 := (hpv.alloc (.cells #[.int .u64 (x.t : Int), .int .u64 (x.e : Int), .int .u64 (x.y : Int), .int .u64 (x.g : Int)] 60)).fr hf2 (fun e => (hownv.ne hpv (by decide)) e)
        go_roundw
        case rel =>
          refine ⟨m, A2, c2, xs ++ [x], a1, e1, by go_num, by simp, by simp; omega, hL1, ?_, hin3, hf3, hpi3⟩
          rw [List.flatMap_append, List.flatMap_cons, List.flatMap_nil, List.append_nil, List.length_append]
          exact hown2
        case measure => first | (simp [intOf]; done) | (simp [intOf]; omega)
      · have hz : (ei == 0) = false := beq_f he
        have hfin : Hid ((ys, a', e') = (xs, ai, ei)) := by show _ = _; rw [hL.out, loop_stay _ _ _ _ _ he]; simp
        clear he
        go_wp2_with (fail)
        refine (inErr_any B g bs ai ei _ hini).mono ?_
        rintro _ _ ⟨rfl, rfl⟩
        go_wp2
        go_ret
        have h1 : ys = xs := congrArg Prod.fst hfin.out
        have h2 : a' = ai := congrArg (fun p => p.2.1) hfin.out
        have h3 : e' = ei := congrArg (fun p => p.2.2) hfin.out
        subst h1 h2 h3
        exact ⟨A, c, rfl, hown, hini, hf⟩
end Oq
end Go.Proofs.YtahcddlgghipjaaGreatDoor
