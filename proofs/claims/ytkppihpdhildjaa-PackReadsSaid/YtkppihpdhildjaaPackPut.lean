/-
  What one thing writes, by the reference (Put, All) and by the law's helper (put); Name; Open.
  Conditions: texts are shorter than 2^40 bytes.
-/
import Derived.Test.YtkppihpdhildjaaRef04W
namespace Go.Proofs.Ytkppihpdhildjaa
open Go.RowKit

/-- A number as one without a sign. -/
def u64 (n : Int) : Nat := (n % 18446744073709551616).toNat
theorem u64_lt (n : Int) : u64 n < 18446744073709551616 := by unfold u64; omega
theorem u64_wrap (n : Int) : IntKind.u64.wrap n = (u64 n : Int) := by rw [IntKind.wrap_u64]; unfold u64; omega
def nameSum (n : Int) : Nat := u64 (u64 n * 977)

namespace Pk
def name (n : Int) : List UInt8 := ident (n.tmod 13) n (nameSum n)
/-- What one of these writes. -/
def putO (d n : Int) (s : List UInt8) : List UInt8 :=
  if around d 7 = 4 then num (u64 n) else if around d 7 = 5 then name n else if around d 7 = 6 then int (around n 21)
  else if around d 7 = 2 then text (s.take 40) else if around d 7 = 3 then bool (n % 2 == 0) else int n
theorem putO_len (d n : Int) (s : List UInt8) : (putO d n s).length ≤ 50 := by
  unfold putO name
  have h1 := num_len (u64 n)
  have h2 := ident_len (n.tmod 13) n (nameSum n)
  have h3 := int_len (around n 21)
  have h4 := text_len (s.take 40)
  have h5 := bool_len (n % 2 == 0)
  have h6 := int_len n
  have h7 := List.length_take_le 40 s
  repeat' split
  all_goals omega
end Pk

theorem tmod13 (n : Int) (h0 : -9223372036854775808 ≤ n) (h1 : n ≤ 9223372036854775807) : -9223372036854775808 ≤ n.tmod 13 ∧ n.tmod 13 ≤ 9223372036854775807 := by
  rcases Int.le_total 0 n with h | h
  · rw [Int.tmod_eq_emod_of_nonneg h]; omega
  · have e : n = -(-n) := by omega
    rw [e, Int.neg_tmod, Int.tmod_eq_emod_of_nonneg (by omega)]; omega
theorem tmod2 (n : Int) : (n.tmod 2 == 0) = (n % 2 == 0) := by
  rcases Int.le_total 0 n with h | h
  · rw [Int.tmod_eq_emod_of_nonneg h]
  · have e : n.tmod 2 = -((-n) % 2) := by
      rw [← Int.tmod_eq_emod_of_nonneg (a := -n) (by omega), Int.neg_tmod, Int.neg_neg]
    rw [e, Bool.eq_iff_iff]; simp

/-- The six ways of the switch. -/
theorem kinds (K : Int) : (K == 4) = true ∨ ((K == 4) = false ∧ (K == 5) = true) ∨ ((K == 4) = false ∧ (K == 5) = false ∧ (K == 6) = true) ∨
    ((K == 4) = false ∧ (K == 5) = false ∧ (K == 6) = false ∧ (K == 2) = true) ∨ ((K == 4) = false ∧ (K == 5) = false ∧ (K == 6) = false ∧ (K == 2) = false ∧ (K == 3) = true) ∨
    ((K == 4) = false ∧ (K == 5) = false ∧ (K == 6) = false ∧ (K == 2) = false ∧ (K == 3) = false) := by
  simp only [beq_iff_eq, beq_eq_false_iff_ne, ne_eq]
  omega

def NamePost (n : Int) (w : World) (r : Ending) (w' : World) : Prop :=
  r = .returned (.agg #[.int .i64 (n.tmod 13), .int .i64 n, .int .u64 (nameSum n : Int)]) ∧ Fr Non w w'
theorem name_any (n : Int) (w : World) :
    Calls Try.prog 39 #[.int .i64 n] w (NamePost n w) := by
  go_enter Try.func39, Try.ntmps39
  go_wp2
  refine ret_blk (t := 60) rfl rfl (Blk.new w _ _) rfl Try.underlying60 (by kernel_rfl) rfl ?_
  rw [u64_wrap n, u64_wrap]
  exact ⟨rfl, (Fr.refl _ _).alloc _⟩

def OV (d n : Int) (s : List UInt8) : Value := .agg #[.int .i64 d, .int .i64 n, .string (str s)]

set_option maxHeartbeats 4000000 in
theorem put04_any (d n : Int) (s : List UInt8) (w : World) (d0 : -9223372036854775808 ≤ d) (d1 : d ≤ 9223372036854775807) (h0 : -9223372036854775808 ≤ n) (h1 : n ≤ 9223372036854775807) (hs : s.length ≤ 9223372036854775807) :
    Calls Try.prog 38 #[OV d n s] w (NewB w (Pk.putO d n s)) := by
  unfold OV
  have hb0 := Blk.new w 35 #[.int .i64 d, .int .i64 n, .string (str s)]
  have c0 := hb0.cell 0
  have c1 := hb0.cell 1
  have c2 := hb0.cell 2
  have hff : Fr Non w (w.alloc (.cells #[.int .i64 d, .int .i64 n, .string (str s)] 35)) := (Fr.refl _ _).alloc _
  obtain ⟨K, hK⟩ := hid_ex (around d 7)
  have hput : Hid (Pk.putO d n s = if K = 4 then Pk.num (u64 n) else if K = 5 then Pk.name n else if K = 6 then Pk.int (around n 21)
    else if K = 2 then Pk.text (s.take 40) else if K = 3 then Pk.bool (n % 2 == 0) else Pk.int n) := by show _ = _; unfold Pk.putO; rw [hK.out]
  have hw := Lib.hid (u64_wrap n)
  have hm2 := Lib.hid (tmod2 n)
  have ht13 := tmod13 n h0 h1
  rcases kinds K with hk | ⟨k1, hk⟩ | ⟨k1, k2, hk⟩ | ⟨k1, k2, k3, hk⟩ | ⟨k1, k2, k3, k4, hk⟩ | ⟨k1, k2, k3, k4, hk⟩
  · have hp : Hid (Pk.putO d n s = Pk.num (u64 n)) := by show _ = _; rw [hput.out, if_pos (beq_iff_eq.1 hk)]
    go_enter Try.func38, Try.ntmps38
    go_wp2_with (fail)
    refine (around_any d 7 _ d0 d1 (by omega) (by omega)).mono ?_
    rw [hK.out]
    rintro _ w1 ⟨rfl, rfl⟩
    go_wp2_with (fail)
    rw [hw.out]
    refine (num04_any _ _ (u64_lt n)).mono ?_
    rintro _ w2 ⟨A, c, rfl, hown, hf⟩
    go_wp2
    go_ret
    rw [hp.out]
    exact NewB.mk (hown.lower (base' := w.heap.size) (by simp)) rfl rfl (hff.trans hf (fun _ _ e => e))
  · have hp : Hid (Pk.putO d n s = Pk.name n) := by show _ = _; rw [hput.out, if_neg (beq_eq_false_iff_ne.1 k1), if_pos (beq_iff_eq.1 hk)]
    go_enter Try.func38, Try.ntmps38
    go_wp2_with (fail)
    refine (around_any d 7 _ d0 d1 (by omega) (by omega)).mono ?_
    rw [hK.out]
    rintro _ w1 ⟨rfl, rfl⟩
    go_wp2_with (fail)
    refine (name_any n _).mono ?_
    rintro _ w1 ⟨rfl, hf1⟩
    go_wp2_with (fail)
    refine (ident04_any _ n _ _ ht13.1 ht13.2 h0 h1 (u64_lt _)).mono ?_
    rintro _ w2 ⟨A, c, rfl, hown, hf⟩
    have hs1 := hf1.size
    go_wp2
    go_ret
    rw [hp.out]
    exact NewB.mk (hown.lower (base' := w.heap.size) (by simp at hs1; omega)) rfl rfl ((hff.trans hf1 (fun _ _ e => e)).trans hf (fun _ _ e => e))
  · have hp : Hid (Pk.putO d n s = Pk.int (around n 21)) := by show _ = _; rw [hput.out, if_neg (beq_eq_false_iff_ne.1 k1), if_neg (beq_eq_false_iff_ne.1 k2), if_pos (beq_iff_eq.1 hk)]
    have ha := around_bd (n := n) (m := 21) (by omega)
    go_enter Try.func38, Try.ntmps38
    go_wp2_with (fail)
    refine (around_any d 7 _ d0 d1 (by omega) (by omega)).mono ?_
    rw [hK.out]
    rintro _ w1 ⟨rfl, rfl⟩
    go_wp2_with (fail)
    refine (around_any n 21 _ h0 h1 (by omega) (by omega)).mono ?_
    rintro _ w1 ⟨rfl, rfl⟩
    go_wp2_with (fail)
    refine (number04_any _ _ (by omega) (by omega)).mono ?_
    rintro _ w2 ⟨A, c, rfl, hown, hf⟩
    go_wp2
    go_ret
    rw [hp.out]
    exact NewB.mk (hown.lower (base' := w.heap.size) (by simp)) rfl rfl (hff.trans hf (fun _ _ e => e))
  · have hp : Hid (Pk.putO d n s = Pk.text (s.take 40)) := by show _ = _; rw [hput.out, if_neg (beq_eq_false_iff_ne.1 k1), if_neg (beq_eq_false_iff_ne.1 k2), if_neg (beq_eq_false_iff_ne.1 k3), if_pos (beq_iff_eq.1 hk)]
    have hl40 := List.length_take_le 40 s
    go_enter Try.func38, Try.ntmps38
    go_wp2_with (fail)
    refine (around_any d 7 _ d0 d1 (by omega) (by omega)).mono ?_
    rw [hK.out]
    rintro _ w1 ⟨rfl, rfl⟩
    go_wp2_with (fail)
    refine (short_any s 40 _ hs (by omega)).mono ?_
    rintro _ w1 ⟨rfl, rfl⟩
    go_wp2_with (fail)
    refine (text04_any _ _ (by omega)).mono ?_
    rintro _ w2 ⟨A, c, rfl, hown, hf⟩
    go_wp2
    go_ret
    rw [hp.out]
    exact NewB.mk (hown.lower (base' := w.heap.size) (by simp)) rfl rfl (hff.trans hf (fun _ _ e => e))
  · have hp : Hid (Pk.putO d n s = Pk.bool (n % 2 == 0)) := by show _ = _; rw [hput.out, if_neg (beq_eq_false_iff_ne.1 k1), if_neg (beq_eq_false_iff_ne.1 k2), if_neg (beq_eq_false_iff_ne.1 k3), if_neg (beq_eq_false_iff_ne.1 k4), if_pos (beq_iff_eq.1 hk)]
    go_enter Try.func38, Try.ntmps38
    go_wp2_with (fail)
    refine (around_any d 7 _ d0 d1 (by omega) (by omega)).mono ?_
    rw [hK.out]
    rintro _ w1 ⟨rfl, rfl⟩
    go_wp2_with (fail)
    rw [hm2.out]
    refine (bool04_any _ _).mono ?_
    rintro _ w2 ⟨A, c, rfl, hown, hf⟩
    go_wp2
    go_ret
    rw [hp.out]
    exact NewB.mk (hown.lower (base' := w.heap.size) (by simp)) rfl rfl (hff.trans hf (fun _ _ e => e))
  · have hp : Hid (Pk.putO d n s = Pk.int n) := by show _ = _; rw [hput.out, if_neg (beq_eq_false_iff_ne.1 k1), if_neg (beq_eq_false_iff_ne.1 k2), if_neg (beq_eq_false_iff_ne.1 k3), if_neg (beq_eq_false_iff_ne.1 k4), if_neg (beq_eq_false_iff_ne.1 hk)]
    go_enter Try.func38, Try.ntmps38
    go_wp2_with (fail)
    refine (around_any d 7 _ d0 d1 (by omega) (by omega)).mono ?_
    rw [hK.out]
    rintro _ w1 ⟨rfl, rfl⟩
    go_wp2_with (fail)
    refine (number04_any _ _ h0 h1).mono ?_
    rintro _ w2 ⟨A, c, rfl, hown, hf⟩
    go_wp2
    go_ret
    rw [hp.out]
    exact NewB.mk (hown.lower (base' := w.heap.size) (by simp)) rfl rfl (hff.trans hf (fun _ _ e => e))

/-- A thing to be written, as the law's argument has it. -/
structure OD where
  d : Int
  n : Int
  s : List UInt8
def OD.ok (o : OD) : Prop := -9223372036854775808 ≤ o.d ∧ o.d ≤ 9223372036854775807 ∧ -9223372036854775808 ≤ o.n ∧ o.n ≤ 9223372036854775807 ∧ o.s.length ≤ 9223372036854775807
def OD.cells (o : OD) : List Value := [.int .i64 o.d, .int .i64 o.n, .string (str o.s)]
def OD.put (o : OD) : List UInt8 := Pk.putO o.d o.n o.s
theorem OD.cells_len (o : OD) : o.cells.length = 3 := rfl
/-- What all of them write. -/
def allO (l : List OD) : List UInt8 := l.flatMap OD.put
theorem allO_snoc (l : List OD) {k : Nat} {o : OD} (h : l[k]? = some o) : allO (l.take (k + 1)) = allO (l.take k) ++ o.put := by
  obtain ⟨hk, rfl⟩ := List.getElem?_eq_some_iff.1 h
  unfold allO
  rw [List.take_succ_eq_append_getElem hk, List.flatMap_append, List.flatMap_cons, List.flatMap_nil, List.append_nil]
theorem allO_len (l : List OD) : (allO l).length ≤ 50 * l.length := by
  induction l with
  | nil => simp [allO]
  | cons o l ih =>
    have := Pk.putO_len o.d o.n o.s
    simp only [allO, List.flatMap_cons, List.length_append, List.length_cons, OD.put] at *
    omega
/-- The cells of the k-th thing, one by one. -/
theorem OD.at {w : World} {B n : Nat} {A : Option Addr} {l : List OD} (h : Rd w B 3 A n (l.flatMap OD.cells)) {k : Nat} {o : OD} (hk : l[k]? = some o) :
    ∃ b off, A = some ⟨b, off, none⟩ ∧ b < B ∧ w.cell? ⟨b, off + k * 3, none⟩ = some (.int .i64 o.d) ∧ w.cell? ⟨b, off + k * 3 + 1, none⟩ = some (.int .i64 o.n) ∧ w.cell? ⟨b, off + k * 3 + 2, none⟩ = some (.string (str o.s)) := by
  have hl := h.1
  rw [flat_len OD.cells_len] at hl
  have hkl := (List.getElem?_eq_some_iff.1 hk).1
  obtain ⟨b, off, e, hb, hc⟩ := h.cells (k := k) (by omega)
  have g := fun j hj => flat_get (f := OD.cells) OD.cells_len l k j o hk hj
  exact ⟨b, off, e, hb, hc 0 (by omega) _ (g 0 (by omega)), hc 1 (by omega) _ (g 1 (by omega)), hc 2 (by omega) _ (g 2 (by omega))⟩

set_option maxRecDepth 100000 in
set_option maxHeartbeats 1000000 in
theorem all04_any (A : Option Addr) (c : Nat) (l : List OD) (m : Nat) (w : World) (hok : ∀ o ∈ l, OD.ok o) (hr : Rd w w.heap.size 3 A l.length (l.flatMap OD.cells)) (hm : m ≤ 1000) (hll : l.length ≤ 9223372036854775807) :
    Calls Try.prog 17 #[.slice A l.length c, .int .i64 (m : Int)] w (NewB w (allO (l.take m))) := by
  generalize hlen0 : l.length = n at *
  have hlen := Lib.hid hlen0
  clear hlen0
  go_enter Try.func17, Try.ntmps17
  go_wp2
  go_loopw [5, 6] (fun s v wr => ∃ (i : Nat) (A' : Option Addr) (c' L : Nat), v = .int .i64 (i : Int) ∧ s = .slice A' L c' ∧ Hid (L = (allO (l.take i)).length) ∧ i ≤ n ∧ i ≤ m ∧ L ≤ 50 * i ∧
    Own wr w.heap.size 5 1 A' L c' ((allO (l.take i)).map Bv) ∧ Fr Non w wr) (fun _ v _ => n - (intOf v).toNat)
  case atStart => exact ⟨0, none, 0, 0, rfl, rfl, rfl, by omega, by omega, by omega, Own.nil _ _ _ _, Fr.refl _ _⟩
  case round =>
    obtain ⟨i, A', c', L, rfl, rfl, hL, hin, him, hL50, hown, hf⟩ := hrel
    have hBs := hf.size
    by_cases hlt : i < n ∧ i < m
    · obtain ⟨h1, h2⟩ := hlt
      obtain ⟨o, ho⟩ : ∃ o, l[i]? = some o := ⟨_, List.getElem?_eq_getElem (by rw [hlen.out]; exact h1)⟩
      obtain ⟨o0, o1, o2, o3, o4⟩ := hok o (List.mem_of_getElem? ho)
      obtain ⟨b, off, rfl, hb, k0, k1, k2⟩ := OD.at (hr.fr hf (fun _ _ e => e)) ho
      have ho' := Lib.hid ho
      clear ho
      have hpl := Pk.putO_len o.d o.n o.s
      go_wp2_with (fail)
      refine (put04_any o.d o.n o.s _ o0 o1 o2 o3 o4).mono ?_
      rintro _ w1 ⟨A1, c1, rfl, hown1, hf1⟩
      have hs1 := hf1.size
      have hown' := hown.fr hf1 (fun _ _ e => e)
      go_wp2_with (first | (at_builtin; go_loud (refine wpList_app (.tmp 18) (.tmp 23) 24 rfl rfl rfl rfl slB hown' hown1.rd (Bv_one _) (by omega) (by omega) (by omega) ?_); intro A2 c2 w2 hown2 hf2 hat2))
      go_roundw
      case rel =>
        refine ⟨i + 1, A2, c2, L + (Pk.putO o.d o.n o.s).length, by go_num, rfl, ?_, by omega, by omega, by omega, ?_, (hf.trans hf1 (fun _ _ e => e)).trans hf2 (hown'.notNon (Nat.le_refl _))⟩
        · show _ = _
          rw [allO_snoc l ho'.out, hL.out, List.length_append]; rfl
        · rw [allO_snoc l ho'.out, List.map_append]
          exact hown2
      case measure => simp [intOf]; omega
    · have hend : Hid (l.take m = l.take i) := by
        show _ = _
        by_cases h1 : i < m
        · rw [List.take_of_length_le (by rw [hlen.out]; omega), List.take_of_length_le (by rw [hlen.out]; omega)]
        · rw [show i = m by omega]
      by_cases h1 : i < n
      all_goals
        go_wp2
        go_ret
        rw [hend.out]
        exact NewB.mk hown rfl rfl hf

theorem all04_len (A : Option Addr) (c n : Nat) (l : List OD) (m : Int) (mn : Nat) (Y : List UInt8) (w : World) (hY : Hid (allO (l.take mn) = Y)) (hmn : Hid ((mn : Int) = m)) (hn : Hid (l.length = n)) (hok : ∀ o ∈ l, OD.ok o) (hr : Rd w w.heap.size 3 A n (l.flatMap OD.cells)) (hm : mn ≤ 1000) (hll : n ≤ 9223372036854775807) :
    Calls Try.prog 17 #[.slice A n c, .int .i64 m] w (NewB w Y) := by
  obtain rfl := hY.out
  obtain rfl := hn.out
  obtain rfl := hmn.out
  exact all04_any A c l mn w hok hr hm hll

set_option maxHeartbeats 4000000 in
theorem lawPut_any (B g : Nat) (A : Option Addr) (c : Nat) (bs : List UInt8) (d n : Int) (s : List UInt8) (w : World) (ho : OutAt w B g A c bs) (d0 : -9223372036854775808 ≤ d) (d1 : d ≤ 9223372036854775807) (h0 : -9223372036854775808 ≤ n) (h1 : n ≤ 9223372036854775807)
    (hs : s.length ≤ 9223372036854775807) (hl : bs.length ≤ 1099511627000) :
    Calls Try.prog 16 #[.pointer (some ⟨g, 0, none⟩), OV d n s] w (OutPost B g A (bs ++ Pk.putO d n s) w) := by
  unfold OV
  have hb0 := Blk.new w 35 #[.int .i64 d, .int .i64 n, .string (str s)]
  have c0 := hb0.cell 0
  have c1 := hb0.cell 1
  have c2 := hb0.cell 2
  have ho0 := ho.alloc (.cells #[.int .i64 d, .int .i64 n, .string (str s)] 35)
  have hst := (OStep.refl g w A).alloc (.cells #[.int .i64 d, .int .i64 n, .string (str s)] 35)
  obtain ⟨K, hK⟩ := hid_ex (around d 7)
  have hput : Hid (Pk.putO d n s = if K = 4 then Pk.num (u64 n) else if K = 5 then Pk.name n else if K = 6 then Pk.int (around n 21)
    else if K = 2 then Pk.text (s.take 40) else if K = 3 then Pk.bool (n % 2 == 0) else Pk.int n) := by show _ = _; unfold Pk.putO; rw [hK.out]
  have hw := Lib.hid (u64_wrap n)
  have hm2 := Lib.hid (tmod2 n)
  have ht13 := tmod13 n h0 h1
  rcases kinds K with hk | ⟨k1, hk⟩ | ⟨k1, k2, hk⟩ | ⟨k1, k2, k3, hk⟩ | ⟨k1, k2, k3, k4, hk⟩ | ⟨k1, k2, k3, k4, hk⟩
  · have hp : Hid (Pk.putO d n s = Pk.num (u64 n)) := by show _ = _; rw [hput.out, if_pos (beq_iff_eq.1 hk)]
    go_enter Try.func16, Try.ntmps16
    go_wp2_with (fail)
    refine (around_any d 7 _ d0 d1 (by omega) (by omega)).mono ?_
    rw [hK.out]
    rintro _ w1 ⟨rfl, rfl⟩
    go_wp2_with (fail)
    rw [hw.out]
    refine (outNum_any B g A c bs _ _ ho0 (u64_lt n) (by omega)).mono ?_
    rintro _ w2 ⟨rfl, A2, c2, ho2, hf2⟩
    go_wp2
    go_end0
    rw [hp.out]
    exact ⟨rfl, A2, c2, ho2, hst.trans hf2⟩
  · have hp : Hid (Pk.putO d n s = Pk.name n) := by show _ = _; rw [hput.out, if_neg (beq_eq_false_iff_ne.1 k1), if_pos (beq_iff_eq.1 hk)]
    go_enter Try.func16, Try.ntmps16
    go_wp2_with (fail)
    refine (around_any d 7 _ d0 d1 (by omega) (by omega)).mono ?_
    rw [hK.out]
    rintro _ w1 ⟨rfl, rfl⟩
    go_wp2_with (fail)
    refine (name_any n _).mono ?_
    rintro _ w1 ⟨rfl, hf1⟩
    have ho1 := ho0.fr hf1 (fun e => e) (fun _ _ e => e)
    have hst := hst.more hf1 (fun _ _ e => e.elim)
    go_wp2_with (fail)
    refine (outIdent_any B g A c bs _ n _ _ ho1 ht13.1 ht13.2 h0 h1 (u64_lt _) (by omega)).mono ?_
    rintro _ w2 ⟨rfl, A2, c2, ho2, hf2⟩
    go_wp2
    go_end0
    rw [hp.out]
    exact ⟨rfl, A2, c2, ho2, hst.trans hf2⟩
  · have hp : Hid (Pk.putO d n s = Pk.int (around n 21)) := by show _ = _; rw [hput.out, if_neg (beq_eq_false_iff_ne.1 k1), if_neg (beq_eq_false_iff_ne.1 k2), if_pos (beq_iff_eq.1 hk)]
    have ha := around_bd (n := n) (m := 21) (by omega)
    go_enter Try.func16, Try.ntmps16
    go_wp2_with (fail)
    refine (around_any d 7 _ d0 d1 (by omega) (by omega)).mono ?_
    rw [hK.out]
    rintro _ w1 ⟨rfl, rfl⟩
    go_wp2_with (fail)
    refine (around_any n 21 _ h0 h1 (by omega) (by omega)).mono ?_
    rintro _ w1 ⟨rfl, rfl⟩
    go_wp2_with (fail)
    refine (outInt_any B g A c bs _ _ ho0 (by omega) (by omega) (by omega)).mono ?_
    rintro _ w2 ⟨rfl, A2, c2, ho2, hf2⟩
    go_wp2
    go_end0
    rw [hp.out]
    exact ⟨rfl, A2, c2, ho2, hst.trans hf2⟩
  · have hp : Hid (Pk.putO d n s = Pk.text (s.take 40)) := by show _ = _; rw [hput.out, if_neg (beq_eq_false_iff_ne.1 k1), if_neg (beq_eq_false_iff_ne.1 k2), if_neg (beq_eq_false_iff_ne.1 k3), if_pos (beq_iff_eq.1 hk)]
    have hl40 := List.length_take_le 40 s
    go_enter Try.func16, Try.ntmps16
    go_wp2_with (fail)
    refine (around_any d 7 _ d0 d1 (by omega) (by omega)).mono ?_
    rw [hK.out]
    rintro _ w1 ⟨rfl, rfl⟩
    go_wp2_with (fail)
    refine (short_any s 40 _ hs (by omega)).mono ?_
    rintro _ w1 ⟨rfl, rfl⟩
    go_wp2_with (fail)
    refine (outText_any B g A c bs _ _ ho0 (by omega)).mono ?_
    rintro _ w2 ⟨rfl, A2, c2, ho2, hf2⟩
    go_wp2
    go_end0
    rw [hp.out]
    exact ⟨rfl, A2, c2, ho2, hst.trans hf2⟩
  · have hp : Hid (Pk.putO d n s = Pk.bool (n % 2 == 0)) := by show _ = _; rw [hput.out, if_neg (beq_eq_false_iff_ne.1 k1), if_neg (beq_eq_false_iff_ne.1 k2), if_neg (beq_eq_false_iff_ne.1 k3), if_neg (beq_eq_false_iff_ne.1 k4), if_pos (beq_iff_eq.1 hk)]
    go_enter Try.func16, Try.ntmps16
    go_wp2_with (fail)
    refine (around_any d 7 _ d0 d1 (by omega) (by omega)).mono ?_
    rw [hK.out]
    rintro _ w1 ⟨rfl, rfl⟩
    go_wp2_with (fail)
    rw [hm2.out]
    refine (outBool_any B g A c bs _ _ ho0 (by omega)).mono ?_
    rintro _ w2 ⟨rfl, A2, c2, ho2, hf2⟩
    go_wp2
    go_end0
    rw [hp.out]
    exact ⟨rfl, A2, c2, ho2, hst.trans hf2⟩
  · have hp : Hid (Pk.putO d n s = Pk.int n) := by show _ = _; rw [hput.out, if_neg (beq_eq_false_iff_ne.1 k1), if_neg (beq_eq_false_iff_ne.1 k2), if_neg (beq_eq_false_iff_ne.1 k3), if_neg (beq_eq_false_iff_ne.1 k4), if_neg (beq_eq_false_iff_ne.1 hk)]
    go_enter Try.func16, Try.ntmps16
    go_wp2_with (fail)
    refine (around_any d 7 _ d0 d1 (by omega) (by omega)).mono ?_
    rw [hK.out]
    rintro _ w1 ⟨rfl, rfl⟩
    go_wp2_with (fail)
    refine (outInt_any B g A c bs _ _ ho0 h0 h1 (by omega)).mono ?_
    rintro _ w2 ⟨rfl, A2, c2, ho2, hf2⟩
    go_wp2
    go_end0
    rw [hp.out]
    exact ⟨rfl, A2, c2, ho2, hst.trans hf2⟩
end Go.Proofs.Ytkppihpdhildjaa
