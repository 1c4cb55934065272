/-
  op.get of nodes and of sealed ones, and their closures.
  Conditions: the In lies in a block of its own, its bytes below it; they are fewer than 2^40.
-/
import Derived.Test.YtahcddlgghipjaaGreatDoorOpGet
namespace Go.Proofs.YtahcddlgghipjaaGreatDoor
open Go.RowKit
attribute [local go_sem ↓] Go.wp_at_zero Go.wp_at_succ
namespace Oq
theorem run_store_func {P : Program} {w : World} (a : Addr) (m : Mode) (f : Fn) (x y : Array Value) : (store a (.func f x y) m).run P w = stored P w a (.func f x y) m := run_store P w a _ m rfl
attribute [local go_sem] run_store_func

theorem rdText_len {bs s : List UInt8} {a a' : Nat} {e e' : Int} (h : Pk.rdText bs a e = (s, a', e')) : s.length ≤ bs.length := by
  unfold Pk.rdText at h
  split at h
  · injection h with h; subst h; simp
  · split at h
    · injection h with h; subst h; simp
    · split at h
      · injection h with h; subst h; simp
      · injection h with h
        subst h
        rw [List.length_take, List.length_drop]
        omega
/-- []byte(s): a new row that may be written. -/
theorem run_bytes_row (bs : List UInt8) (w : World) (hl : bs.length ≤ 1099511627776) :
    ∃ c w', (convert 9 28 (.string (str bs))).run Tryz.prog w = .ok (.slice (some ⟨w.heap.size, 0, none⟩) bs.length c) w' ∧ RowAt w' w.heap.size 5 1 (some ⟨w.heap.size, 0, none⟩) bs.length c (bs.map Bv) ∧ Fr Non w w' := by
  have h := Lib.run_convert_string_bytes w 9 28 5 (str bs) Tryz.underlying9 Tryz.underlying28 Tryz.underlying5
  rw [str_size] at h
  have hz := Lib.bytesWorld_size w 5 (str bs)
  refine ⟨_, _, h, ⟨⟨⟨by simp, .inr ⟨w.heap.size, 0, rfl, by omega, fun j v hj => ?_⟩⟩, grownCap_ge _ _ _ _, grownCap_le_maxLen w bs.length 0 5 (Nat.le_trans hl (by decide))⟩, .inr ⟨w.heap.size, _, _, rfl, Nat.le_refl _, Lib.bytesWorld_at_new w 5 (str bs), fun j hj => ?_⟩⟩, ⟨rfl, rfl, rfl, by omega, fun k hk _ => Lib.bytesWorld_at_old w 5 (str bs) k hk⟩⟩
  · rw [List.getElem?_map] at hj
    cases hb : bs[j]? with
    | none => rw [hb] at hj; cases hj
    | some x =>
      rw [hb] at hj
      have hj' : Bv x = v := Option.some.inj hj
      subst hj'
      obtain ⟨hl, hx⟩ := List.getElem?_eq_some_iff.1 hb
      rw [Nat.zero_add, Lib.bytesWorld_cell w 5 (str bs) j (by rw [str_size]; exact hl)]
      simp [str, List.getD, hl, hx, Bv]
  · have hsz : bs.length ≤ (Lib.bytesCells w 5 (str bs)).size := by
      unfold Lib.bytesCells
      simp [str]
    have hj' : j < (Lib.bytesCells w 5 (str bs)).size := by omega
    have hb := Lib.bytesWorld_at_new w 5 (str bs)
    simp only [World.frozen?, hb]
    simp
    omega

/-- The closure that reads bytes. -/
def BytesPost (B g : Nat) (bs s : List UInt8) (a' : Nat) (e' : Int) (w : World) (r : Ending) (w' : World) : Prop :=
  ∃ A c, r = .returned (.slice A s.length c) ∧ RowAt w' w.heap.size 5 1 A s.length c (s.map Bv) ∧ InAt w' B g bs a' e' ∧ Fr (One g) w w'
theorem gbytes_any (B g gp : Nat) (bs : List UInt8) (a : Nat) (e : Int) (s : List UInt8) (a' : Nat) (e' : Int) (w : World) (hin : InAt w B g bs a e) (hp : Blk w gp 86 #[.pointer (some ⟨g, 0, none⟩)]) (hl : bs.length ≤ 1099511627776) (hrd : Hid (Pk.rdText bs a e = (s, a', e'))) :
    Calls Tryz.prog 56 #[.pointer (some ⟨gp, 0, none⟩)] w (BytesPost B g bs s a' e' w) := by
  have hs := rdText_len hrd.out
  have hg := hin.lt
  have hB : B ≤ g := by obtain ⟨_, _, _, _, h, _⟩ := hin; exact h
  have p0 := hp.cell 0
  have hss := str_size s
  go_enter Tryz.func56, Tryz.ntmps56
  go_wp2_with (fail)
  refine (inText_any B g bs a e s a' e' _ hin hrd).mono ?_
  rintro _ w1 ⟨rfl, hin1, hf1⟩
  obtain ⟨c2, w2, hrun, hrow, hf2⟩ := run_bytes_row s w1 (by omega)
  go_wp2
  go_ret
  exact ⟨_, c2, rfl, hrow.lower hf1.size, hin1.fr hf2 (fun _ _ e => e) (fun e => e), hf1.trans hf2 (fun _ _ e => e.elim)⟩

theorem rdNd_eq {bs : List UInt8} {a a1 a2 v1 : Nat} {e e1 e2 : Int} {l : List Bx} (h1 : Pk.rd bs a e = (v1, a1, e1)) (h2 : lstR rdBx bs a1 e1 = (l, a2, e2)) : rdNd bs a e = (⟨v1, l⟩, a2, e2) := mapR_eq (seq_eq h1 h2)
def NodePost (B g : Nat) (bs : List UInt8) (x : Nd) (a' : Nat) (e' : Int) (w : World) (r : Ending) (w' : World) : Prop :=
  ∃ A c, r = .returned (.agg #[.int .u64 (x.p : Int), .slice A x.xs.length c]) ∧ RowAt w' w.heap.size 60 4 A x.xs.length c (x.xs.flatMap Bx.cells) ∧ InAt w' B g bs a' e' ∧ Fr (One g) w w'
set_option maxRecDepth 100000 in
set_option maxHeartbeats 4000000 in
/-- The closure that reads a node; gc: where it finds what reads a box. -/
theorem gnode_any (B g gp gc : Nat) (bs : List UInt8) (a : Nat) (e : Int) (x : Nd) (a' : Nat) (e' : Int) (w : World) (hin : InAt w B g bs a e) (hp : Blk w gp 86 #[.pointer (some ⟨g, 0, none⟩)]) (hc : Blk w gc 91 #[.func (.func 58) #[] #[.pointer (some ⟨gp, 0, none⟩)]]) (hrd : Hid (rdNd bs a e = (x, a', e'))) :
    Calls Tryz.prog 64 #[.pointer (some ⟨gp, 0, none⟩), .pointer (some ⟨gc, 0, none⟩)] w (NodePost B g bs x a' e' w) := by
  obtain ⟨v1, a1, e1, h1⟩ := hid_ex3 (Pk.rd bs a e)
  obtain ⟨l, a2, e2, h2⟩ := hid_ex3 (lstR rdBx bs a1 e1)
  have hy := Lib.hid ((rdNd_eq h1.out h2.out).symm.trans hrd.out)
  have hg := hin.lt
  have hB : B ≤ g := by obtain ⟨_, _, _, _, h, _⟩ := hin; exact h
  have nG : ¬ One g gp := by
    obtain ⟨_, _, hb, _⟩ := hin
    exact hp.ne hb (by decide)
  have nC : ¬ One g gc := by
    obtain ⟨_, _, hb, _⟩ := hin
    exact hc.ne hb (by decide)
  have hplt := hp.lt
  have hclt := hc.lt
  have hne : w.heap.size ≠ gp := by omega
  have hne2 : w.heap.size ≠ gc := by omega
  have nR : ¬ One g w.heap.size := by unfold One; omega
  have hp0 : Blk (w.alloc (.cells #[.int .u64 0, .slice none 0 0] 55)).drew gp 86 #[.pointer (some ⟨g, 0, none⟩)] := (hp.alloc _).drew
  have hc0 : Blk (w.alloc (.cells #[.int .u64 0, .slice none 0 0] 55)).drew gc 91 #[.func (.func 58) #[] #[.pointer (some ⟨gp, 0, none⟩)]] := (hc.alloc _).drew
  have hr0 : Blk (w.alloc (.cells #[.int .u64 0, .slice none 0 0] 55)).drew w.heap.size 55 #[.int .u64 0, .slice none 0 0] := (Blk.new w _ _).drew
  have hin0 : InAt (w.alloc (.cells #[.int .u64 0, .slice none 0 0] 55)).drew B g bs a e := (hin.alloc _).drewN 1
  have hf0 : Fr Non w (w.alloc (.cells #[.int .u64 0, .slice none 0 0] 55)).drew := ((Fr.refl _ _).alloc _).drew
  have hz0 : (w.alloc (.cells #[.int .u64 0, .slice none 0 0] 55)).drew.heap.size = w.heap.size + 1 := World.size_alloc _ _
  have p0 := hp0.cell 0
  have q0 := hc0.cell 0
  go_enter Tryz.func64, Tryz.ntmps64
  go_upto_region 1 with (fail)
  generalize w.alloc (.cells #[.int .u64 0, .slice none 0 0] 55) = w0 at *
  go_region_held3 (fun w' => w'.cell? ⟨gp, 0, none⟩ = some (.pointer (some ⟨g, 0, none⟩)) ∧ w'.cell? ⟨gc, 0, none⟩ = some (.func (.func 58) #[] #[.pointer (some ⟨gp, 0, none⟩)])) ((and_intros <;> first | assumption | go_keep)) (first
    | (go_at_call 59; (with_reducible refine (inNum_any B g bs a e v1 a1 e1 _ hin0 h1).mono ?_); rintro _ w1 ⟨rfl, hin1, hf1⟩; have hp1 := hp0.fr hf1 nG; have p1 := hp1.cell 0; have q1 := (hc0.fr hf1 nC).cell 0)
    | (go_at_call 65; (with_reducible refine (getBx_any B g gp bs a1 e1 l a2 e2 _ hin1 h2 hp1).mono ?_); rintro _ w2 ⟨A2, c2, rfl, hown2, hin2, hf2⟩; have hf12 := hf1.transOne hf2; have p2 := (hp0.fr hf12 nG).cell 0; have q2 := (hc0.fr hf12 nC).cell 0; have hr2 := hr0.fr hf12 nR; have r0 := hr2.cell 0; have r1 := hr2.cell 1; have z0 := hr2.frozen 0; have z1 := hr2.frozen 1))
  go_wp2
  cases hy.out
  have hz1 := hf1.size
  refine ret_blk (t := 55) rfl rfl ((hr2.set 0 _).set 1 _) rfl Tryz.underlying55 (by kernel_rfl) rfl ?_
  have hfe : Fr (One w.heap.size) w2 _ := ((Fr.refl _ _).setOne 0 (.int .u64 (v1 : Int))).setOne 1 (.slice A2 l.length c2)
  exact ⟨A2, c2, rfl, ((RowAt.of_own hown2).fr hfe (fun _ k hk e => by have := (hown2.row k hk).1; have e' : k = w.heap.size := e; omega)).lower (by omega), hin2.fr hfe (fun k hk => One.not (Nat.le_trans hB (Nat.le_of_lt hg)) hk) (by unfold One; omega), ((hf0.of_non (One g)).transOne hf12).trans hfe (fun k hk e => absurd hk (by have e' : k = w.heap.size := e; omega))⟩

/-- What reading a list of these answers: where each one's own row lies, too. -/
def NdPost (B g : Nat) (bs : List UInt8) (ys : List Nd) (a' : Nat) (e' : Int) (w : World) (r : Ending) (w' : World) : Prop :=
  ∃ A c, ∃ ls : List NdL, ls.map NdL.nd = ys ∧ r = .returned (.slice A ls.length c) ∧ Own w' w.heap.size 55 2 A ls.length c (ls.flatMap NdL.cells) ∧ (∀ y ∈ ls, RowAt w' w.heap.size 60 4 y.A y.xs.length y.c (y.xs.flatMap Bx.cells)) ∧ InAt w' B g bs a' e' ∧ Fr (One g) w w'
set_option maxRecDepth 100000 in
set_option maxHeartbeats 2000000 in
theorem getNd_any (B g gp gc : Nat) (bs : List UInt8) (a : Nat) (e : Int) (ys : List Nd) (a' : Nat) (e' : Int) (w : World) (hin : InAt w B g bs a e) (hrd : Hid (lstR rdNd bs a e = (ys, a', e'))) (hp : Blk w gp 86 #[.pointer (some ⟨g, 0, none⟩)]) (hc : Blk w gc 91 #[.func (.func 58) #[] #[.pointer (some ⟨gp, 0, none⟩)]]) :
    Calls Tryz.prog 63 #[.pointer (some ⟨g, 0, none⟩), .func (.func 64) #[] #[.pointer (some ⟨gp, 0, none⟩), .pointer (some ⟨gc, 0, none⟩)]] w (NdPost B g bs ys a' e' w) := by
  have hg := hin.lt
  obtain ⟨v, a0, e0, hm⟩ := hid_ex3 (Pk.rdMany bs a e 1000)
  have hvb := many_bd hm.out
  obtain ⟨M, hM⟩ : ∃ M : Nat, v = (M : Int) := ⟨v.toNat, by omega⟩
  subst hM
  have hlp : Hid ((ys, a', e') = loop rdNd M bs a0 e0) := by
    show _ = _
    rw [← hrd.out]
    unfold lstR
    rw [hm.out]
    rfl
  have hgB : B ≤ g := by obtain ⟨_, _, _, _, h, _⟩ := hin; exact h
  have nG : ¬ One g gp := by
    obtain ⟨_, _, hb, _⟩ := hin
    exact hp.ne hb (by decide)
  have nC : ¬ One g gc := by
    obtain ⟨_, _, hb, _⟩ := hin
    exact hc.ne hb (by decide)
  go_enter Tryz.func63, Tryz.ntmps63
  go_wp2_with (fail)
  refine (inMany_any B g bs a e 1000 (M : Int) a0 e0 _ hin hm).mono ?_
  rintro _ w1 ⟨rfl, hin1, hf1⟩
  go_wp2
  go_loopw [5, 6] (fun s v wr => ∃ (m : Nat) (A : Option Addr) (c : Nat) (ls : List NdL) (ai : Nat) (ei : Int), v = .int .i64 (m : Int) ∧ s = .slice A ls.length c ∧ ls.length + m = M ∧ Hid ((ys, a', e') = (ls.map NdL.nd ++ (loop rdNd m bs ai ei).1, (loop rdNd m bs ai ei).2)) ∧
    Own wr w.heap.size 55 2 A ls.length c (ls.flatMap NdL.cells) ∧ (∀ y ∈ ls, RowAt wr w.heap.size 60 4 y.A y.xs.length y.c (y.xs.flatMap Bx.cells)) ∧ InAt wr B g bs ai ei ∧ Fr (One g) w wr ∧ Blk wr gp 86 #[.pointer (some ⟨g, 0, none⟩)] ∧ Blk wr gc 91 #[.func (.func 58) #[] #[.pointer (some ⟨gp, 0, none⟩)]]) (fun _ v _ => (intOf v).toNat)
  case atStart => exact ⟨M, none, 0, [], a0, e0, rfl, rfl, by simp, by show _ = _; rw [hlp.out]; rfl, Own.nil _ _ _ _, (fun _ h => by cases h), hin1, hf1, hp.fr hf1 nG, hc.fr hf1 nC⟩
  case round =>
    obtain ⟨m, A, c, ls, ai, ei, rfl, rfl, hlen, hL, hown, hrows, hini, hf, hpi, hci⟩ := hrel
    have hrows' := Lib.hid hrows
    clear hrows
    have hBs := hf.size
    have fin : ∀ A : Option Addr, Hid ((ys, a', e') = (ls.map NdL.nd, ai, ei)) → ls.map NdL.nd = ys ∧ a' = ai ∧ e' = ei := fun _ h => ⟨(congrArg Prod.fst h.out).symm, congrArg (fun p => p.2.1) h.out, congrArg (fun p => p.2.2) h.out⟩
    by_cases hm0 : m = 0
    · subst hm0
      obtain ⟨h1, h2, h3⟩ := fin A (by show _ = _; rw [hL.out]; simp [loop])
      have h1 := Lib.hid h1
      subst h2 h3
      go_wp2
      go_ret
      exact ⟨A, c, ls, h1.out, rfl, hown, hrows'.out, hini, hf⟩
    · obtain ⟨m, rfl⟩ : ∃ k, m = k + 1 := ⟨m - 1, by omega⟩
      have hgt : (0 : Int) < ((m + 1 : Nat) : Int) := by omega
      by_cases he : ei = 0
      · have hz : (ei == 0) = true := beq_t he
        have he' := Lib.hid he
        clear he
        go_wp2_with (fail)
        refine (inErr_any B g bs ai ei _ hini).mono ?_
        rintro _ _ ⟨rfl, rfl⟩
        obtain ⟨x, a1, e1, hx⟩ := hid_ex3 (rdNd bs ai ei)
        have hx0 : Hid (rdNd bs ai 0 = (x, a1, e1)) := by show _ = _; rw [← he'.out]; exact hx.out
        have h9 := hL.out
        rw [he'.out] at h9
        have hL1 := Lib.hid (loop_next h9 hx0.out)
        clear h9
        go_wp2_with (fail)
        refine (gnode_any B g gp gc bs ai ei x a1 e1 _ hini hpi hci hx).mono ?_
        rintro _ wv ⟨Ax, cx, rfl, hrx, hinv, hfv⟩
        have hzv := hfv.size
        have hownv := hown.fr hfv (fun k hk e => by have := (hown.row k hk).1; have e' : k = g := e; omega)
        have hrd1 := Rd.blk (n := 1) (size := 2) (Blk.new wv 55 #[.int .u64 (x.p : Int), .slice Ax x.xs.length cx]) rfl
        have hlen1 : ls.length ≤ 1000 := by omega
        go_wp2_with (first | (at_builtin; go_loud (refine wpList_app (.tmp 18) (.tmp 21) 24 rfl rfl rfl rfl slNd (hownv.alloc _) hrd1 (by simp [Value.oneCell']) (by omega) (by omega) (by simp; omega) ?_); intro A2 c2 w2 hown2 hf2 hat2))
        have hin3 := (hinv.alloc (.cells #[.int .u64 (x.p : Int), .slice Ax x.xs.length cx] 55)).fr hf2 (fun k hk e => by have := (hown.row k e).1; omega) (fun e => by have := (hown.row _ e).1; omega)
        have hf3 : Fr (One g) w w2 := (((hf.transOne hfv).alloc _).trans hf2 (fun k hk e => by have := (hown.row k e).1; omega))
        have hpv := hpi.fr hfv nG
        have hcv := hci.fr hfv nC
        have hpi3 := (hpv.alloc (.cells #[.int .u64 (x.p : Int), .slice Ax x.xs.length cx] 55)).fr hf2 (fun e => (hownv.ne hpv (by decide)) e)
        have hci3 := (hcv.alloc (.cells #[.int .u64 (x.p : Int), .slice Ax x.xs.length cx] 55)).fr hf2 (fun e => (hownv.ne hcv (by decide)) e)
        have hkeep : ∀ (base n cc : Nat) (Ay : Option Addr) (vs : List Value), RowAt wv base 60 4 Ay n cc vs → RowAt w2 base 60 4 Ay n cc vs := fun base n cc Ay vs h =>
          (h.fr ((Fr.refl Non wv).alloc (.cells #[.int .u64 (x.p : Int), .slice Ax x.xs.length cx] 55)) (fun _ _ _ e => e)).fr hf2 ((h.fr ((Fr.refl Non wv).alloc (.cells #[.int .u64 (x.p : Int), .slice Ax x.xs.length cx] 55)) (fun _ _ _ e => e)).far (hownv.alloc _) (by decide))
        have hrows2 : ∀ y ∈ ls ++ [(⟨x.p, Ax, cx, x.xs⟩ : NdL)], RowAt w2 w.heap.size 60 4 y.A y.xs.length y.c (y.xs.flatMap Bx.cells) := by
          intro y hy
          rcases List.mem_append.1 hy with hy | hy
          · have h := hrows'.out y hy
            obtain ⟨_, _, hbg, _⟩ := hini
            exact hkeep _ _ _ _ _ (h.fr hfv (fun h0 k hk e => h.ne hbg (by decide) h0 k hk e))
          · rw [List.mem_singleton.1 hy]
            exact hkeep _ _ _ _ _ (hrx.lower hBs)
        have hrows2' := Lib.hid hrows2
        clear hrows2
        go_roundw
        case rel =>
          refine ⟨m, A2, c2, ls ++ [(⟨x.p, Ax, cx, x.xs⟩ : NdL)], a1, e1, by go_num, by simp, by simp; omega, ?_, ?_, hrows2'.out, hin3, hf3, hpi3, hci3⟩
          · show _ = _
            rw [hL1.out, List.map_append]
            rfl
          · rw [List.flatMap_append, List.flatMap_cons, List.flatMap_nil, List.append_nil, List.length_append]
            exact hown2
        case measure => first | (simp [intOf]; done) | (simp [intOf]; omega)
      · have hz : (ei == 0) = false := beq_f he
        obtain ⟨h1, h2, h3⟩ := fin A (by show _ = _; rw [hL.out, loop_stay _ _ _ _ _ he]; simp)
        have h1 := Lib.hid h1
        clear he
        subst h2 h3
        go_wp2_with (fail)
        refine (inErr_any B g bs _ _ _ hini).mono ?_
        rintro _ _ ⟨rfl, rfl⟩
        go_wp2
        go_ret
        exact ⟨A, c, ls, h1.out, rfl, hown, hrows'.out, hini, hf⟩

theorem rdSl_eq {bs s : List UInt8} {a a1 a2 : Nat} {e e1 e2 : Int} {i : Id} (h1 : rdId bs a e = (i, a1, e1)) (h2 : Pk.rdText bs a1 e1 = (s, a2, e2)) : rdSl bs a e = (⟨i, s⟩, a2, e2) := mapR_eq (seq_eq h1 h2)
def SealPost (B g : Nat) (bs : List UInt8) (x : Sl) (a' : Nat) (e' : Int) (w : World) (r : Ending) (w' : World) : Prop :=
  ∃ A c, r = .returned (.agg #[.int .i64 x.f.b, .int .i64 x.f.s, .int .u64 (x.f.u : Int), .slice A x.y.length c]) ∧ RowAt w' w.heap.size 5 1 A x.y.length c (x.y.map Bv) ∧ InAt w' B g bs a' e' ∧ Fr (One g) w w'
section
attribute [local go_sem ↓] storeAt_seal
set_option maxRecDepth 100000 in
set_option maxHeartbeats 4000000 in
/-- The closure that reads a sealed one; gc: where it finds what reads bytes. -/
theorem gseal_any (B g gp gc : Nat) (bs : List UInt8) (a : Nat) (e : Int) (x : Sl) (a' : Nat) (e' : Int) (w : World) (hin : InAt w B g bs a e) (hp : Blk w gp 86 #[.pointer (some ⟨g, 0, none⟩)]) (hc : Blk w gc 89 #[.func (.func 56) #[] #[.pointer (some ⟨gp, 0, none⟩)]]) (hl : bs.length ≤ 1099511627776) (hrd : Hid (rdSl bs a e = (x, a', e'))) :
    Calls Tryz.prog 69 #[.pointer (some ⟨gp, 0, none⟩), .pointer (some ⟨gc, 0, none⟩)] w (SealPost B g bs x a' e' w) := by
  obtain ⟨i, a1, e1, h1⟩ := hid_ex3 (rdId bs a e)
  obtain ⟨s, a2, e2, h2⟩ := hid_ex3 (Pk.rdText bs a1 e1)
  have hi : Hid (Pk.rdIdent bs a e = ((i.b, i.s, i.u), a1, e1)) := rdId_eq h1.out
  have hy := Lib.hid ((rdSl_eq h1.out h2.out).symm.trans hrd.out)
  have hg := hin.lt
  have hB : B ≤ g := by obtain ⟨_, _, _, _, h, _⟩ := hin; exact h
  have nG : ¬ One g gp := by
    obtain ⟨_, _, hb, _⟩ := hin
    exact hp.ne hb (by decide)
  have nC : ¬ One g gc := by
    obtain ⟨_, _, hb, _⟩ := hin
    exact hc.ne hb (by decide)
  have hplt := hp.lt
  have hclt := hc.lt
  have hne : w.heap.size ≠ gp := by omega
  have hne2 : w.heap.size ≠ gc := by omega
  have nR : ¬ One g w.heap.size := by unfold One; omega
  have hp0 : Blk (w.alloc (.cells #[.int .i64 0, .int .i64 0, .int .u64 0, .slice none 0 0] 58)).drew gp 86 #[.pointer (some ⟨g, 0, none⟩)] := (hp.alloc _).drew
  have hc0 : Blk (w.alloc (.cells #[.int .i64 0, .int .i64 0, .int .u64 0, .slice none 0 0] 58)).drew gc 89 #[.func (.func 56) #[] #[.pointer (some ⟨gp, 0, none⟩)]] := (hc.alloc _).drew
  have hr0 : Blk (w.alloc (.cells #[.int .i64 0, .int .i64 0, .int .u64 0, .slice none 0 0] 58)).drew w.heap.size 58 #[.int .i64 0, .int .i64 0, .int .u64 0, .slice none 0 0] := (Blk.new w _ _).drew
  have hin0 : InAt (w.alloc (.cells #[.int .i64 0, .int .i64 0, .int .u64 0, .slice none 0 0] 58)).drew B g bs a e := (hin.alloc _).drewN 1
  have hf0 : Fr Non w (w.alloc (.cells #[.int .i64 0, .int .i64 0, .int .u64 0, .slice none 0 0] 58)).drew := ((Fr.refl _ _).alloc _).drew
  have hz0 : (w.alloc (.cells #[.int .i64 0, .int .i64 0, .int .u64 0, .slice none 0 0] 58)).drew.heap.size = w.heap.size + 1 := World.size_alloc _ _
  have p0 := hp0.cell 0
  have q0 := hc0.cell 0
  have hst := fun (A2 : Option Addr) (c2 : Nat) => stS_blk (P := Tryz.prog) (t := 58) (old := #[.int .i64 0, .int .i64 0, .int .u64 0, .slice none 0 0]) (cs := #[.int .i64 i.b, .int .i64 i.s, .int .u64 (i.u : Int), .slice A2 s.length c2]) w.heap.size 58 (by kernel_rfl) rfl (by simp [Value.oneCell'])
  go_enter Tryz.func69, Tryz.ntmps69
  go_upto_region 1 with (fail)
  generalize w.alloc (.cells #[.int .i64 0, .int .i64 0, .int .u64 0, .slice none 0 0] 58) = w0 at *
  go_region_held3 (fun w' => w'.cell? ⟨gp, 0, none⟩ = some (.pointer (some ⟨g, 0, none⟩)) ∧ w'.cell? ⟨gc, 0, none⟩ = some (.func (.func 56) #[] #[.pointer (some ⟨gp, 0, none⟩)])) ((and_intros <;> first | assumption | exact cell_setRow p2 hne | exact cell_setRow q2 hne2 | go_keep)) (first
    | (go_at_call 62; (with_reducible refine (inIdent_any B g bs a e i.b i.s i.u a1 e1 _ hin0 hi).mono ?_); rintro _ w1 ⟨rfl, hin1, hf1⟩; have hp1 := hp0.fr hf1 nG; have p1 := hp1.cell 0; have q1 := (hc0.fr hf1 nC).cell 0)
    | (go_at_call 56; (with_reducible refine (gbytes_any B g gp bs a1 e1 s a2 e2 _ hin1 hp1 hl h2).mono ?_); rintro _ w2 ⟨A2, c2, rfl, hrow2, hin2, hf2⟩; have hf12 := hf1.transOne hf2; have p2 := (hp0.fr hf12 nG).cell 0; have q2 := (hc0.fr hf12 nC).cell 0; have hr2 := hr0.fr hf12 nR))
  go_wp2
  cases hy.out
  have hz1 := hf1.size
  refine ret_blk (t := 58) rfl rfl hr2.setRow rfl Tryz.underlying58 (by kernel_rfl) rfl ?_
  have hfe := (Fr.refl (One w.heap.size) w2).setRow (g := w.heap.size) (fun _ => rfl) #[.int .i64 i.b, .int .i64 i.s, .int .u64 (i.u : Int), .slice A2 s.length c2]
  refine ⟨A2, c2, rfl, (hrow2.fr hfe (fun h0 k hk e => ?_)).lower (by omega), hin2.fr hfe (fun k hk => One.not (Nat.le_trans hB (Nat.le_of_lt hg)) hk) (by unfold One; omega), ((hf0.of_non (One g)).transOne hf12).trans hfe (fun k hk e => absurd hk (by have e' : k = w.heap.size := e; omega))⟩
  exact hrow2.ne hr2 (by decide) h0 k hk e
end

/-- What reading a list of these answers: where each one's own row lies, too. -/
def SlPost (B g : Nat) (bs : List UInt8) (ys : List Sl) (a' : Nat) (e' : Int) (w : World) (r : Ending) (w' : World) : Prop :=
  ∃ A c, ∃ ls : List SlL, ls.map SlL.sl = ys ∧ r = .returned (.slice A ls.length c) ∧ Own w' w.heap.size 58 4 A ls.length c (ls.flatMap SlL.cells) ∧ (∀ y ∈ ls, RowAt w' w.heap.size 5 1 y.A y.y.length y.c (y.y.map Bv)) ∧ InAt w' B g bs a' e' ∧ Fr (One g) w w'
set_option maxRecDepth 100000 in
set_option maxHeartbeats 2000000 in
theorem getSl_any (B g gp gc : Nat) (bs : List UInt8) (a : Nat) (e : Int) (ys : List Sl) (a' : Nat) (e' : Int) (w : World) (hin : InAt w B g bs a e) (hrd : Hid (lstR rdSl bs a e = (ys, a', e'))) (hp : Blk w gp 86 #[.pointer (some ⟨g, 0, none⟩)]) (hc : Blk w gc 89 #[.func (.func 56) #[] #[.pointer (some ⟨gp, 0, none⟩)]]) (hl : bs.length ≤ 1099511627776) :
    Calls Tryz.prog 68 #[.pointer (some ⟨g, 0, none⟩), .func (.func 69) #[] #[.pointer (some ⟨gp, 0, none⟩), .pointer (some ⟨gc, 0, none⟩)]] w (SlPost B g bs ys a' e' w) := by
  have hg := hin.lt
  obtain ⟨v, a0, e0, hm⟩ := hid_ex3 (Pk.rdMany bs a e 1000)
  have hvb := many_bd hm.out
  obtain ⟨M, hM⟩ : ∃ M : Nat, v = (M : Int) := ⟨v.toNat, by omega⟩
  subst hM
  have hlp : Hid ((ys, a', e') = loop rdSl M bs a0 e0) := by
    show _ = _
    rw [← hrd.out]
    unfold lstR
    rw [hm.out]
    rfl
  have hgB : B ≤ g := by obtain ⟨_, _, _, _, h, _⟩ := hin; exact h
  have nG : ¬ One g gp := by
    obtain ⟨_, _, hb, _⟩ := hin
    exact hp.ne hb (by decide)
  have nC : ¬ One g gc := by
    obtain ⟨_, _, hb, _⟩ := hin
    exact hc.ne hb (by decide)
  go_enter Tryz.func68, Tryz.ntmps68
  go_wp2_with (fail)
  refine (inMany_any B g bs a e 1000 (M : Int) a0 e0 _ hin hm).mono ?_
  rintro _ w1 ⟨rfl, hin1, hf1⟩
  go_wp2
  go_loopw [5, 6] (fun s v wr => ∃ (m : Nat) (A : Option Addr) (c : Nat) (ls : List SlL) (ai : Nat) (ei : Int), v = .int .i64 (m : Int) ∧ s = .slice A ls.length c ∧ ls.length + m = M ∧ Hid ((ys, a', e') = (ls.map SlL.sl ++ (loop rdSl m bs ai ei).1, (loop rdSl m bs ai ei).2)) ∧
    Own wr w.heap.size 58 4 A ls.length c (ls.flatMap SlL.cells) ∧ (∀ y ∈ ls, RowAt wr w.heap.size 5 1 y.A y.y.length y.c (y.y.map Bv)) ∧ InAt wr B g bs ai ei ∧ Fr (One g) w wr ∧ Blk wr gp 86 #[.pointer (some ⟨g, 0, none⟩)] ∧ Blk wr gc 89 #[.func (.func 56) #[] #[.pointer (some ⟨gp, 0, none⟩)]]) (fun _ v _ => (intOf v).toNat)
  case atStart => exact ⟨M, none, 0, [], a0, e0, rfl, rfl, by simp, by show _ = _; rw [hlp.out]; rfl, Own.nil _ _ _ _, (fun _ h => by cases h), hin1, hf1, hp.fr hf1 nG, hc.fr hf1 nC⟩
  case round =>
    obtain ⟨m, A, c, ls, ai, ei, rfl, rfl, hlen, hL, hown, hrows, hini, hf, hpi, hci⟩ := hrel
    have hrows' := Lib.hid hrows
    clear hrows
    have hBs := hf.size
    have fin : ∀ A : Option Addr, Hid ((ys, a', e') = (ls.map SlL.sl, ai, ei)) → ls.map SlL.sl = ys ∧ a' = ai ∧ e' = ei := fun _ h => ⟨(congrArg Prod.fst h.out).symm, congrArg (fun p => p.2.1) h.out, congrArg (fun p => p.2.2) h.out⟩
    by_cases hm0 : m = 0
    · subst hm0
      obtain ⟨h1, h2, h3⟩ := fin A (by show _ = _; rw [hL.out]; simp [loop])
      have h1 := Lib.hid h1
      subst h2 h3
      go_wp2
      go_ret
      exact ⟨A, c, ls, h1.out, rfl, hown, hrows'.out, hini, hf⟩
    · obtain ⟨m, rfl⟩ : ∃ k, m = k + 1 := ⟨m - 1, by omega⟩
      have hgt : (0 : Int) < ((m + 1 : Nat) : Int) := by omega
      by_cases he : ei = 0
      · have hz : (ei == 0) = true := beq_t he
        have he' := Lib.hid he
        clear he
        go_wp2_with (fail)
        refine (inErr_any B g bs ai ei _ hini).mono ?_
        rintro _ _ ⟨rfl, rfl⟩
        obtain ⟨x, a1, e1, hx⟩ := hid_ex3 (rdSl bs ai ei)
        have hx0 : Hid (rdSl bs ai 0 = (x, a1, e1)) := by show _ = _; rw [← he'.out]; exact hx.out
        have h9 := hL.out
        rw [he'.out] at h9
        have hL1 := Lib.hid (loop_next h9 hx0.out)
        clear h9
        go_wp2_with (fail)
        refine (gseal_any B g gp gc bs ai ei x a1 e1 _ hini hpi hci hl hx).mono ?_
        rintro _ wv ⟨Ax, cx, rfl, hrx, hinv, hfv⟩
        have hzv := hfv.size
        have hownv := hown.fr hfv (fun k hk e => by have := (hown.row k hk).1; have e' : k = g := e; omega)
        have hrd1 := Rd.blk (n := 1) (size := 4) (Blk.new wv 58 #[.int .i64 x.f.b, .int .i64 x.f.s, .int .u64 (x.f.u : Int), .slice Ax x.y.length cx]) rfl
        have hlen1 : ls.length ≤ 1000 := by omega
        go_wp2_with (first | (at_builtin; go_loud (refine wpList_app (.tmp 18) (.tmp 21) 31 rfl rfl rfl rfl slSl (hownv.alloc _) hrd1 (by simp [Value.oneCell']) (by omega) (by omega) (by simp; omega) ?_); intro A2 c2 w2 hown2 hf2 hat2))
        have hin3 := (hinv.alloc (.cells #[.int .i64 x.f.b, .int .i64 x.f.s, .int .u64 (x.f.u : Int), .slice Ax x.y.length cx] 58)).fr hf2 (fun k hk e => by have := (hown.row k e).1; omega) (fun e => by have := (hown.row _ e).1; omega)
        have hf3 : Fr (One g) w w2 := (((hf.transOne hfv).alloc _).trans hf2 (fun k hk e => by have := (hown.row k e).1; omega))
        have hpv := hpi.fr hfv nG
        have hcv := hci.fr hfv nC
        have hpi3 := (hpv.alloc (.cells #[.int .i64 x.f.b, .int .i64 x.f.s, .int .u64 (x.f.u : Int), .slice Ax x.y.length cx] 58)).fr hf2 (fun e => (hownv.ne hpv (by decide)) e)
        have hci3 := (hcv.alloc (.cells #[.int .i64 x.f.b, .int .i64 x.f.s, .int .u64 (x.f.u : Int), .slice Ax x.y.length cx] 58)).fr hf2 (fun e => (hownv.ne hcv (by decide)) e)
        have hkeep : ∀ (base n cc : Nat) (Ay : Option Addr) (vs : List Value), RowAt wv base 5 1 Ay n cc vs → RowAt w2 base 5 1 Ay n cc vs := fun base n cc Ay vs h =>
          (h.fr ((Fr.refl Non wv).alloc (.cells #[.int .i64 x.f.b, .int .i64 x.f.s, .int .u64 (x.f.u : Int), .slice Ax x.y.length cx] 58)) (fun _ _ _ e => e)).fr hf2 ((h.fr ((Fr.refl Non wv).alloc (.cells #[.int .i64 x.f.b, .int .i64 x.f.s, .int .u64 (x.f.u : Int), .slice Ax x.y.length cx] 58)) (fun _ _ _ e => e)).far (hownv.alloc _) (by decide))
        have hrows2 : ∀ y ∈ ls ++ [(⟨x.f, Ax, cx, x.y⟩ : SlL)], RowAt w2 w.heap.size 5 1 y.A y.y.length y.c (y.y.map Bv) := by
          intro y hy
          rcases List.mem_append.1 hy with hy | hy
          · have h := hrows'.out y hy
            obtain ⟨_, _, hbg, _⟩ := hini
            exact hkeep _ _ _ _ _ (h.fr hfv (fun h0 k hk e => h.ne hbg (by decide) h0 k hk e))
          · rw [List.mem_singleton.1 hy]
            exact hkeep _ _ _ _ _ (hrx.lower hBs)
        have hrows2' := Lib.hid hrows2
        clear hrows2
        go_roundw
        case rel =>
          refine ⟨m, A2, c2, ls ++ [(⟨x.f, Ax, cx, x.y⟩ : SlL)], a1, e1, by go_num, by simp, by simp; omega, ?_, ?_, hrows2'.out, hin3, hf3, hpi3, hci3⟩
          · show _ = _
            rw [hL1.out, List.map_append]
            rfl
          · rw [List.flatMap_append, List.flatMap_cons, List.flatMap_nil, List.append_nil, List.length_append]
            exact hown2
        case measure => first | (simp [intOf]; done) | (simp [intOf]; omega)
      · have hz : (ei == 0) = false := beq_f he
        obtain ⟨h1, h2, h3⟩ := fin A (by show _ = _; rw [hL.out, loop_stay _ _ _ _ _ he]; simp)
        have h1 := Lib.hid h1
        clear he
        subst h2 h3
        go_wp2_with (fail)
        refine (inErr_any B g bs _ _ _ hini).mono ?_
        rintro _ _ ⟨rfl, rfl⟩
        go_wp2
        go_ret
        exact ⟨A, c, ls, h1.out, rfl, hown, hrows'.out, hini, hf⟩
end Oq
end Go.Proofs.YtahcddlgghipjaaGreatDoor
