/-
  OpSigns: what is signed by a card's secret is that card's device's, and keeps its name.
  Conditions: the package variable op.kinds as its text lays it.
-/
import Derived.Test.YthmlaigpdpdpjaaGreatDoorOpSign
import Derived.Test.YthmlaigpdpdpjaaGreatDoorOpLives
import Derived.Test.YthmlaigpdpdpjaaGreatDoorOpFew
import Derived.Test.YthmlaigpdpdpjaaGreatDoorBent
import Derived.Deep.CutBlock
import Derived.Deep.DeepCutAuto
namespace Go.Proofs.YthmlaigpdpdpjaaGreatDoor
open Go.RowKit
attribute [local go_sem ↓] Go.wp_at_zero Go.wp_at_succ
namespace Oq
attribute [local go_sem] Bool.not_false Bool.not_true bne_self_eq_false beq_self_eq_true
attribute [local go_sem ↓] loadAt_op
attribute [local go_sem ↓] eq_ident
theorem Id.eq_self' (x : Id) : Id.eq x x = true := (Id.eq_iff x x).2 rfl
attribute [local go_sem] Id.eq_self'
theorem use_fin {G P : Prop} (h : P → G) (hp : P) : G := h hp
theorem id_mk (b s : Int) (u : Nat) : ∃ i : Id, i.b = b ∧ i.s = s ∧ i.u = u := ⟨⟨b, s, u⟩, rfl, rfl, rfl⟩
theorem U64.lt1 {n : Nat} (h : n < 2305843009213693951) : U64 n := Nat.lt_trans h (by decide)
theorem U64.lt0 {n : Nat} (h : n < 2305843009213693950) : U64 n := Nat.lt_trans h (by decide)
theorem resig_ok {o : Op} (h : o.ok) (r s : Nat) (hr : U64 r) (hs : U64 s) : ({ o with r := r, s := s } : Op).ok :=
  ⟨h.by_, h.sq, h.kind, h.at_, h.past, h.dev, h.old, h.mem, h.role, h.path, h.epoch, h.n, h.body, h.refs, h.of, h.guards, h.need, h.wait, h.boxes, h.pub, h.hist, hr, hs⟩
theorem sig_ok {o : Op} (h : o.ok) (V : Nat) : ({ o with r := Sg.r V o.bare, s := Sg.s V o.bare } : Op).ok := resig_ok h _ _ (U64.lt1 (Sg.r_lt V o.bare)) (U64.lt0 (Sg.s_lt V o.bare))
theorem sig_few {k : Nat} {o : Op} (h : Few k o) (r s : Nat) : Few k { o with r := r, s := s } := ⟨h.past, h.path, h.refs, h.guards, h.boxes, h.hist, h.nodes, h.body, h.seals⟩
/-- The name of what is signed is the name of what was to be. -/
theorem ids_sig (x y : OpL) (r s : Nat) (hy : y.op = { x.op with r := r, s := s }) (xok : x.op.ok) (yok : y.op.ok) : ∃ ix : Id,
    (∀ w' : World, x.at w' w'.heap.size → Calls Tryz.prog 22 #[.agg x.cells] w' (IdPost ix.b ix.s ix.u w')) ∧
    (∀ w' : World, y.at w' w'.heap.size → Calls Tryz.prog 22 #[.agg y.cells] w' (IdPost ix.b ix.s ix.u w')) := by
  have d1 : y.by_ = x.by_ := by
    have h := congrArg Op.by_ hy
    exact h
  have d2 : y.sq = x.sq := by
    have h := congrArg Op.sq hy
    exact h
  have d3 : y.op.id = x.op.id := by
    have h : y.op.bare = x.op.bare := by rw [hy]; rfl
    unfold Op.id
    rw [h]
  obtain ⟨ix, h1, h2, h3⟩ := id_mk x.by_ x.sq x.op.id
  refine ⟨ix, fun w' h => ?_, fun w' h => ?_⟩
  · rw [h1, h2, h3]
    exact id_any x w' h xok
  · have k := id_any y w' h yok
    rw [d1, d2, d3] at k
    rw [h1, h2, h3]
    exact k

theorem cardsFrom_get (l : List Int) : ∀ (i k : Nat) (m : Int), l[k]? = some m → (cardsFrom i l)[k]? = some (cardOf (i + k) m) := by
  induction l with
  | nil => intro i k m h; simp at h
  | cons x r ih =>
    intro i k m h
    cases k with
    | zero => simp at h; subst h; rfl
    | succ k =>
      have h' := ih (i + 1) k m (by simpa using h)
      rw [show i + 1 + k = i + (k + 1) by omega] at h'
      simpa [cardsFrom] using h'
/-- Card k among what lies there. -/
theorem card_at {w w' : World} {base n c k : Nat} {A : Option Addr} {l : List Int} (h : Own w base 62 5 A n c ((cardsFrom 0 l).flatMap Cd.cells)) (hf : Fr Non w w') {m : Int} (hk : l[k]? = some m) :
    ∃ b off, A = some ⟨b, off, none⟩ ∧ w'.cell? ⟨b, off + k * 5, none⟩ = some (.int .i64 ((k : Int) + 1)) ∧ w'.cell? ⟨b, off + k * 5 + 1, none⟩ = some (.int .i64 m) ∧ w'.cell? ⟨b, off + k * 5 + 2, none⟩ = some (.int .u64 ((cardOf k m).l : Int)) ∧
      w'.cell? ⟨b, off + k * 5 + 3, none⟩ = some (.int .u64 ((cardOf k m).k : Int)) ∧ w'.cell? ⟨b, off + k * 5 + 4, none⟩ = some (.int .u64 ((cardOf k m).s : Int)) := by
  have hg := cardsFrom_get l 0 k m hk
  rw [Nat.zero_add] at hg
  obtain ⟨b, off, e, _, hc⟩ := el_at (f := Cd.cells) (fun _ => rfl) (by omega) (h.rd.fr hf (fun _ _ e => e)) hg
  generalize hq : cardOf k m = q at *
  have e1 : q.d = (k : Int) + 1 := by rw [← hq]; rfl
  have e2 : q.m = m := by rw [← hq]; rfl
  refine ⟨b, off, e, ?_, ?_, hc 2 (by omega) _ rfl, hc 3 (by omega) _ rfl, hc 4 (by omega) _ rfl⟩
  · rw [← e1]
    exact hc 0 (by omega) _ rfl
  · have h1 := hc 1 (by omega) (.int .i64 q.m) rfl
    rw [e2] at h1
    exact h1
theorem cd_s (d m : Int) (l k s : Nat) : (Cd.mk d m l k s).s = s := rfl
theorem card_s (k : Nat) (m : Int) : (cardOf k m).s = Sg.pub (sec lSign (k + 1)) := cd_s _ _ _ _ _
theorem pub_lt (n : Nat) : Sg.pub n < 18446744073709551616 := by
  have h := Fd.pow_lt 37 n
  unfold Sg.pub
  generalize Fd.pow 37 n = z at *
  omega
theorem op_r {y : OpL} {o : Op} {r s : Nat} (hy : y.op = { o with r := r, s := s }) : y.by_ = o.by_ ∧ y.r = r ∧ y.s = s ∧ y.op.bare = o.bare := by
  have h1 := congrArg Op.by_ hy
  have h2 := congrArg Op.r hy
  have h3 := congrArg Op.s hy
  exact ⟨h1, h2, h3, by rw [hy]; rfl⟩
theorem own_of {x y : OpL} (V k : Nat) (hy : y.op = { x.op with r := Sg.r V x.op.bare, s := Sg.s V x.op.bare }) (m : Int) (hV : sec lSign (k + 1) = V) (hlt : V < 2305843009213693950) : Sg.check (cardOf k m).s y.op.bare y.r y.s = true := by
  obtain ⟨_, e3, e4, e2⟩ := op_r hy
  rw [card_s, hV, e2, e3, e4]
  exact Sg.takes V _ (Nat.lt_trans hlt (by decide))
/-- Whose it is that was signed. -/
theorem ver_of {x y : OpL} (V kb k : Nat) (hy : y.op = { x.op with r := Sg.r V x.op.bare, s := Sg.s V x.op.bare }) (m : Int) (hx : x.by_ = (kb : Int) + 1) (hV : sec lSign (kb + 1) = V) (hlt : V < 2305843009213693950) :
    ((y.by_ == (k : Int) + 1) && Sg.check (cardOf k m).s y.op.bare y.r y.s) = ((k : Int) + 1 == x.by_) := by
  have e0 : y.by_ = x.by_ := (op_r hy).1
  rw [e0]
  by_cases h : x.by_ = (k : Int) + 1
  · have hk : k = kb := by omega
    subst hk
    rw [own_of V k hy m hV hlt, show (x.by_ == (k : Int) + 1) = true from beq_iff_eq.2 h, show ((k : Int) + 1 == x.by_) = true from beq_iff_eq.2 h.symm]
    rfl
  · rw [show (x.by_ == (k : Int) + 1) = false from beq_eq_false_iff_ne.2 h, show ((k : Int) + 1 == x.by_) = false from beq_eq_false_iff_ne.2 (fun e => h e.symm)]
    rfl

set_option maxRecDepth 100000 in
set_option maxHeartbeats 80000000 in
theorem opSigns_law (Al : Option Addr) (cl : Nat) (l : List Int) (how n : Int) (w : World) (hk : KindsAt w) (hrl : Rd w w.heap.size 1 Al l.length (l.map Iv)) (hlc : l.length ≤ cl) (hlc' : cl ≤ 9223372036854775807) (hok : ∀ x ∈ l, I64 x)
    (h0 : -9223372036854775808 ≤ how) (h1 : how ≤ 9223372036854775807) (n0 : -9223372036854775808 ≤ n) (n1 : n ≤ 9223372036854775807) :
    Calls Tryz.prog 5 #[.slice Al l.length cl, .int .i64 how, .int .i64 n] w (BoolPost true w) := by
  have hi : (Tryz.prog.info? 35).map (·.size) = some 27 := by kernel_rfl
  have hok' := Lib.hid hok
  clear hok
  obtain ⟨nl, hnl⟩ := hid_ex l.length
  rw [hnl.out] at hrl hlc ⊢
  obtain ⟨BB, hBB⟩ := hid_ex w.heap.size
  have hbw := Nat.le_of_eq hBB.out
  have fr00 : Fr Non w (w.alloc (.cells #[.int .i64 1, .int .i64 1, .int .i64 2, .int .i64 2, .int .i64 3, .int .i64 3] 3)) := (Fr.refl Non w).alloc _
  have hrc : Rd (w.alloc (.cells #[.int .i64 1, .int .i64 1, .int .i64 2, .int .i64 2, .int .i64 3, .int .i64 3] 3)) (w.alloc (.cells #[.int .i64 1, .int .i64 1, .int .i64 2, .int .i64 2, .int .i64 3, .int .i64 3] 3)).heap.size 1 (some ⟨w.heap.size, 0, none⟩) 6 (([1, 1, 2, 2, 3, 3] : List Int).map Iv) := Rd.blk (n := 6) (size := 1) (l := [.int .i64 1, .int .i64 1, .int .i64 2, .int .i64 2, .int .i64 3, .int .i64 3]) (Blk.new w 3 _) rfl
  have hrl0 := hrl.fr fr00 (fun _ _ e => e)
  have kc := Lib.hid (cards_any 6 6 (some ⟨w.heap.size, 0, none⟩) [1, 1, 2, 2, 3, 3] _ rfl (by omega) hrc)
  have hlen6 : (cardsFrom 0 [1, 1, 2, 2, 3, 3]).length = 6 := cardsFrom_len _ _
  go_enter Tryz.func5, Tryz.ntmps5
  go_wp2_with (fail)
  refine kc.out.mono ?_
  rintro _ wc ⟨Ac, cc, rfl, cown, fc⟩
  have hrlc := hrl0.fr fc (fun _ _ e => e)
  have frc := fr00.trans fc (fun _ _ e => e)
  have hsw := fr00.size
  clear hrc hrl hrl0 kc fr00 fc
  go_wp2_with (fail)
  refine (gen_any _ nl cl Al l _ hnl hrlc hlc hlc' hok').mono ?_
  rintro _ w1 ⟨x, rfl, xby, _, xchk, xr, xs, xown, f1⟩
  have xok := gen_ok xchk xr xs
  have xat := xown.at
  have xfew := few_of_chk xchk
  have hby : 1 ≤ x.by_ ∧ x.by_ ≤ 6 := by
    rw [xby]
    have h := nx_bd (l.take 60) 1 (m := 6) (by omega)
    omega
  have honex := one_cells x
  have hz1 := Blk.new w1 35 OpL.zero.cells
  have cown1 := cown.fr f1 (fun _ _ e => e)
  clear xchk xr xs xown hrlc hlc hlc' hok' hnl cown xby
  go_upto_region 3 with (first | (refine wpList_store_new rfl 35 (.tmp 8) (.tmp 16) rfl rfl rfl rfl hz1 hi rfl honex ?_; intro w3 hb3 hf3 hs3))
  have fx3 : Fr Non w1 w3 := ((Fr.refl Non w1).alloc (.cells OpL.zero.cells 35)).trans hf3 (fun k hk e => by have e' : k = w1.heap.size := e; omega)
  have fr3 := (frc.trans f1 (fun _ _ e => e)).trans fx3 (fun _ _ e => e)
  have xat3 := OpL.frame xat fx3
  have cown3 := cown1.fr fx3 (fun _ _ e => e)
  clear hz1 hf3 hs3 f1 fx3 xat cown1 honex frc hsw
  generalize w1.heap.size = ga at *
  obtain ⟨kb, hkb, hkb6⟩ : ∃ kb : Nat, x.by_ = (kb : Int) + 1 ∧ kb < 6 := ⟨(x.by_ - 1).toNat, by omega, by omega⟩
  have hu : IntKind.u64.wrap x.by_ = ((kb + 1 : Nat) : Int) := by rw [IntKind.wrap_u64]; omega
  have lp := few_len xfew (by omega)
  have hV := sec_lt lSign (kb + 1)
  have k1 : Hid (∀ w' : World, Calls Tryz.prog 16 #[.string ⟨#[115, 105, 103, 110]⟩, .int .i64 x.by_] w' (PowPost (sec lSign (kb + 1)) w')) := fun w' => secret11_any lSign x.by_ (kb + 1) w' hu (by omega) (by decide)
  have k2 := Lib.hid (fun w' (h : x.at w' w'.heap.size) => opsign_any (sec lSign (kb + 1)) x w' (by omega) h xok (by omega))
  have k3 := Lib.hid (fun w' (h : x.at w' w'.heap.size) => signed11_any x (kb + 1) w' hu (by omega) h xok)
  have sok := sig_ok xok (sec lSign (kb + 1))
  obtain ⟨V, hVV⟩ := hid_ex (sec lSign (kb + 1))
  rw [hVV.out] at k1 k2 k3 sok hV
  unfold SignedP at k2
  unfold SignedAt at k3
  have ba0 : Blk w3.drew ga 35 x.cells := hb3
  have xd0 := OpL.frame xat3 ((Fr.refl Non w3).drew)
  have fr0 : Fr Non w3.drew w3.drew := Fr.refl _ _
  have hu' := Lib.hid hu
  have hkb' := Lib.hid hkb
  clear hu hkb lp hby
  have hlx := ldS_blk (P := Tryz.prog) ga 35 Tryz.underlying35 rfl (cs := x.cells) hi
  obtain ⟨bw, hbw3⟩ := hid_ex w3.heap.size
  apply use_fin
  case h =>
    intro fin
    refine wp_region_held_drew (S := fun w' => Blk w' ga 35 x.cells) (by kernel_rfl) ba0 (fun _ => ?_)
    refine wpAnyH_take (i := 0) (v := ?_) rfl (by kernel_rfl) (by kernel_rfl) (by kernel_rfl) (fun _ _ _ h => h) (Or.inl ⟨by kernel_rfl, ?_⟩) ba0 ?_
    rotate_left
    focus (intro w' hSw; have b1 := hSw; (try dsimp only at b1); go_simp; (try with_reducible rfl))
    try simp only [put_lit, List.set]
    refine wpAnyH_take (i := 1) (v := ?_) rfl (by kernel_rfl) (by kernel_rfl) (by kernel_rfl) (fun _ _ _ h => h) (Or.inl ⟨by kernel_rfl, ?_⟩) ba0 ?_
    rotate_left
    focus (intro w' hSw; have b1 := hSw; (try dsimp only at b1); have q : w'.cell? ⟨ga, 0, none⟩ = some (.int .i64 x.by_) := b1.cell 0; go_simp; (try with_reducible rfl))
    try simp only [put_lit, List.set]
    refine wpAnyH_take (i := 3) (v := ?_) rfl (by kernel_rfl) (by kernel_rfl) (by kernel_rfl) (fun _ _ _ h => h) (Or.inl ⟨by kernel_rfl, ?_⟩) ba0 ?_
    rotate_left
    focus (intro w' hSw; have b1 := hSw; (try dsimp only at b1); go_simp; (try with_reducible rfl))
    try simp only [put_lit, List.set]
    refine wpAnyH_ready (rs := [2, 5]) (by kernel_rfl) (by simp) ?_
    refine AllReadyH.cons rfl (fun K hK => ?_) ?_
    · refine want_pos (by kernel_rfl) ?_
      go_simp
      go_wp2_with (go_at_call 16; (with_reducible refine (k1.out _).mono ?_); rintro _ u1 ⟨rfl, f1⟩)
      have ba1 := ba0.fr f1 (fun e => e)
      have xd1 := OpL.frame xd0 f1
      have fr1 := fr0.trans f1 (fun _ _ e => e)
      refine hK.out _ _ ba1 (fun _ => ?_)
      clear hK K
      try simp only [put_lit, List.set]
      refine wpAnyH_ready (rs := [4, 5]) (by kernel_rfl) (by simp) ?_
      refine AllReadyH.cons rfl (fun K hK => ?_) ?_
      · refine want_pos (by kernel_rfl) ?_
        go_simp
        go_wp2_with (go_at_call 15; (with_reducible refine (k2.out _ xd1).mono ?_); rintro _ u2 ⟨y, rfl, hyop, yown, f2⟩)
        have ba2 := ba1.fr f2 (fun e => e)
        have xd2 := OpL.frame xd1 f2
        have fr2 := fr1.trans f2 (fun _ _ e => e)
        refine hK.out _ _ ba2 (fun _ => ?_)
        clear hK K
        try simp only [put_lit, List.set]
        refine wpAnyH_only2 5 (by kernel_rfl) rfl (by kernel_rfl) (fun K hK => ?_)
        go_simp
        have bz3 := Blk.new u2 35 #[.int .i64 0, .int .i64 0, .int .i64 0, .int .i64 0, .slice none 0 0, .int .i64 0, .int .i64 0, .int .i64 0, .int .i64 0, .slice none 0 0, .int .i64 0, .int .i64 0, .int .u64 0, .int .i64 0, .slice none 0 0, .slice none 0 0, .int .i64 0, .int .i64 0, .int .u64 0, .slice none 0 0, .int .i64 0, .int .i64 0, .slice none 0 0, .int .u64 0, .slice none 0 0, .int .u64 0, .int .u64 0]
        have fa3 : Fr Non u2 (u2.alloc (.cells #[.int .i64 0, .int .i64 0, .int .i64 0, .int .i64 0, .slice none 0 0, .int .i64 0, .int .i64 0, .int .i64 0, .int .i64 0, .slice none 0 0, .int .i64 0, .int .i64 0, .int .u64 0, .int .i64 0, .slice none 0 0, .slice none 0 0, .int .i64 0, .int .i64 0, .int .u64 0, .slice none 0 0, .int .i64 0, .int .i64 0, .slice none 0 0, .int .u64 0, .slice none 0 0, .int .u64 0, .int .u64 0] 35)) := (Fr.refl Non _).alloc _
        have ba3 := ba2.fr fa3 (fun e => e)
        have xd3 := OpL.frame xd2 fa3
        have fr3 := fr2.trans fa3 (fun _ _ e => e)
        refine hK.out _ _ ba3 (fun _ => ?_)
        clear hK K
        try simp only [put_lit, List.set]
        have bz := bz3
        have hgs : w3.drew.heap.size ≤ u2.heap.size := fr2.size
        have hga : ga ≠ u2.heap.size := Nat.ne_of_lt ba2.lt
        have yo := yown.keep fa3 (fun _ _ _ _ _ e => e.elim)
        have hlow : bw ≤ u1.heap.size := by rw [← hbw3.out]; exact fr1.size
        refine wpAnyH_only2 6 (by kernel_rfl) rfl (by kernel_rfl) (fun K hK => ?_)
        have honey := one_cells y
        refine oper_store_row 35 (.tmp 9) (.tmp 21) (g := u2.heap.size) (cs := y.cells) rfl rfl (by rfl) (by rfl) bz hi rfl honey ?_
        have hne : ga ≠ u2.heap.size := hga
        have baF := ba3.setRow_far (cs := y.cells) hne
        have bsF := bz.setRow (cs := y.cells)
        have frF := fr3.setRow (g := u2.heap.size) (fun h => absurd h (Nat.not_lt.2 hgs)) y.cells
        have yoF := (yo.keep ((Fr.refl (One (u2.heap.size)) (u2.alloc (.cells #[.int .i64 0, .int .i64 0, .int .i64 0, .int .i64 0, .slice none 0 0, .int .i64 0, .int .i64 0, .int .i64 0, .int .i64 0, .slice none 0 0, .int .i64 0, .int .i64 0, .int .u64 0, .int .i64 0, .slice none 0 0, .slice none 0 0, .int .i64 0, .int .i64 0, .int .u64 0, .slice none 0 0, .int .i64 0, .int .i64 0, .slice none 0 0, .int .u64 0, .slice none 0 0, .int .u64 0, .int .u64 0] 35))).setRow (g := u2.heap.size) (fun _ => rfl) y.cells) ((Types.one bz).mono (fun t e => .inl e))).lower hlow
        refine hK.out _ _ baF (fun hzz => ?_)
        clear hK K hzz
        refine wpAnyH_done (by kernel_rfl) ?_ _
        go_simp
        clear hne honey bz hgs hga hlow yo yown
        revert yoF frF bsF baF hyop
        generalize (u2.alloc (.cells #[.int .i64 0, .int .i64 0, .int .i64 0, .int .i64 0, .slice none 0 0, .int .i64 0, .int .i64 0, .int .i64 0, .int .i64 0, .slice none 0 0, .int .i64 0, .int .i64 0, .int .u64 0, .int .i64 0, .slice none 0 0, .slice none 0 0, .int .i64 0, .int .i64 0, .int .u64 0, .slice none 0 0, .int .i64 0, .int .i64 0, .slice none 0 0, .int .u64 0, .slice none 0 0, .int .u64 0, .int .u64 0] 35)).setRow (u2.heap.size) y.cells = wF
        generalize u2.heap.size = gs
        revert wF gs y
        exact fin
      refine AllReadyH.cons rfl (fun K hK => ?_) AllReadyH.nil
      · refine want_pos (by kernel_rfl) ?_
        go_simp
        have bz2 := Blk.new u1 35 #[.int .i64 0, .int .i64 0, .int .i64 0, .int .i64 0, .slice none 0 0, .int .i64 0, .int .i64 0, .int .i64 0, .int .i64 0, .slice none 0 0, .int .i64 0, .int .i64 0, .int .u64 0, .int .i64 0, .slice none 0 0, .slice none 0 0, .int .i64 0, .int .i64 0, .int .u64 0, .slice none 0 0, .int .i64 0, .int .i64 0, .slice none 0 0, .int .u64 0, .slice none 0 0, .int .u64 0, .int .u64 0]
        have fa2 : Fr Non u1 (u1.alloc (.cells #[.int .i64 0, .int .i64 0, .int .i64 0, .int .i64 0, .slice none 0 0, .int .i64 0, .int .i64 0, .int .i64 0, .int .i64 0, .slice none 0 0, .int .i64 0, .int .i64 0, .int .u64 0, .int .i64 0, .slice none 0 0, .slice none 0 0, .int .i64 0, .int .i64 0, .int .u64 0, .slice none 0 0, .int .i64 0, .int .i64 0, .slice none 0 0, .int .u64 0, .slice none 0 0, .int .u64 0, .int .u64 0] 35)) := (Fr.refl Non _).alloc _
        have ba2 := ba1.fr fa2 (fun e => e)
        have xd2 := OpL.frame xd1 fa2
        have fr2 := fr1.trans fa2 (fun _ _ e => e)
        refine hK.out _ _ ba2 (fun _ => ?_)
        clear hK K
        try simp only [put_lit, List.set]
        refine wpAnyH_only2 4 (by kernel_rfl) rfl (by kernel_rfl) (fun K hK => ?_)
        go_simp
        go_wp2_with (go_at_call 15; (with_reducible refine (k2.out _ xd2).mono ?_); rintro _ u3 ⟨y, rfl, hyop, yown, f3⟩)
        have ba3 := ba2.fr f3 (fun e => e)
        have xd3 := OpL.frame xd2 f3
        have fr3 := fr2.trans f3 (fun _ _ e => e)
        refine hK.out _ _ ba3 (fun _ => ?_)
        clear hK K
        try simp only [put_lit, List.set]
        have bz := bz2.fr f3 (fun e => e)
        have hgs : w3.drew.heap.size ≤ u1.heap.size := fr1.size
        have hga : ga ≠ u1.heap.size := Nat.ne_of_lt ba1.lt
        have yo := yown
        have hlow : bw ≤ (u1.alloc (.cells #[.int .i64 0, .int .i64 0, .int .i64 0, .int .i64 0, .slice none 0 0, .int .i64 0, .int .i64 0, .int .i64 0, .int .i64 0, .slice none 0 0, .int .i64 0, .int .i64 0, .int .u64 0, .int .i64 0, .slice none 0 0, .slice none 0 0, .int .i64 0, .int .i64 0, .int .u64 0, .slice none 0 0, .int .i64 0, .int .i64 0, .slice none 0 0, .int .u64 0, .slice none 0 0, .int .u64 0, .int .u64 0] 35)).heap.size := by rw [← hbw3.out]; exact fr2.size
        refine wpAnyH_only2 6 (by kernel_rfl) rfl (by kernel_rfl) (fun K hK => ?_)
        have honey := one_cells y
        refine oper_store_row 35 (.tmp 9) (.tmp 21) (g := u1.heap.size) (cs := y.cells) rfl rfl (by rfl) (by rfl) bz hi rfl honey ?_
        have hne : ga ≠ u1.heap.size := hga
        have baF := ba3.setRow_far (cs := y.cells) hne
        have bsF := bz.setRow (cs := y.cells)
        have frF := fr3.setRow (g := u1.heap.size) (fun h => absurd h (Nat.not_lt.2 hgs)) y.cells
        have yoF := (yo.keep ((Fr.refl (One (u1.heap.size)) (u3)).setRow (g := u1.heap.size) (fun _ => rfl) y.cells) ((Types.one bz).mono (fun t e => .inl e))).lower hlow
        refine hK.out _ _ baF (fun hzz => ?_)
        clear hK K hzz
        refine wpAnyH_done (by kernel_rfl) ?_ _
        go_simp
        clear hne honey bz hgs hga hlow yo yown
        revert yoF frF bsF baF hyop
        generalize (u3).setRow (u1.heap.size) y.cells = wF
        generalize u1.heap.size = gs
        revert wF gs y
        exact fin
    refine AllReadyH.cons rfl (fun K hK => ?_) AllReadyH.nil
    · refine want_pos (by kernel_rfl) ?_
      go_simp
      have bz1 := Blk.new w3.drew 35 #[.int .i64 0, .int .i64 0, .int .i64 0, .int .i64 0, .slice none 0 0, .int .i64 0, .int .i64 0, .int .i64 0, .int .i64 0, .slice none 0 0, .int .i64 0, .int .i64 0, .int .u64 0, .int .i64 0, .slice none 0 0, .slice none 0 0, .int .i64 0, .int .i64 0, .int .u64 0, .slice none 0 0, .int .i64 0, .int .i64 0, .slice none 0 0, .int .u64 0, .slice none 0 0, .int .u64 0, .int .u64 0]
      have fa1 : Fr Non w3.drew (w3.drew.alloc (.cells #[.int .i64 0, .int .i64 0, .int .i64 0, .int .i64 0, .slice none 0 0, .int .i64 0, .int .i64 0, .int .i64 0, .int .i64 0, .slice none 0 0, .int .i64 0, .int .i64 0, .int .u64 0, .int .i64 0, .slice none 0 0, .slice none 0 0, .int .i64 0, .int .i64 0, .int .u64 0, .slice none 0 0, .int .i64 0, .int .i64 0, .slice none 0 0, .int .u64 0, .slice none 0 0, .int .u64 0, .int .u64 0] 35)) := (Fr.refl Non _).alloc _
      have ba1 := ba0.fr fa1 (fun e => e)
      have xd1 := OpL.frame xd0 fa1
      have fr1 := fr0.trans fa1 (fun _ _ e => e)
      refine hK.out _ _ ba1 (fun _ => ?_)
      clear hK K
      try simp only [put_lit, List.set]
      refine wpAnyH_only2 2 (by kernel_rfl) rfl (by kernel_rfl) (fun K hK => ?_)
      go_simp
      go_wp2_with (go_at_call 16; (with_reducible refine (k1.out _).mono ?_); rintro _ u2 ⟨rfl, f2⟩)
      have ba2 := ba1.fr f2 (fun e => e)
      have xd2 := OpL.frame xd1 f2
      have fr2 := fr1.trans f2 (fun _ _ e => e)
      refine hK.out _ _ ba2 (fun _ => ?_)
      clear hK K
      try simp only [put_lit, List.set]
      refine wpAnyH_only2 4 (by kernel_rfl) rfl (by kernel_rfl) (fun K hK => ?_)
      go_simp
      go_wp2_with (go_at_call 15; (with_reducible refine (k2.out _ xd2).mono ?_); rintro _ u3 ⟨y, rfl, hyop, yown, f3⟩)
      have ba3 := ba2.fr f3 (fun e => e)
      have xd3 := OpL.frame xd2 f3
      have fr3 := fr2.trans f3 (fun _ _ e => e)
      refine hK.out _ _ ba3 (fun _ => ?_)
      clear hK K
      try simp only [put_lit, List.set]
      have bz : Blk u3 w3.heap.size 35 #[.int .i64 0, .int .i64 0, .int .i64 0, .int .i64 0, .slice none 0 0, .int .i64 0, .int .i64 0, .int .i64 0, .int .i64 0, .slice none 0 0, .int .i64 0, .int .i64 0, .int .u64 0, .int .i64 0, .slice none 0 0, .slice none 0 0, .int .i64 0, .int .i64 0, .int .u64 0, .slice none 0 0, .int .i64 0, .int .i64 0, .slice none 0 0, .int .u64 0, .slice none 0 0, .int .u64 0, .int .u64 0] := (bz1.fr f2 (fun e => e)).fr f3 (fun e => e)
      have hgs : w3.drew.heap.size ≤ w3.heap.size := Nat.le_refl _
      have hga : ga ≠ w3.heap.size := Nat.ne_of_lt ba0.lt
      have yo := yown
      have hlow : bw ≤ u2.heap.size := by rw [← hbw3.out]; exact fr2.size
      refine wpAnyH_only2 6 (by kernel_rfl) rfl (by kernel_rfl) (fun K hK => ?_)
      have honey := one_cells y
      refine oper_store_row 35 (.tmp 9) (.tmp 21) (g := w3.heap.size) (cs := y.cells) rfl rfl (by rfl) (by rfl) bz hi rfl honey ?_
      have hne : ga ≠ w3.heap.size := hga
      have baF := ba3.setRow_far (cs := y.cells) hne
      have bsF := bz.setRow (cs := y.cells)
      have frF := fr3.setRow (g := w3.heap.size) (fun h => absurd h (Nat.not_lt.2 hgs)) y.cells
      have yoF := (yo.keep ((Fr.refl (One (w3.heap.size)) (u3)).setRow (g := w3.heap.size) (fun _ => rfl) y.cells) ((Types.one bz).mono (fun t e => .inl e))).lower hlow
      refine hK.out _ _ baF (fun hzz => ?_)
      clear hK K hzz
      refine wpAnyH_done (by kernel_rfl) ?_ _
      go_simp
      clear hne honey bz hgs hga hlow yo yown
      revert yoF frF bsF baF hyop
      generalize (u3).setRow (w3.heap.size) y.cells = wF
      generalize w3.heap.size = gs
      revert wF gs y
      exact fin
  case hp =>
    intro y wF gs hyop baF bsF frF yoF
    have yok : y.op.ok := by rw [hyop]; exact sok
    have yat := yoF.at
    obtain ⟨ix, kix0, kiy0⟩ := ids_sig x y _ _ hyop xok yok
    have kix := Lib.hid kix0
    have kiy := Lib.hid kiy0
    have xF := OpL.frame xd0 frF
    have hyH := Lib.hid hyop
    clear kix0 kiy0 ba0 xd0 k1 k2 hyop
    have fr0 : Fr Non w3 wF.drew := (((Fr.refl Non w3).drew).trans frF (fun _ _ e => e)).drew
    have ba0 : Blk wF.drew ga 35 x.cells := baF
    have bs0 : Blk wF.drew gs 35 y.cells := bsF
    have xd0 := OpL.frame xF ((Fr.refl Non wF).drew)
    have yd0 := OpL.frame yat ((Fr.refl Non wF).drew)
    have hly := ldS_blk (P := Tryz.prog) gs 35 Tryz.underlying35 rfl (cs := y.cells) hi
    have hm := eqGuard_ident
    clear xF yat baF bsF frF yoF
    go_upto_region 4 with (fail)
    refine wp_region_held_drew (S := fun w' => Blk w' gs 35 y.cells ∧ Blk w' ga 35 x.cells) (by kernel_rfl) ⟨bs0, ba0⟩ (fun _ => ?_)
    refine wpAnyH_take (i := 0) (v := ?_) rfl (by kernel_rfl) (by kernel_rfl) (by kernel_rfl) (fun _ _ _ h => h) (Or.inl ⟨by kernel_rfl, ?_⟩) ⟨bs0, ba0⟩ ?_
    rotate_left
    focus (intro w' hSw; have b1 := hSw.1; have b2 := hSw.2; go_simp; (try with_reducible rfl))
    try simp only [put_lit, List.set]
    refine wpAnyH_take (i := 1) (v := ?_) rfl (by kernel_rfl) (by kernel_rfl) (by kernel_rfl) (fun _ _ _ h => h) (Or.inl ⟨by kernel_rfl, ?_⟩) ⟨bs0, ba0⟩ ?_
    rotate_left
    focus (intro w' hSw; have b1 := hSw.1; have b2 := hSw.2; go_simp; (try with_reducible rfl))
    try simp only [put_lit, List.set]
    refine wpAnyH_only2 2 (by kernel_rfl) rfl (by kernel_rfl) (fun K hK => ?_)
    go_simp
    go_wp2_with (go_at_call 21; (with_reducible refine (k3.out _ xd0).mono ?_); rintro _ v1 ⟨z, rfl, hzop, hzat1, f1⟩; have bs1 := bs0.fr f1 (fun e => e); have ba1 := ba0.fr f1 (fun e => e); have yd1 := OpL.frame yd0 f1; have xd1 := OpL.frame xd0 f1; have fr1 := fr0.trans f1 (fun _ _ e => e))
    refine hK.out _ _ ⟨bs1, ba1⟩ (fun _ => ?_)
    clear hK K
    try simp only [put_lit, List.set]
    have k4 := Lib.hid (fun w' (h : y.at w' w'.heap.size) (k : z.at w' w'.heap.size) => sameop_any y z w' h yok k (by rw [hzop]; exact sok))
    rw [hzop, hyH.out, beq_self_eq_true] at k4
    clear hzop
    refine wpAnyH_only2 3 (by kernel_rfl) rfl (by kernel_rfl) (fun K hK => ?_)
    go_simp
    go_wp2_with (go_at_call 20; (with_reducible refine (k4.out _ yd1 hzat1).mono ?_); rintro _ v2 ⟨rfl, f2⟩; have bs2 := bs1.fr f2 (fun e => e); have ba2 := ba1.fr f2 (fun e => e); have yd2 := OpL.frame yd1 f2; have xd2 := OpL.frame xd1 f2; have fr2 := fr1.trans f2 (fun _ _ e => e); have hzat2 := OpL.frame hzat1 f2)
    refine hK.out _ _ ⟨bs2, ba2⟩ (fun _ => ?_)
    clear hK K
    try simp only [put_lit, List.set]
    refine wpAnyH_take (i := 4) (v := ?_) rfl (by kernel_rfl) (by kernel_rfl) (by kernel_rfl) (fun _ _ _ h => h) (Or.inl ⟨by kernel_rfl, ?_⟩) ⟨bs2, ba2⟩ ?_
    rotate_left
    focus (intro w' hSw; have b1 := hSw.1; have b2 := hSw.2; go_simp; (try with_reducible rfl))
    try simp only [put_lit, List.set]
    refine wpAnyH_take (i := 5) (v := ?_) rfl (by kernel_rfl) (by kernel_rfl) (by kernel_rfl) (fun _ _ _ h => h) (Or.inl ⟨by kernel_rfl, ?_⟩) ⟨bs2, ba2⟩ ?_
    rotate_left
    focus (intro w' hSw; have b1 := hSw.1; have b2 := hSw.2; go_simp; (try with_reducible rfl))
    try simp only [put_lit, List.set]
    refine wpAnyH_take (i := 6) (v := ?_) rfl (by kernel_rfl) (by kernel_rfl) (by kernel_rfl) (fun _ _ _ h => h) (Or.inl ⟨by kernel_rfl, ?_⟩) ⟨bs2, ba2⟩ ?_
    rotate_left
    focus (intro w' hSw; have b1 := hSw.1; have b2 := hSw.2; go_simp; (try with_reducible rfl))
    try simp only [put_lit, List.set]
    refine wpAnyH_take (i := 8) (v := ?_) rfl (by kernel_rfl) (by kernel_rfl) (by kernel_rfl) (fun _ _ _ h => h) (Or.inl ⟨by kernel_rfl, ?_⟩) ⟨bs2, ba2⟩ ?_
    rotate_left
    focus (intro w' hSw; have b1 := hSw.1; have b2 := hSw.2; go_simp; (try with_reducible rfl))
    try simp only [put_lit, List.set]
    refine wpAnyH_only2 7 (by kernel_rfl) rfl (by kernel_rfl) (fun K hK => ?_)
    go_simp
    go_wp2_with (go_at_call 22; (with_reducible refine (kiy.out _ yd2).mono ?_); rintro _ v3 ⟨rfl, f3⟩; have bs3 := bs2.fr f3 (fun e => e); have ba3 := ba2.fr f3 (fun e => e); have yd3 := OpL.frame yd2 f3; have xd3 := OpL.frame xd2 f3; have fr3 := fr2.trans f3 (fun _ _ e => e); have hzat3 := OpL.frame hzat2 f3)
    refine hK.out _ _ ⟨bs3, ba3⟩ (fun _ => ?_)
    clear hK K
    try simp only [put_lit, List.set]
    refine wpAnyH_only2 9 (by kernel_rfl) rfl (by kernel_rfl) (fun K hK => ?_)
    go_simp
    go_wp2_with (go_at_call 22; (with_reducible refine (kix.out _ xd3).mono ?_); rintro _ v4 ⟨rfl, f4⟩; have bs4 := bs3.fr f4 (fun e => e); have ba4 := ba3.fr f4 (fun e => e); have yd4 := OpL.frame yd3 f4; have xd4 := OpL.frame xd3 f4; have fr4 := fr3.trans f4 (fun _ _ e => e); have hzat4 := OpL.frame hzat3 f4)
    refine hK.out _ _ ⟨bs4, ba4⟩ (fun _ => ?_)
    clear hK K
    try simp only [put_lit, List.set]
    refine wpAnyH_take (i := 10) (v := ?_) rfl (by kernel_rfl) (by kernel_rfl) (by kernel_rfl) (fun _ _ _ h => h) (Or.inl ⟨by kernel_rfl, ?_⟩) ⟨bs4, ba4⟩ ?_
    rotate_left
    focus (intro w' hSw; have b1 := hSw.1; have b2 := hSw.2; go_simp; (try with_reducible rfl))
    try simp only [put_lit, List.set]
    refine wpAnyH_take (i := 11) (v := ?_) rfl (by kernel_rfl) (by kernel_rfl) (by kernel_rfl) (fun _ _ _ h => h) (Or.inl ⟨by kernel_rfl, ?_⟩) ⟨bs4, ba4⟩ ?_
    rotate_left
    focus (intro w' hSw; have b1 := hSw.1; have b2 := hSw.2; go_simp; (try with_reducible rfl))
    try simp only [put_lit, List.set]
    refine wpAnyH_done (by kernel_rfl) ?_ _
    go_simp
    go_upto_region 6 with (fail)
    have hver : Hid (∀ (k : Nat) (m : Int) (w' : World), k < 6 → y.at w' w'.heap.size → Calls Tryz.prog 23 #[.agg #[.int .i64 ((k : Int) + 1), .int .i64 m, .int .u64 ((cardOf k m).l : Int), .int .u64 ((cardOf k m).k : Int), .int .u64 ((cardOf k m).s : Int)], .agg y.cells] w' (BoolPost ((k : Int) + 1 == x.by_) w')) := fun k m w' hk6 h => by
      have q := verify_any ((k : Int) + 1) m (cardOf k m).l (cardOf k m).k (cardOf k m).s y w' h yok (by rw [card_s]; exact pub_lt _)
      rw [ver_of V kb k hyH.out m hkb'.out hVV.out hV] at q
      exact q
    have F4 : Fr Non w3 v4 := fr4
    clear k3 k4 kix kiy fr0 fr1 fr2 fr3 fr4 f1 f2 f3 f4 ba0 ba1 ba2 ba3 bs0 bs1 bs2 bs3 xd0 xd1 xd2 xd3 yd0 yd1 yd2 yd3 hm sok
    go_wp2_with (fail)
    go_loopw [10] (fun v wr => ∃ k : Nat, v = .int .i64 (k : Int) ∧ k ≤ 6 ∧ Fr Non v4 wr) (fun v _ => 6 - (intOf v).toNat)
    case atStart => exact ⟨0, rfl, by omega, Fr.refl _ _⟩
    case round =>
      obtain ⟨k, rfl, hk6, hfr⟩ := hrel
      by_cases hlt : k < 6
      · obtain ⟨m, hm⟩ : ∃ m, ([1, 1, 2, 2, 3, 3] : List Int)[k]? = some m := ⟨_, List.getElem?_eq_getElem (by simpa using hlt)⟩
        obtain ⟨b, off, hA, e00, e10, e20, e30, e40⟩ := card_at cown3 ((F4.trans hfr (fun _ _ e => e)).drew) hm
        subst hA
        have kv := Lib.hid (fun w' h => hver.out k m w' hlt h)
        obtain ⟨c2, hc2⟩ := hid_ex (cardOf k m).l
        obtain ⟨c3, hc3⟩ := hid_ex (cardOf k m).k
        obtain ⟨c4, hc4⟩ := hid_ex (cardOf k m).s
        rw [hc2.out] at kv e20
        rw [hc3.out] at kv e30
        rw [hc4.out] at kv e40
        have i1 : (0 : Int) ≤ k := by omega
        have i2 : (k : Int) < 6 := by omega
        have i3 : (k : Int).toNat = k := by omega
        have bs0 : Blk wr.drew gs 35 y.cells := (bs4.fr hfr (fun e => e)).drew
        have ba0 : Blk wr.drew ga 35 x.cells := (ba4.fr hfr (fun e => e)).drew
        have yd0 := OpL.frame (OpL.frame yd4 hfr) ((Fr.refl Non wr).drew)
        have fr0 := hfr.drew
        clear hc2 hc3 hc4 hm
        rcases Bool.eq_false_or_eq_true (((k : Int) + 1) == x.by_) with ht | ht
        all_goals
          rw [ht] at kv
          go_upto_region 9 with (fail)
          refine wp_region_held_drew (S := fun w' => w'.cell? ⟨b, off + k * 5, none⟩ = some (.int .i64 ((k : Int) + 1)) ∧ w'.cell? ⟨b, off + k * 5 + 1, none⟩ = some (.int .i64 m) ∧ w'.cell? ⟨b, off + k * 5 + 2, none⟩ = some (.int .u64 (c2 : Int)) ∧ w'.cell? ⟨b, off + k * 5 + 3, none⟩ = some (.int .u64 (c3 : Int)) ∧ w'.cell? ⟨b, off + k * 5 + 4, none⟩ = some (.int .u64 (c4 : Int)) ∧ Blk w' gs 35 y.cells ∧ Blk w' ga 35 x.cells) (by kernel_rfl) ⟨e00, e10, e20, e30, e40, bs0, ba0⟩ (fun _ => ?_)
          refine wpAnyH_take (i := 0) (v := ?_) rfl (by kernel_rfl) (by kernel_rfl) (by kernel_rfl) (fun _ _ _ h => h) (Or.inl ⟨by kernel_rfl, ?_⟩) ⟨e00, e10, e20, e30, e40, bs0, ba0⟩ ?_
          rotate_left
          focus (intro w' hSw; have b1 := hSw.1; have b2 := hSw.2.1; have b3 := hSw.2.2.1; have b4 := hSw.2.2.2.1; have b5 := hSw.2.2.2.2.1; have b6 := hSw.2.2.2.2.2.1; have b7 := hSw.2.2.2.2.2.2; go_simp; (try with_reducible rfl))
          try simp only [put_lit, List.set]
          refine wpAnyH_take (i := 1) (v := ?_) rfl (by kernel_rfl) (by kernel_rfl) (by kernel_rfl) (fun _ _ _ h => h) (Or.inl ⟨by kernel_rfl, ?_⟩) ⟨e00, e10, e20, e30, e40, bs0, ba0⟩ ?_
          rotate_left
          focus (intro w' hSw; have b1 := hSw.1; have b2 := hSw.2.1; have b3 := hSw.2.2.1; have b4 := hSw.2.2.2.1; have b5 := hSw.2.2.2.2.1; have b6 := hSw.2.2.2.2.2.1; have b7 := hSw.2.2.2.2.2.2; go_simp; (try with_reducible rfl))
          try simp only [put_lit, List.set]
          refine wpAnyH_take (i := 2) (v := ?_) rfl (by kernel_rfl) (by kernel_rfl) (by kernel_rfl) (fun _ _ _ h => h) (Or.inl ⟨by kernel_rfl, ?_⟩) ⟨e00, e10, e20, e30, e40, bs0, ba0⟩ ?_
          rotate_left
          focus (intro w' hSw; have b1 := hSw.1; have b2 := hSw.2.1; have b3 := hSw.2.2.1; have b4 := hSw.2.2.2.1; have b5 := hSw.2.2.2.2.1; have b6 := hSw.2.2.2.2.2.1; have b7 := hSw.2.2.2.2.2.2; go_simp; (try with_reducible rfl))
          try simp only [put_lit, List.set]
          refine wpAnyH_take (i := 3) (v := ?_) rfl (by kernel_rfl) (by kernel_rfl) (by kernel_rfl) (fun _ _ _ h => h) (Or.inl ⟨by kernel_rfl, ?_⟩) ⟨e00, e10, e20, e30, e40, bs0, ba0⟩ ?_
          rotate_left
          focus (intro w' hSw; have b1 := hSw.1; have b2 := hSw.2.1; have b3 := hSw.2.2.1; have b4 := hSw.2.2.2.1; have b5 := hSw.2.2.2.2.1; have b6 := hSw.2.2.2.2.2.1; have b7 := hSw.2.2.2.2.2.2; go_simp; (try with_reducible rfl))
          try simp only [put_lit, List.set]
          refine wpAnyH_take (i := 4) (v := ?_) rfl (by kernel_rfl) (by kernel_rfl) (by kernel_rfl) (fun _ _ _ h => h) (Or.inl ⟨by kernel_rfl, ?_⟩) ⟨e00, e10, e20, e30, e40, bs0, ba0⟩ ?_
          rotate_left
          focus (intro w' hSw; have b1 := hSw.1; have b2 := hSw.2.1; have b3 := hSw.2.2.1; have b4 := hSw.2.2.2.1; have b5 := hSw.2.2.2.2.1; have b6 := hSw.2.2.2.2.2.1; have b7 := hSw.2.2.2.2.2.2; go_simp; (try with_reducible rfl))
          try simp only [put_lit, List.set]
          refine wpAnyH_take (i := 6) (v := ?_) rfl (by kernel_rfl) (by kernel_rfl) (by kernel_rfl) (fun _ _ _ h => h) (Or.inl ⟨by kernel_rfl, ?_⟩) ⟨e00, e10, e20, e30, e40, bs0, ba0⟩ ?_
          rotate_left
          focus (intro w' hSw; have b1 := hSw.1; have b2 := hSw.2.1; have b3 := hSw.2.2.1; have b4 := hSw.2.2.2.1; have b5 := hSw.2.2.2.2.1; have b6 := hSw.2.2.2.2.2.1; have b7 := hSw.2.2.2.2.2.2; go_simp; (try with_reducible rfl))
          try simp only [put_lit, List.set]
          refine wpAnyH_take (i := 7) (v := ?_) rfl (by kernel_rfl) (by kernel_rfl) (by kernel_rfl) (fun _ _ _ h => h) (Or.inl ⟨by kernel_rfl, ?_⟩) ⟨e00, e10, e20, e30, e40, bs0, ba0⟩ ?_
          rotate_left
          focus (intro w' hSw; have b1 := hSw.1; have b2 := hSw.2.1; have b3 := hSw.2.2.1; have b4 := hSw.2.2.2.1; have b5 := hSw.2.2.2.2.1; have b6 := hSw.2.2.2.2.2.1; have b7 := hSw.2.2.2.2.2.2; go_simp; (try with_reducible rfl))
          try simp only [put_lit, List.set]
          refine wpAnyH_take (i := 8) (v := ?_) rfl (by kernel_rfl) (by kernel_rfl) (by kernel_rfl) (fun _ _ _ h => h) (Or.inl ⟨by kernel_rfl, ?_⟩) ⟨e00, e10, e20, e30, e40, bs0, ba0⟩ ?_
          rotate_left
          focus (intro w' hSw; have b1 := hSw.1; have b2 := hSw.2.1; have b3 := hSw.2.2.1; have b4 := hSw.2.2.2.1; have b5 := hSw.2.2.2.2.1; have b6 := hSw.2.2.2.2.2.1; have b7 := hSw.2.2.2.2.2.2; go_simp; (try with_reducible rfl))
          try simp only [put_lit, List.set]
          refine wpAnyH_take (i := 9) (v := ?_) rfl (by kernel_rfl) (by kernel_rfl) (by kernel_rfl) (fun _ _ _ h => h) (Or.inl ⟨by kernel_rfl, ?_⟩) ⟨e00, e10, e20, e30, e40, bs0, ba0⟩ ?_
          rotate_left
          focus (intro w' hSw; have b1 := hSw.1; have b2 := hSw.2.1; have b3 := hSw.2.2.1; have b4 := hSw.2.2.2.1; have b5 := hSw.2.2.2.2.1; have b6 := hSw.2.2.2.2.2.1; have b7 := hSw.2.2.2.2.2.2; go_simp; (try with_reducible rfl))
          try simp only [put_lit, List.set]
          refine wpAnyH_take (i := 10) (v := ?_) rfl (by kernel_rfl) (by kernel_rfl) (by kernel_rfl) (fun _ _ _ h => h) (Or.inl ⟨by kernel_rfl, ?_⟩) ⟨e00, e10, e20, e30, e40, bs0, ba0⟩ ?_
          rotate_left
          focus (intro w' hSw; have b1 := hSw.1; have b2 := hSw.2.1; have b3 := hSw.2.2.1; have b4 := hSw.2.2.2.1; have b5 := hSw.2.2.2.2.1; have b6 := hSw.2.2.2.2.2.1; have b7 := hSw.2.2.2.2.2.2; go_simp; (try with_reducible rfl))
          try simp only [put_lit, List.set]
          refine wpAnyH_take (i := 11) (v := ?_) rfl (by kernel_rfl) (by kernel_rfl) (by kernel_rfl) (fun _ _ _ h => h) (Or.inl ⟨by kernel_rfl, ?_⟩) ⟨e00, e10, e20, e30, e40, bs0, ba0⟩ ?_
          rotate_left
          focus (intro w' hSw; have b1 := hSw.1; have b2 := hSw.2.1; have b3 := hSw.2.2.1; have b4 := hSw.2.2.2.1; have b5 := hSw.2.2.2.2.1; have b6 := hSw.2.2.2.2.2.1; have b7 := hSw.2.2.2.2.2.2; go_simp; (try with_reducible rfl))
          try simp only [put_lit, List.set]
          refine wpAnyH_take (i := 12) (v := ?_) rfl (by kernel_rfl) (by kernel_rfl) (by kernel_rfl) (fun _ _ _ h => h) (Or.inl ⟨by kernel_rfl, ?_⟩) ⟨e00, e10, e20, e30, e40, bs0, ba0⟩ ?_
          rotate_left
          focus (intro w' hSw; have b1 := hSw.1; have b2 := hSw.2.1; have b3 := hSw.2.2.1; have b4 := hSw.2.2.2.1; have b5 := hSw.2.2.2.2.1; have b6 := hSw.2.2.2.2.2.1; have b7 := hSw.2.2.2.2.2.2; have q : w'.cell? ⟨ga, 0, none⟩ = some (.int .i64 x.by_) := b7.cell 0; go_simp; (try with_reducible rfl))
          try simp only [put_lit, List.set]
          refine wpAnyH_take (i := 13) (v := ?_) rfl (by kernel_rfl) (by kernel_rfl) (by kernel_rfl) (fun _ _ _ h => h) (Or.inl ⟨by kernel_rfl, ?_⟩) ⟨e00, e10, e20, e30, e40, bs0, ba0⟩ ?_
          rotate_left
          focus (intro w' hSw; have b1 := hSw.1; have b2 := hSw.2.1; have b3 := hSw.2.2.1; have b4 := hSw.2.2.2.1; have b5 := hSw.2.2.2.2.1; have b6 := hSw.2.2.2.2.2.1; have b7 := hSw.2.2.2.2.2.2; go_simp; (try with_reducible rfl))
          try simp only [put_lit, List.set]
          refine wpAnyH_only2 5 (by kernel_rfl) rfl (by kernel_rfl) (fun K hK => ?_)
          go_simp
          go_wp2_with (go_at_call 23; (with_reducible refine (kv.out _ yd0).mono ?_); rintro _ v1 ⟨rfl, f1⟩; have e01 := f1.cell e00 (fun e => e); have e11 := f1.cell e10 (fun e => e); have e21 := f1.cell e20 (fun e => e); have e31 := f1.cell e30 (fun e => e); have e41 := f1.cell e40 (fun e => e); have bs1 := bs0.fr f1 (fun e => e); have ba1 := ba0.fr f1 (fun e => e); have yd1 := OpL.frame yd0 f1; have fr1 := fr0.trans f1 (fun _ _ e => e))
          refine hK.out _ _ ⟨e01, e11, e21, e31, e41, bs1, ba1⟩ (fun _ => ?_)
          clear hK K
          try simp only [put_lit, List.set]
          refine wpAnyH_take (i := 14) (v := ?_) rfl (by kernel_rfl) (by kernel_rfl) (by kernel_rfl) (fun _ _ _ h => h) (Or.inl ⟨by kernel_rfl, ?_⟩) ⟨e01, e11, e21, e31, e41, bs1, ba1⟩ ?_
          rotate_left
          focus (intro w' hSw; have b1 := hSw.1; have b2 := hSw.2.1; have b3 := hSw.2.2.1; have b4 := hSw.2.2.2.1; have b5 := hSw.2.2.2.2.1; have b6 := hSw.2.2.2.2.2.1; have b7 := hSw.2.2.2.2.2.2; go_simp; (try with_reducible rfl))
          try simp only [put_lit, List.set]
          refine wpAnyH_done (by kernel_rfl) ?_ _
          go_simp
          go_wp2
          go_roundw
          case rel => exact ⟨k + 1, by go_num, by omega, fr1⟩
          case measure => simp [intOf]; omega
      · obtain rfl : k = 6 := by omega
        have hic : (Tryz.prog.info? 62).map (·.size) = some 5 := by kernel_rfl
        obtain ⟨m, hm⟩ : ∃ m, ([1, 1, 2, 2, 3, 3] : List Int)[kb]? = some m := ⟨_, List.getElem?_eq_getElem (by simpa using hkb6)⟩
        obtain ⟨b, off, hA, e00, e10, e20, e30, e40⟩ := card_at cown3 (F4.trans hfr (fun _ _ e => e)) hm
        subst hA
        have kown := Lib.hid (fun (y' : OpL) (w' : World) (ok' : y'.op.ok) (h : y'.at w' w'.heap.size) => verify_any ((kb : Int) + 1) m (cardOf kb m).l (cardOf kb m).k (cardOf kb m).s y' w' h ok' (by rw [card_s]; exact pub_lt _))
        obtain ⟨c2, hc2⟩ := hid_ex (cardOf kb m).l
        obtain ⟨c3, hc3⟩ := hid_ex (cardOf kb m).k
        have hc4l : (cardOf kb m).s < 18446744073709551616 := by rw [card_s]; exact pub_lt _
        obtain ⟨c4, hc4⟩ := hid_ex (cardOf kb m).s
        rw [hc2.out] at kown e20
        rw [hc3.out] at kown e30
        rw [hc4.out] at kown e40 hc4l
        have ba5 := bs4.fr hfr (fun e => e)
        have bs5 := bs4.fr hfr (fun e => e)
        have ba5 := ba4.fr hfr (fun e => e)
        have yd5 := OpL.frame yd4 hfr
        have F5 := F4.trans hfr (fun _ _ e => e)
        have cb : wr.cell? ⟨ga, 0, none⟩ = some (.int .i64 x.by_) := ba5.cell 0
        have hx1 : x.by_ - 1 = (kb : Int) := by have := hkb'.out; omega
        have i1 : (0 : Int) ≤ kb := by omega
        have i2 : (kb : Int) < 6 := by omega
        have i3 : (kb : Int).toNat = kb := by omega
        have hzc := Blk.new wr 62 #[.int .i64 0, .int .i64 0, .int .u64 0, .int .u64 0, .int .u64 0]
        clear hc2 hc3 hc4 hm hver bs4 ba4 yd4 F4
        go_upto_region 12 with (first | (refine wpList_store_new rfl 62 (.tmp 11) (.tmp 60) rfl rfl rfl rfl hzc hic rfl (by simp [Value.oneCell']) ?_; intro w6 hb6 hf6 hs6))
        have fx6 : Fr Non wr w6 := ((Fr.refl Non wr).alloc (.cells #[.int .i64 0, .int .i64 0, .int .u64 0, .int .u64 0, .int .u64 0] 62)).trans hf6 (fun k hk e => by have e' : k = wr.heap.size := e; omega)
        have yfew : Few 20 y.op := by rw [hyH.out]; exact sig_few xfew _ _
        have yd6 := OpL.frame yd5 fx6
        have bs6 := bs5.fr fx6 (fun e => e)
        have fr6 := (fr3.trans F5 (fun _ _ e => e)).trans fx6 (fun _ _ e => e)
        clear hzc hf6 hs6 fx6 e00 e10 e20 e30 e40 cb ba5 bs5 yd5 F5 hfr hx1 i1 i2 i3 hyH xfew xok
        generalize wr.heap.size = gO at *
        go_wp2_with (first | (refine wpList_load_row rfl 35 (.tmp 9) rfl rfl bs6 Tryz.underlying35 rfl hi ?_))
        refine (bent_any 20 y how n _ yd6 yok yfew (by omega) h0 h1 n0 n1).mono ?_
        rintro _ w7 ⟨v, rfl, vok, _, vat, f7⟩
        have honev := one_cells v
        have hz7 := Blk.new w7 35 OpL.zero.cells
        go_upto_region 13 with (first | (refine wpList_store_new rfl 35 (.tmp 12) (.tmp 64) rfl rfl rfl rfl hz7 hi rfl honev ?_; intro w8 hb8 hf8 hs8))
        have fx8 : Fr Non w7 w8 := ((Fr.refl Non w7).alloc (.cells OpL.zero.cells 35)).trans hf8 (fun k hk e => by have e' : k = w7.heap.size := e; omega)
        have f68 := f7.trans fx8 (fun _ _ e => e)
        have bo0 := (hb6.fr f68 (fun e => e)).drew
        have bv0 := hb8.drew
        have vd0 := OpL.frame (OpL.frame vat fx8) ((Fr.refl Non w8).drew)
        have fr5 := fr6.trans f68 (fun _ _ e => e)
        have hkw0 : KindsAt w8.drew := hk.fr fr5.drew
        have fr0 : Fr Non w8 w8.drew := (Fr.refl Non w8).drew
        clear hz7 hf8 hs8 fx8 f7 f68 hb8 vat bs6 yd6 fr6 hb6 h0 h1 n0 n1 honev yfew yok hk
        generalize w7.heap.size = gv at *
        have kvv := Lib.hid (fun (w' : World) (h : v.at w' w'.heap.size) => kown.out v w' vok h)
        have kby := Lib.hid (fun (w' : World) (h : v.at w' w'.heap.size) => bytes11_any v w' h vok)
        have lb := Op.bare_len v.op vok
        have kck := Lib.hid (fun (A : Option Addr) (c : Nat) (w' : World) (B : Nat) (h : Own w' B 5 1 A v.op.bare.length c (v.op.bare.map Bv)) => check_any c4 v.r v.s w'.heap.size v.op.bare.length c A v.op.bare w' hc4l vok.r vok.s rfl h.cap.1 (by omega) (Nat.le_refl _) h.rd)
        have klv := Lib.hid (fun (w' : World) (h : KindsAt w') => lives11_any w' h)
        have hlv := ldS_blk (P := Tryz.prog) gv 35 Tryz.underlying35 rfl (cs := v.cells) hi
        obtain ⟨VV, hVV2⟩ := hid_ex (Sg.check c4 v.op.bare v.r v.s)
        rw [hVV2.out] at kvv kck
        obtain ⟨D, hD⟩ := hid_ex v.op.bare
        rw [hD.out] at kby kck
        unfold SigV at kck
        clear kown vok lb hD hVV2 hVV hkb' hu'
        rcases Bool.eq_false_or_eq_true (v.by_ == (kb : Int) + 1) with ht | ht
        · rw [ht, Bool.true_and] at kvv
          refine wp_region_held_drew (S := fun w' => Blk w' gO 62 #[.int .i64 ((kb : Int) + 1), .int .i64 m, .int .u64 (c2 : Int), .int .u64 (c3 : Int), .int .u64 (c4 : Int)] ∧ Blk w' gv 35 v.cells) (by kernel_rfl) ⟨bo0, bv0⟩ (fun _ => ?_)
          refine wpAnyH_take (i := 0) (v := ?_) rfl (by kernel_rfl) (by kernel_rfl) (by kernel_rfl) (fun _ _ _ h => h) (Or.inl ⟨by kernel_rfl, ?_⟩) ⟨bo0, bv0⟩ ?_
          rotate_left
          focus (intro w' hSw; have b1 := hSw.1; have b2 := hSw.2; have q0 : w'.cell? ⟨gO, 0, none⟩ = some _ := b1.cell 0; have q1 : w'.cell? ⟨gO, 1, none⟩ = some _ := b1.cell 1; have q2 : w'.cell? ⟨gO, 2, none⟩ = some _ := b1.cell 2; have q3 : w'.cell? ⟨gO, 3, none⟩ = some _ := b1.cell 3; have q4 : w'.cell? ⟨gO, 4, none⟩ = some _ := b1.cell 4; go_simp; (try with_reducible rfl))
          try simp only [put_lit, List.set]
          refine wpAnyH_take (i := 1) (v := ?_) rfl (by kernel_rfl) (by kernel_rfl) (by kernel_rfl) (fun _ _ _ h => h) (Or.inl ⟨by kernel_rfl, ?_⟩) ⟨bo0, bv0⟩ ?_
          rotate_left
          focus (intro w' hSw; have b1 := hSw.1; have b2 := hSw.2; go_simp; (try with_reducible rfl))
          try simp only [put_lit, List.set]
          refine wpAnyH_take (i := 3) (v := ?_) rfl (by kernel_rfl) (by kernel_rfl) (by kernel_rfl) (fun _ _ _ h => h) (Or.inl ⟨by kernel_rfl, ?_⟩) ⟨bo0, bv0⟩ ?_
          rotate_left
          focus (intro w' hSw; have b1 := hSw.1; have b2 := hSw.2; go_simp; (try with_reducible rfl))
          try simp only [put_lit, List.set]
          refine wpAnyH_take (i := 4) (v := ?_) rfl (by kernel_rfl) (by kernel_rfl) (by kernel_rfl) (fun _ _ _ h => h) (Or.inl ⟨by kernel_rfl, ?_⟩) ⟨bo0, bv0⟩ ?_
          rotate_left
          focus (intro w' hSw; have b1 := hSw.1; have b2 := hSw.2; have q : w'.cell? ⟨gv, 0, none⟩ = some (.int .i64 v.by_) := b2.cell 0; go_simp; (try with_reducible rfl))
          try simp only [put_lit, List.set]
          refine wpAnyH_take (i := 5) (v := ?_) rfl (by kernel_rfl) (by kernel_rfl) (by kernel_rfl) (fun _ _ _ h => h) (Or.inl ⟨by kernel_rfl, ?_⟩) ⟨bo0, bv0⟩ ?_
          rotate_left
          focus (intro w' hSw; have b1 := hSw.1; have b2 := hSw.2; go_simp; (try with_reducible rfl))
          try simp only [put_lit, List.set]
          refine wpAnyH_take (i := 6) (v := ?_) rfl (by kernel_rfl) (by kernel_rfl) (by kernel_rfl) (fun _ _ _ h => h) (Or.inl ⟨by kernel_rfl, ?_⟩) ⟨bo0, bv0⟩ ?_
          rotate_left
          focus (intro w' hSw; have b1 := hSw.1; have b2 := hSw.2; have q0 : w'.cell? ⟨gO, 0, none⟩ = some _ := b1.cell 0; have q1 : w'.cell? ⟨gO, 1, none⟩ = some _ := b1.cell 1; have q2 : w'.cell? ⟨gO, 2, none⟩ = some _ := b1.cell 2; have q3 : w'.cell? ⟨gO, 3, none⟩ = some _ := b1.cell 3; have q4 : w'.cell? ⟨gO, 4, none⟩ = some _ := b1.cell 4; go_simp; (try with_reducible rfl))
          try simp only [put_lit, List.set]
          refine wpAnyH_take (i := 7) (v := ?_) rfl (by kernel_rfl) (by kernel_rfl) (by kernel_rfl) (fun _ _ _ h => h) (Or.inl ⟨by kernel_rfl, ?_⟩) ⟨bo0, bv0⟩ ?_
          rotate_left
          focus (intro w' hSw; have b1 := hSw.1; have b2 := hSw.2; go_simp; (try with_reducible rfl))
          try simp only [put_lit, List.set]
          refine wpAnyH_only2 2 (by kernel_rfl) rfl (by kernel_rfl) (fun K hK => ?_)
          go_simp
          go_wp2_with (go_at_call 23; (with_reducible refine (kvv.out _ vd0).mono ?_); rintro _ v1 ⟨rfl, f1⟩; have bo1 := bo0.fr f1 (fun e => e); have bv1 := bv0.fr f1 (fun e => e); have vd1 := OpL.frame vd0 f1; have hkw1 := hkw0.fr f1; have fr1 := fr0.trans f1 (fun _ _ e => e))
          refine hK.out _ _ ⟨bo1, bv1⟩ (fun _ => ?_)
          clear hK K
          try simp only [put_lit, List.set]
          refine wpAnyH_take (i := 8) (v := ?_) rfl (by kernel_rfl) (by kernel_rfl) (by kernel_rfl) (fun _ _ _ h => h) (Or.inl ⟨by kernel_rfl, ?_⟩) ⟨bo1, bv1⟩ ?_
          rotate_left
          focus (intro w' hSw; have b1 := hSw.1; have b2 := hSw.2; go_simp; (try with_reducible rfl))
          try simp only [put_lit, List.set]
          refine wpAnyH_take (i := 9) (v := ?_) rfl (by kernel_rfl) (by kernel_rfl) (by kernel_rfl) (fun _ _ _ h => h) (Or.inl ⟨by kernel_rfl, ?_⟩) ⟨bo1, bv1⟩ ?_
          rotate_left
          focus (intro w' hSw; have b1 := hSw.1; have b2 := hSw.2; go_simp; (try with_reducible rfl))
          try simp only [put_lit, List.set]
          refine wpAnyH_take (i := 10) (v := ?_) rfl (by kernel_rfl) (by kernel_rfl) (by kernel_rfl) (fun _ _ _ h => h) (Or.inl ⟨by kernel_rfl, ?_⟩) ⟨bo1, bv1⟩ ?_
          rotate_left
          focus (intro w' hSw; have b1 := hSw.1; have b2 := hSw.2; have q0 : w'.cell? ⟨gO, 0, none⟩ = some _ := b1.cell 0; have q1 : w'.cell? ⟨gO, 1, none⟩ = some _ := b1.cell 1; have q2 : w'.cell? ⟨gO, 2, none⟩ = some _ := b1.cell 2; have q3 : w'.cell? ⟨gO, 3, none⟩ = some _ := b1.cell 3; have q4 : w'.cell? ⟨gO, 4, none⟩ = some _ := b1.cell 4; go_simp; (try with_reducible rfl))
          try simp only [put_lit, List.set]
          refine wpAnyH_take (i := 11) (v := ?_) rfl (by kernel_rfl) (by kernel_rfl) (by kernel_rfl) (fun _ _ _ h => h) (Or.inl ⟨by kernel_rfl, ?_⟩) ⟨bo1, bv1⟩ ?_
          rotate_left
          focus (intro w' hSw; have b1 := hSw.1; have b2 := hSw.2; go_simp; (try with_reducible rfl))
          try simp only [put_lit, List.set]
          refine wpAnyH_take (i := 13) (v := ?_) rfl (by kernel_rfl) (by kernel_rfl) (by kernel_rfl) (fun _ _ _ h => h) (Or.inl ⟨by kernel_rfl, ?_⟩) ⟨bo1, bv1⟩ ?_
          rotate_left
          focus (intro w' hSw; have b1 := hSw.1; have b2 := hSw.2; go_simp; (try with_reducible rfl))
          try simp only [put_lit, List.set]
          refine wpAnyH_take (i := 14) (v := ?_) rfl (by kernel_rfl) (by kernel_rfl) (by kernel_rfl) (fun _ _ _ h => h) (Or.inl ⟨by kernel_rfl, ?_⟩) ⟨bo1, bv1⟩ ?_
          rotate_left
          focus (intro w' hSw; have b1 := hSw.1; have b2 := hSw.2; have q1 : w'.cell? ⟨gv, 25, none⟩ = some (.int .u64 (v.r : Int)) := b2.cell 25; have q2 : w'.cell? ⟨gv, 26, none⟩ = some (.int .u64 (v.s : Int)) := b2.cell 26; go_simp; (try with_reducible rfl))
          try simp only [put_lit, List.set]
          refine wpAnyH_only2 12 (by kernel_rfl) rfl (by kernel_rfl) (fun K hK => ?_)
          go_simp
          go_wp2_with (go_at_call 25; (with_reducible refine (kby.out _ vd1).mono ?_); rintro _ v2 ⟨A2, s2, rfl, o2, f2⟩; have bo2 := bo1.fr f2 (fun e => e); have bv2 := bv1.fr f2 (fun e => e); have vd2 := OpL.frame vd1 f2; have hkw2 := hkw1.fr f2; have fr2 := fr1.trans f2 (fun _ _ e => e))
          refine hK.out _ _ ⟨bo2, bv2⟩ (fun _ => ?_)
          clear hK K
          try simp only [put_lit, List.set]
          refine wpAnyH_only2 15 (by kernel_rfl) rfl (by kernel_rfl) (fun K hK => ?_)
          go_simp
          go_wp2_with (go_at_call 24; (with_reducible refine (kck.out _ _ _ _ o2).mono ?_); rintro _ v3 ⟨rfl, f3⟩; have bo3 := bo2.fr f3 (fun e => e); have bv3 := bv2.fr f3 (fun e => e); have vd3 := OpL.frame vd2 f3; have hkw3 := hkw2.fr f3; have fr3 := fr2.trans f3 (fun _ _ e => e))
          refine hK.out _ _ ⟨bo3, bv3⟩ (fun _ => ?_)
          clear hK K
          try simp only [put_lit, List.set]
          refine wpAnyH_take (i := 16) (v := ?_) rfl (by kernel_rfl) (by kernel_rfl) (by kernel_rfl) (fun _ _ _ h => h) (Or.inl ⟨by kernel_rfl, ?_⟩) ⟨bo3, bv3⟩ ?_
          rotate_left
          focus (intro w' hSw; have b1 := hSw.1; have b2 := hSw.2; go_simp; (try with_reducible rfl))
          try simp only [put_lit, List.set]
          refine wpAnyH_take (i := 17) (v := ?_) rfl (by kernel_rfl) (by kernel_rfl) (by kernel_rfl) (fun _ _ _ h => h) (Or.inl ⟨by kernel_rfl, ?_⟩) ⟨bo3, bv3⟩ ?_
          rotate_left
          focus (intro w' hSw; have b1 := hSw.1; have b2 := hSw.2; go_simp; (try with_reducible rfl))
          try simp only [put_lit, List.set]
          refine wpAnyH_take (i := 18) (v := ?_) rfl (by kernel_rfl) (by kernel_rfl) (by kernel_rfl) (fun _ _ _ h => h) (Or.inl ⟨by kernel_rfl, ?_⟩) ⟨bo3, bv3⟩ ?_
          rotate_left
          focus (intro w' hSw; have b1 := hSw.1; have b2 := hSw.2; go_simp; (try with_reducible rfl))
          try simp only [put_lit, List.set]
          refine wpAnyH_only2 19 (by kernel_rfl) rfl (by kernel_rfl) (fun K hK => ?_)
          go_simp
          go_wp2_with (go_at_call 13; (with_reducible refine (klv.out _ hkw3).mono ?_); rintro _ v4 ⟨rfl, f4⟩; have bo4 := bo3.fr f4 (fun e => e); have bv4 := bv3.fr f4 (fun e => e); have vd4 := OpL.frame vd3 f4; have hkw4 := hkw3.fr f4; have fr4 := fr3.trans f4 (fun _ _ e => e))
          refine hK.out _ _ ⟨bo4, bv4⟩ (fun _ => ?_)
          clear hK K
          try simp only [put_lit, List.set]
          refine wpAnyH_take (i := 20) (v := ?_) rfl (by kernel_rfl) (by kernel_rfl) (by kernel_rfl) (fun _ _ _ h => h) (Or.inl ⟨by kernel_rfl, ?_⟩) ⟨bo4, bv4⟩ ?_
          rotate_left
          focus (intro w' hSw; have b1 := hSw.1; have b2 := hSw.2; go_simp; (try with_reducible rfl))
          try simp only [put_lit, List.set]
          refine wpAnyH_take (i := 21) (v := ?_) rfl (by kernel_rfl) (by kernel_rfl) (by kernel_rfl) (fun _ _ _ h => h) (Or.inl ⟨by kernel_rfl, ?_⟩) ⟨bo4, bv4⟩ ?_
          rotate_left
          focus (intro w' hSw; have b1 := hSw.1; have b2 := hSw.2; go_simp; (try with_reducible rfl))
          try simp only [put_lit, List.set]
          refine wpAnyH_done (by kernel_rfl) ?_ _
          go_simp
          go_wp2
          go_ret
          exact ⟨rfl, (fr5.trans fr4 (fun _ _ e => e))⟩
        · rw [ht, Bool.false_and] at kvv
          refine wp_region_held_drew (S := fun w' => Blk w' gO 62 #[.int .i64 ((kb : Int) + 1), .int .i64 m, .int .u64 (c2 : Int), .int .u64 (c3 : Int), .int .u64 (c4 : Int)] ∧ Blk w' gv 35 v.cells) (by kernel_rfl) ⟨bo0, bv0⟩ (fun _ => ?_)
          refine wpAnyH_take (i := 0) (v := ?_) rfl (by kernel_rfl) (by kernel_rfl) (by kernel_rfl) (fun _ _ _ h => h) (Or.inl ⟨by kernel_rfl, ?_⟩) ⟨bo0, bv0⟩ ?_
          rotate_left
          focus (intro w' hSw; have b1 := hSw.1; have b2 := hSw.2; have q0 : w'.cell? ⟨gO, 0, none⟩ = some _ := b1.cell 0; have q1 : w'.cell? ⟨gO, 1, none⟩ = some _ := b1.cell 1; have q2 : w'.cell? ⟨gO, 2, none⟩ = some _ := b1.cell 2; have q3 : w'.cell? ⟨gO, 3, none⟩ = some _ := b1.cell 3; have q4 : w'.cell? ⟨gO, 4, none⟩ = some _ := b1.cell 4; go_simp; (try with_reducible rfl))
          try simp only [put_lit, List.set]
          refine wpAnyH_take (i := 1) (v := ?_) rfl (by kernel_rfl) (by kernel_rfl) (by kernel_rfl) (fun _ _ _ h => h) (Or.inl ⟨by kernel_rfl, ?_⟩) ⟨bo0, bv0⟩ ?_
          rotate_left
          focus (intro w' hSw; have b1 := hSw.1; have b2 := hSw.2; go_simp; (try with_reducible rfl))
          try simp only [put_lit, List.set]
          refine wpAnyH_take (i := 3) (v := ?_) rfl (by kernel_rfl) (by kernel_rfl) (by kernel_rfl) (fun _ _ _ h => h) (Or.inl ⟨by kernel_rfl, ?_⟩) ⟨bo0, bv0⟩ ?_
          rotate_left
          focus (intro w' hSw; have b1 := hSw.1; have b2 := hSw.2; go_simp; (try with_reducible rfl))
          try simp only [put_lit, List.set]
          refine wpAnyH_take (i := 4) (v := ?_) rfl (by kernel_rfl) (by kernel_rfl) (by kernel_rfl) (fun _ _ _ h => h) (Or.inl ⟨by kernel_rfl, ?_⟩) ⟨bo0, bv0⟩ ?_
          rotate_left
          focus (intro w' hSw; have b1 := hSw.1; have b2 := hSw.2; have q : w'.cell? ⟨gv, 0, none⟩ = some (.int .i64 v.by_) := b2.cell 0; go_simp; (try with_reducible rfl))
          try simp only [put_lit, List.set]
          refine wpAnyH_take (i := 5) (v := ?_) rfl (by kernel_rfl) (by kernel_rfl) (by kernel_rfl) (fun _ _ _ h => h) (Or.inl ⟨by kernel_rfl, ?_⟩) ⟨bo0, bv0⟩ ?_
          rotate_left
          focus (intro w' hSw; have b1 := hSw.1; have b2 := hSw.2; go_simp; (try with_reducible rfl))
          try simp only [put_lit, List.set]
          refine wpAnyH_take (i := 6) (v := ?_) rfl (by kernel_rfl) (by kernel_rfl) (by kernel_rfl) (fun _ _ _ h => h) (Or.inl ⟨by kernel_rfl, ?_⟩) ⟨bo0, bv0⟩ ?_
          rotate_left
          focus (intro w' hSw; have b1 := hSw.1; have b2 := hSw.2; have q0 : w'.cell? ⟨gO, 0, none⟩ = some _ := b1.cell 0; have q1 : w'.cell? ⟨gO, 1, none⟩ = some _ := b1.cell 1; have q2 : w'.cell? ⟨gO, 2, none⟩ = some _ := b1.cell 2; have q3 : w'.cell? ⟨gO, 3, none⟩ = some _ := b1.cell 3; have q4 : w'.cell? ⟨gO, 4, none⟩ = some _ := b1.cell 4; go_simp; (try with_reducible rfl))
          try simp only [put_lit, List.set]
          refine wpAnyH_take (i := 7) (v := ?_) rfl (by kernel_rfl) (by kernel_rfl) (by kernel_rfl) (fun _ _ _ h => h) (Or.inl ⟨by kernel_rfl, ?_⟩) ⟨bo0, bv0⟩ ?_
          rotate_left
          focus (intro w' hSw; have b1 := hSw.1; have b2 := hSw.2; go_simp; (try with_reducible rfl))
          try simp only [put_lit, List.set]
          refine wpAnyH_only2 2 (by kernel_rfl) rfl (by kernel_rfl) (fun K hK => ?_)
          go_simp
          go_wp2_with (go_at_call 23; (with_reducible refine (kvv.out _ vd0).mono ?_); rintro _ v1 ⟨rfl, f1⟩; have bo1 := bo0.fr f1 (fun e => e); have bv1 := bv0.fr f1 (fun e => e); have vd1 := OpL.frame vd0 f1; have hkw1 := hkw0.fr f1; have fr1 := fr0.trans f1 (fun _ _ e => e))
          refine hK.out _ _ ⟨bo1, bv1⟩ (fun _ => ?_)
          clear hK K
          try simp only [put_lit, List.set]
          refine wpAnyH_take (i := 8) (v := ?_) rfl (by kernel_rfl) (by kernel_rfl) (by kernel_rfl) (fun _ _ _ h => h) (Or.inl ⟨by kernel_rfl, ?_⟩) ⟨bo1, bv1⟩ ?_
          rotate_left
          focus (intro w' hSw; have b1 := hSw.1; have b2 := hSw.2; go_simp; (try with_reducible rfl))
          try simp only [put_lit, List.set]
          refine wpAnyH_take (i := 9) (v := undef) rfl (by kernel_rfl) (by kernel_rfl) (by kernel_rfl) (fun _ _ _ h => h) (Or.inr ⟨by kernel_rfl, rfl⟩) ⟨bo1, bv1⟩ ?_
          try simp only [put_lit, List.set]
          refine wpAnyH_take (i := 10) (v := undef) rfl (by kernel_rfl) (by kernel_rfl) (by kernel_rfl) (fun _ _ _ h => h) (Or.inr ⟨by kernel_rfl, rfl⟩) ⟨bo1, bv1⟩ ?_
          try simp only [put_lit, List.set]
          refine wpAnyH_take (i := 11) (v := undef) rfl (by kernel_rfl) (by kernel_rfl) (by kernel_rfl) (fun _ _ _ h => h) (Or.inr ⟨by kernel_rfl, rfl⟩) ⟨bo1, bv1⟩ ?_
          try simp only [put_lit, List.set]
          refine wpAnyH_take (i := 12) (v := undef) rfl (by kernel_rfl) (by kernel_rfl) (by kernel_rfl) (fun _ _ _ h => h) (Or.inr ⟨by kernel_rfl, rfl⟩) ⟨bo1, bv1⟩ ?_
          try simp only [put_lit, List.set]
          refine wpAnyH_take (i := 13) (v := undef) rfl (by kernel_rfl) (by kernel_rfl) (by kernel_rfl) (fun _ _ _ h => h) (Or.inr ⟨by kernel_rfl, rfl⟩) ⟨bo1, bv1⟩ ?_
          try simp only [put_lit, List.set]
          refine wpAnyH_take (i := 14) (v := undef) rfl (by kernel_rfl) (by kernel_rfl) (by kernel_rfl) (fun _ _ _ h => h) (Or.inr ⟨by kernel_rfl, rfl⟩) ⟨bo1, bv1⟩ ?_
          try simp only [put_lit, List.set]
          refine wpAnyH_take (i := 15) (v := undef) rfl (by kernel_rfl) (by kernel_rfl) (by kernel_rfl) (fun _ _ _ h => h) (Or.inr ⟨by kernel_rfl, rfl⟩) ⟨bo1, bv1⟩ ?_
          try simp only [put_lit, List.set]
          refine wpAnyH_take (i := 16) (v := ?_) rfl (by kernel_rfl) (by kernel_rfl) (by kernel_rfl) (fun _ _ _ h => h) (Or.inl ⟨by kernel_rfl, ?_⟩) ⟨bo1, bv1⟩ ?_
          rotate_left
          focus (intro w' hSw; have b1 := hSw.1; have b2 := hSw.2; go_simp; (try with_reducible rfl))
          try simp only [put_lit, List.set]
          refine wpAnyH_take (i := 17) (v := ?_) rfl (by kernel_rfl) (by kernel_rfl) (by kernel_rfl) (fun _ _ _ h => h) (Or.inl ⟨by kernel_rfl, ?_⟩) ⟨bo1, bv1⟩ ?_
          rotate_left
          focus (intro w' hSw; have b1 := hSw.1; have b2 := hSw.2; go_simp; (try with_reducible rfl))
          try simp only [put_lit, List.set]
          refine wpAnyH_take (i := 18) (v := ?_) rfl (by kernel_rfl) (by kernel_rfl) (by kernel_rfl) (fun _ _ _ h => h) (Or.inl ⟨by kernel_rfl, ?_⟩) ⟨bo1, bv1⟩ ?_
          rotate_left
          focus (intro w' hSw; have b1 := hSw.1; have b2 := hSw.2; go_simp; (try with_reducible rfl))
          try simp only [put_lit, List.set]
          refine wpAnyH_only2 19 (by kernel_rfl) rfl (by kernel_rfl) (fun K hK => ?_)
          go_simp
          go_wp2_with (go_at_call 13; (with_reducible refine (klv.out _ hkw1).mono ?_); rintro _ v2 ⟨rfl, f2⟩; have bo2 := bo1.fr f2 (fun e => e); have bv2 := bv1.fr f2 (fun e => e); have vd2 := OpL.frame vd1 f2; have hkw2 := hkw1.fr f2; have fr2 := fr1.trans f2 (fun _ _ e => e))
          refine hK.out _ _ ⟨bo2, bv2⟩ (fun _ => ?_)
          clear hK K
          try simp only [put_lit, List.set]
          refine wpAnyH_take (i := 20) (v := ?_) rfl (by kernel_rfl) (by kernel_rfl) (by kernel_rfl) (fun _ _ _ h => h) (Or.inl ⟨by kernel_rfl, ?_⟩) ⟨bo2, bv2⟩ ?_
          rotate_left
          focus (intro w' hSw; have b1 := hSw.1; have b2 := hSw.2; go_simp; (try with_reducible rfl))
          try simp only [put_lit, List.set]
          refine wpAnyH_take (i := 21) (v := ?_) rfl (by kernel_rfl) (by kernel_rfl) (by kernel_rfl) (fun _ _ _ h => h) (Or.inl ⟨by kernel_rfl, ?_⟩) ⟨bo2, bv2⟩ ?_
          rotate_left
          focus (intro w' hSw; have b1 := hSw.1; have b2 := hSw.2; go_simp; (try with_reducible rfl))
          try simp only [put_lit, List.set]
          refine wpAnyH_done (by kernel_rfl) ?_ _
          go_simp
          go_wp2
          go_ret
          exact ⟨rfl, (fr5.trans fr2 (fun _ _ e => e))⟩
end Oq
end Go.Proofs.YthmlaigpdpdpjaaGreatDoor
