/-
  OpOwns: what was handed in may be changed, and what is answered, too.
  Conditions: the package variable op.kinds as its text lays it.
-/
import Derived.Test.YthmlaigpdpdpjaaGreatDoorOpSign
import Derived.Test.YthmlaigpdpdpjaaGreatDoorOpLives
import Derived.Test.YthmlaigpdpdpjaaGreatDoorOpFew
import Derived.Test.YthmlaigpdpdpjaaGreatDoorTurn
import Derived.Deep.CutBlock
import Derived.Deep.DeepCutAuto
namespace Go.Proofs.YthmlaigpdpdpjaaGreatDoor
open Go.RowKit
attribute [local go_sem ↓] Go.wp_at_zero Go.wp_at_succ
namespace Oq
attribute [local go_sem] Bool.not_false Bool.not_true bne_self_eq_false beq_self_eq_true
attribute [local go_sem ↓] loadAt_op
theorem use_fin {G P : Prop} (h : P → G) (hp : P) : G := h hp
theorem wpAnyH_mono2 {P : Program} {Q : Exit → Act → World → Prop} {ops : Array Oper} {md : Region.Mode} {S S' : World → Prop} (hS : ∀ w, S' w → S w) : ∀ {fuel : Nat} {listed : Array Bool} {a : Act} {w : World}, wpAnyH P md ops Q S' fuel listed a w → wpAnyH P md ops Q S fuel listed a w
  | 0, _, _, _, h => h
  | _ + 1, _, _, _, h => ⟨h.1, fun i hi => wpOp_mono (fun _ w' h' => ⟨hS w' h'.1, wpAnyH_mono2 hS h'.2⟩) (h.2 i hi)⟩
/-- A byte is put into an own row. -/
theorem _root_.Go.Proofs.YthmlaigpdpdpjaaGreatDoor.Own.put2 {w : World} {base n c : Nat} {A : Option Addr} {bs : List UInt8} (h : Own w base 5 1 A n c (bs.map Bv)) {k : Nat} (hk : k < n) (x : UInt8) :
    ∃ (g : Nat) (cur : Array Value) (y : UInt8), A = some ⟨g, 0, none⟩ ∧ Blk w g 5 cur ∧ cur[k]? = some (Bv y) ∧ base ≤ g ∧ Own (w.setCell ⟨g, k, none⟩ (Bv x)) base 5 1 A n c ((bs.set k x).map Bv) := by
  rcases h.2 with ⟨_, h0⟩ | ⟨g, cap, cur, hv, hb, hg, h1, h2, h3, h4⟩
  · omega
  · injection hv with hA hn hc
    have hlen := h.1
    simp at hlen
    obtain ⟨y, hy⟩ : ∃ y, bs[k]? = some y := ⟨_, List.getElem?_eq_getElem (by omega)⟩
    refine ⟨g, cur, y, hA, hg, ?_, hb, ?_⟩
    · have e : (cur.toList.take (n * 1))[k]? = (bs.map Bv)[k]? := by rw [h4]
      rw [List.getElem?_take_of_lt (by omega), List.getElem?_map, hy] at e
      simpa using e
    · have hset := Blk.set (show Blk w g 5 cur from hg) k (Bv x)
      refine ⟨by simp [hlen], .inr ⟨g, cap, cur.setIfInBounds k (Bv x), ?_, hb, hset, h1, h2, by simpa using h3, ?_⟩⟩
      · subst hA hc; rfl
      · rw [Array.toList_setIfInBounds, List.take_set, h4, List.map_set]

theorem want_pos {c : Prop} [Decidable c] {A B : Prop} (h : c) (ha : A) : if c then A else B := by rw [if_pos h]; exact ha
theorem str_rd {B n c : Nat} {A : Option Addr} {bs : List UInt8} {w : World} (h : Rd w B 1 A n (bs.map Bv)) : (convert 28 9 (.slice A n c)).run Tryz.prog w = .ok (.string (str bs)) w :=
  run_str 28 5 9 Tryz.underlying28 Tryz.underlying5 Tryz.underlying9 w _ _ _ c _ h

set_option maxRecDepth 100000 in
set_option maxHeartbeats 80000000 in
theorem opOwns_law (Al : Option Addr) (cl : Nat) (l : List Int) (w : World) (hk : KindsAt w) (hrl : Rd w w.heap.size 1 Al l.length (l.map Iv)) (hlc : l.length ≤ cl) (hlc' : cl ≤ 9223372036854775807) (hok : ∀ x ∈ l, I64 x) :
    Calls Tryz.prog 4 #[.slice Al l.length cl] w (BoolPost true w) := by
  have hi : (Tryz.prog.info? 35).map (·.size) = some 27 := by kernel_rfl
  have hok' := Lib.hid hok
  clear hok
  obtain ⟨nl, hnl⟩ := hid_ex l.length
  rw [hnl.out] at hrl hlc ⊢
  go_enter Tryz.func4, Tryz.ntmps4
  go_wp2_with (fail)
  refine (gen_any _ nl cl Al l _ hnl hrl hlc hlc' hok').mono ?_
  rintro _ w1 ⟨x, rfl, xby, _, xchk, xr, xs, xown, f1⟩
  have xok := gen_ok xchk xr xs
  have xat := xown.at
  have xfew := few_of_chk xchk
  have hby : 1 ≤ x.by_ ∧ x.by_ ≤ 6 := by
    rw [xby]
    have h := nx_bd (l.take 60) 1 (m := 6) (by omega)
    omega
  have honex := one_cells x
  have hz1 := Blk.new w1 35 OpL.zero.cells
  clear xchk xr xs xown hrl hlc hlc' hok' hnl xby
  go_upto_region 2 with (first | (refine wpList_store_new rfl 35 (.tmp 3) (.tmp 16) rfl rfl rfl rfl hz1 hi rfl honex ?_; intro w2 hb2 hf2 hs2))
  have fx2 : Fr Non w1 w2 := ((Fr.refl Non w1).alloc (.cells OpL.zero.cells 35)).trans hf2 (fun k hk e => by have e' : k = w1.heap.size := e; omega)
  have fr2 := f1.trans fx2 (fun _ _ e => e)
  have xat2 := OpL.frame xat fx2
  clear hz1 hf2 hs2 f1 fx2 xat honex
  generalize w1.heap.size = ga at *
  have lp := few_len xfew (by omega)
  have kp := Lib.hid (fun w' (h : x.at w' w'.heap.size) => put11_any x w' h xok)
  obtain ⟨PP, hPP⟩ := hid_ex x.op.put
  obtain ⟨np, hnp⟩ := hid_ex PP.length
  have lp' : np ≤ 500000 := by rw [← hnp.out, ← hPP.out]; exact lp
  rw [hPP.out] at kp
  go_wp2_with (first | (refine wpList_load_row rfl 35 (.tmp 3) rfl rfl hb2 Tryz.underlying35 rfl hi ?_))
  refine (kp.out _ xat2).mono ?_
  rintro _ w3 ⟨Aw, cw, rfl, wown, f3⟩
  rw [hnp.out] at wown ⊢
  have xat3 := OpL.frame xat2 f3
  have hb3 := hb2.fr f3 (fun e => e)
  have fr3 := fr2.trans f3 (fun _ _ e => e)
  have hga3 : ga < w3.heap.size := hb3.lt
  clear f3 xat2 hb2 fr2
  obtain ⟨kb, hkb, hkb6⟩ : ∃ kb : Nat, x.by_ = (kb : Int) + 1 ∧ kb < 6 := ⟨(x.by_ - 1).toNat, by omega, by omega⟩
  have hu : IntKind.u64.wrap x.by_ = ((kb + 1 : Nat) : Int) := by rw [IntKind.wrap_u64]; omega
  have hV := sec_lt lSign (kb + 1)
  have k1 : Hid (∀ w' : World, Calls Tryz.prog 16 #[.string ⟨#[115, 105, 103, 110]⟩, .int .i64 x.by_] w' (PowPost (sec lSign (kb + 1)) w')) := fun w' => secret11_any lSign x.by_ (kb + 1) w' hu (by omega) (by decide)
  have k2 := Lib.hid (fun w' (h : x.at w' w'.heap.size) => opsign_any (sec lSign (kb + 1)) x w' (by omega) h xok (by omega))
  obtain ⟨V, hVV⟩ := hid_ex (sec lSign (kb + 1))
  rw [hVV.out] at k1 k2 hV
  unfold SignedP at k2
  have ba0 : Blk w3.drew ga 35 x.cells := hb3
  have xd0 := OpL.frame xat3 ((Fr.refl Non w3).drew)
  have fr0 : Fr Non w3.drew w3.drew := Fr.refl _ _
  clear hu hkb lp hby hVV xfew
  have hlx := ldS_blk (P := Tryz.prog) ga 35 Tryz.underlying35 rfl (cs := x.cells) hi
  obtain ⟨bw, hbw3⟩ := hid_ex w3.heap.size
  go_upto_region 3 with (fail)
  apply use_fin
  case h =>
    intro fin
    refine wp_region_held_drew (S := fun w' => Blk w' ga 35 x.cells) (by kernel_rfl) ba0 (fun _ => ?_)
    refine wpAnyH_take (i := 0) (v := ?_) rfl (by kernel_rfl) (by kernel_rfl) (by kernel_rfl) (fun _ _ _ h => h) (Or.inl ⟨by kernel_rfl, ?_⟩) ba0 ?_
    rotate_left
    focus (intro w' hSw; have b1 := hSw; (try dsimp only at b1); go_simp; (try with_reducible rfl))
    try simp only [put_lit2, List.set]
    refine wpAnyH_take (i := 1) (v := ?_) rfl (by kernel_rfl) (by kernel_rfl) (by kernel_rfl) (fun _ _ _ h => h) (Or.inl ⟨by kernel_rfl, ?_⟩) ba0 ?_
    rotate_left
    focus (intro w' hSw; have b1 := hSw; (try dsimp only at b1); have q : w'.cell? ⟨ga, 0, none⟩ = some (.int .i64 x.by_) := b1.cell 0; go_simp; (try with_reducible rfl))
    try simp only [put_lit2, List.set]
    refine wpAnyH_take (i := 3) (v := ?_) rfl (by kernel_rfl) (by kernel_rfl) (by kernel_rfl) (fun _ _ _ h => h) (Or.inl ⟨by kernel_rfl, ?_⟩) ba0 ?_
    rotate_left
    focus (intro w' hSw; have b1 := hSw; (try dsimp only at b1); go_simp; (try with_reducible rfl))
    try simp only [put_lit2, List.set]
    refine wpAnyH_ready (rs := [2, 5]) (by kernel_rfl) (by simp) ?_
    refine AllReadyH.cons rfl (fun K hK => ?_) ?_
    · refine want_pos (by kernel_rfl) ?_
      go_simp
      go_wp2_with (go_at_call 16; (with_reducible refine (k1.out _).mono ?_); rintro _ u1 ⟨rfl, f1⟩)
      have ba1 := ba0.fr f1 (fun e => e)
      have xd1 := OpL.frame xd0 f1
      have fr1 := fr0.trans f1 (fun _ _ e => e)
      refine hK.out _ _ ba1 (fun _ => ?_)
      clear hK K
      try simp only [put_lit2, List.set]
      refine wpAnyH_ready (rs := [4, 5]) (by kernel_rfl) (by simp) ?_
      refine AllReadyH.cons rfl (fun K hK => ?_) ?_
      · refine want_pos (by kernel_rfl) ?_
        go_simp
        go_wp2_with (go_at_call 15; (with_reducible refine (k2.out _ xd1).mono ?_); rintro _ u2 ⟨y, rfl, hyop, yown, f2⟩)
        have ba2 := ba1.fr f2 (fun e => e)
        have xd2 := OpL.frame xd1 f2
        have fr2 := fr1.trans f2 (fun _ _ e => e)
        refine hK.out _ _ ba2 (fun _ => ?_)
        clear hK K
        try simp only [put_lit2, List.set]
        refine wpAnyH_only2 5 (by kernel_rfl) rfl (by kernel_rfl) (fun K hK => ?_)
        go_simp
        have bz3 := Blk.new u2 35 #[.int .i64 0, .int .i64 0, .int .i64 0, .int .i64 0, .slice none 0 0, .int .i64 0, .int .i64 0, .int .i64 0, .int .i64 0, .slice none 0 0, .int .i64 0, .int .i64 0, .int .u64 0, .int .i64 0, .slice none 0 0, .slice none 0 0, .int .i64 0, .int .i64 0, .int .u64 0, .slice none 0 0, .int .i64 0, .int .i64 0, .slice none 0 0, .int .u64 0, .slice none 0 0, .int .u64 0, .int .u64 0]
        have fa3 : Fr Non u2 (u2.alloc (.cells #[.int .i64 0, .int .i64 0, .int .i64 0, .int .i64 0, .slice none 0 0, .int .i64 0, .int .i64 0, .int .i64 0, .int .i64 0, .slice none 0 0, .int .i64 0, .int .i64 0, .int .u64 0, .int .i64 0, .slice none 0 0, .slice none 0 0, .int .i64 0, .int .i64 0, .int .u64 0, .slice none 0 0, .int .i64 0, .int .i64 0, .slice none 0 0, .int .u64 0, .slice none 0 0, .int .u64 0, .int .u64 0] 35)) := (Fr.refl Non _).alloc _
        have ba3 := ba2.fr fa3 (fun e => e)
        have xd3 := OpL.frame xd2 fa3
        have fr3 := fr2.trans fa3 (fun _ _ e => e)
        refine hK.out _ _ ba3 (fun _ => ?_)
        clear hK K
        try simp only [put_lit2, List.set]
        have bz := bz3
        have hgs : w3.drew.heap.size ≤ u2.heap.size := fr2.size
        have hga : ga ≠ u2.heap.size := Nat.ne_of_lt ba2.lt
        have yo := yown.keep fa3 (fun _ _ _ _ _ e => e.elim)
        have hlow : bw ≤ u1.heap.size := by rw [← hbw3.out]; exact fr1.size
        refine wpAnyH_only2 6 (by kernel_rfl) rfl (by kernel_rfl) (fun K hK => ?_)
        have honey := one_cells y
        refine oper_store_row 35 (.tmp 5) (.tmp 23) (g := u2.heap.size) (cs := y.cells) rfl rfl (by rfl) (by rfl) bz hi rfl honey ?_
        have hne : ga ≠ u2.heap.size := hga
        have baF := ba3.setRow_far (cs := y.cells) hne
        have bsF := bz.setRow (cs := y.cells)
        have frF := fr3.setRow (g := u2.heap.size) (fun h => absurd h (Nat.not_lt.2 hgs)) y.cells
        have yoF := (yo.keep ((Fr.refl (One (u2.heap.size)) (u2.alloc (.cells #[.int .i64 0, .int .i64 0, .int .i64 0, .int .i64 0, .slice none 0 0, .int .i64 0, .int .i64 0, .int .i64 0, .int .i64 0, .slice none 0 0, .int .i64 0, .int .i64 0, .int .u64 0, .int .i64 0, .slice none 0 0, .slice none 0 0, .int .i64 0, .int .i64 0, .int .u64 0, .slice none 0 0, .int .i64 0, .int .i64 0, .slice none 0 0, .int .u64 0, .slice none 0 0, .int .u64 0, .int .u64 0] 35))).setRow (g := u2.heap.size) (fun _ => rfl) y.cells) ((Types.one bz).mono (fun t e => .inl e))).lower hlow
        refine hK.out _ _ baF (fun hzz => ?_)
        clear hK K hzz
        refine wpAnyH_done (by kernel_rfl) ?_ _
        go_simp
        clear hne honey bz hgs hga hlow yo yown
        revert yoF frF bsF baF hyop
        generalize (u2.alloc (.cells #[.int .i64 0, .int .i64 0, .int .i64 0, .int .i64 0, .slice none 0 0, .int .i64 0, .int .i64 0, .int .i64 0, .int .i64 0, .slice none 0 0, .int .i64 0, .int .i64 0, .int .u64 0, .int .i64 0, .slice none 0 0, .slice none 0 0, .int .i64 0, .int .i64 0, .int .u64 0, .slice none 0 0, .int .i64 0, .int .i64 0, .slice none 0 0, .int .u64 0, .slice none 0 0, .int .u64 0, .int .u64 0] 35)).setRow (u2.heap.size) y.cells = wF
        generalize u2.heap.size = gs
        revert wF gs y
        exact fin
      refine AllReadyH.cons rfl (fun K hK => ?_) AllReadyH.nil
      · refine want_pos (by kernel_rfl) ?_
        go_simp
        have bz2 := Blk.new u1 35 #[.int .i64 0, .int .i64 0, .int .i64 0, .int .i64 0, .slice none 0 0, .int .i64 0, .int .i64 0, .int .i64 0, .int .i64 0, .slice none 0 0, .int .i64 0, .int .i64 0, .int .u64 0, .int .i64 0, .slice none 0 0, .slice none 0 0, .int .i64 0, .int .i64 0, .int .u64 0, .slice none 0 0, .int .i64 0, .int .i64 0, .slice none 0 0, .int .u64 0, .slice none 0 0, .int .u64 0, .int .u64 0]
        have fa2 : Fr Non u1 (u1.alloc (.cells #[.int .i64 0, .int .i64 0, .int .i64 0, .int .i64 0, .slice none 0 0, .int .i64 0, .int .i64 0, .int .i64 0, .int .i64 0, .slice none 0 0, .int .i64 0, .int .i64 0, .int .u64 0, .int .i64 0, .slice none 0 0, .slice none 0 0, .int .i64 0, .int .i64 0, .int .u64 0, .slice none 0 0, .int .i64 0, .int .i64 0, .slice none 0 0, .int .u64 0, .slice none 0 0, .int .u64 0, .int .u64 0] 35)) := (Fr.refl Non _).alloc _
        have ba2 := ba1.fr fa2 (fun e => e)
        have xd2 := OpL.frame xd1 fa2
        have fr2 := fr1.trans fa2 (fun _ _ e => e)
        refine hK.out _ _ ba2 (fun _ => ?_)
        clear hK K
        try simp only [put_lit2, List.set]
        refine wpAnyH_only2 4 (by kernel_rfl) rfl (by kernel_rfl) (fun K hK => ?_)
        go_simp
        go_wp2_with (go_at_call 15; (with_reducible refine (k2.out _ xd2).mono ?_); rintro _ u3 ⟨y, rfl, hyop, yown, f3⟩)
        have ba3 := ba2.fr f3 (fun e => e)
        have xd3 := OpL.frame xd2 f3
        have fr3 := fr2.trans f3 (fun _ _ e => e)
        refine hK.out _ _ ba3 (fun _ => ?_)
        clear hK K
        try simp only [put_lit2, List.set]
        have bz := bz2.fr f3 (fun e => e)
        have hgs : w3.drew.heap.size ≤ u1.heap.size := fr1.size
        have hga : ga ≠ u1.heap.size := Nat.ne_of_lt ba1.lt
        have yo := yown
        have hlow : bw ≤ (u1.alloc (.cells #[.int .i64 0, .int .i64 0, .int .i64 0, .int .i64 0, .slice none 0 0, .int .i64 0, .int .i64 0, .int .i64 0, .int .i64 0, .slice none 0 0, .int .i64 0, .int .i64 0, .int .u64 0, .int .i64 0, .slice none 0 0, .slice none 0 0, .int .i64 0, .int .i64 0, .int .u64 0, .slice none 0 0, .int .i64 0, .int .i64 0, .slice none 0 0, .int .u64 0, .slice none 0 0, .int .u64 0, .int .u64 0] 35)).heap.size := by rw [← hbw3.out]; exact fr2.size
        refine wpAnyH_only2 6 (by kernel_rfl) rfl (by kernel_rfl) (fun K hK => ?_)
        have honey := one_cells y
        refine oper_store_row 35 (.tmp 5) (.tmp 23) (g := u1.heap.size) (cs := y.cells) rfl rfl (by rfl) (by rfl) bz hi rfl honey ?_
        have hne : ga ≠ u1.heap.size := hga
        have baF := ba3.setRow_far (cs := y.cells) hne
        have bsF := bz.setRow (cs := y.cells)
        have frF := fr3.setRow (g := u1.heap.size) (fun h => absurd h (Nat.not_lt.2 hgs)) y.cells
        have yoF := (yo.keep ((Fr.refl (One (u1.heap.size)) (u3)).setRow (g := u1.heap.size) (fun _ => rfl) y.cells) ((Types.one bz).mono (fun t e => .inl e))).lower hlow
        refine hK.out _ _ baF (fun hzz => ?_)
        clear hK K hzz
        refine wpAnyH_done (by kernel_rfl) ?_ _
        go_simp
        clear hne honey bz hgs hga hlow yo yown
        revert yoF frF bsF baF hyop
        generalize (u3).setRow (u1.heap.size) y.cells = wF
        generalize u1.heap.size = gs
        revert wF gs y
        exact fin
    refine AllReadyH.cons rfl (fun K hK => ?_) AllReadyH.nil
    · refine want_pos (by kernel_rfl) ?_
      go_simp
      have bz1 := Blk.new w3.drew 35 #[.int .i64 0, .int .i64 0, .int .i64 0, .int .i64 0, .slice none 0 0, .int .i64 0, .int .i64 0, .int .i64 0, .int .i64 0, .slice none 0 0, .int .i64 0, .int .i64 0, .int .u64 0, .int .i64 0, .slice none 0 0, .slice none 0 0, .int .i64 0, .int .i64 0, .int .u64 0, .slice none 0 0, .int .i64 0, .int .i64 0, .slice none 0 0, .int .u64 0, .slice none 0 0, .int .u64 0, .int .u64 0]
      have fa1 : Fr Non w3.drew (w3.drew.alloc (.cells #[.int .i64 0, .int .i64 0, .int .i64 0, .int .i64 0, .slice none 0 0, .int .i64 0, .int .i64 0, .int .i64 0, .int .i64 0, .slice none 0 0, .int .i64 0, .int .i64 0, .int .u64 0, .int .i64 0, .slice none 0 0, .slice none 0 0, .int .i64 0, .int .i64 0, .int .u64 0, .slice none 0 0, .int .i64 0, .int .i64 0, .slice none 0 0, .int .u64 0, .slice none 0 0, .int .u64 0, .int .u64 0] 35)) := (Fr.refl Non _).alloc _
      have ba1 := ba0.fr fa1 (fun e => e)
      have xd1 := OpL.frame xd0 fa1
      have fr1 := fr0.trans fa1 (fun _ _ e => e)
      refine hK.out _ _ ba1 (fun _ => ?_)
      clear hK K
      try simp only [put_lit2, List.set]
      refine wpAnyH_only2 2 (by kernel_rfl) rfl (by kernel_rfl) (fun K hK => ?_)
      go_simp
      go_wp2_with (go_at_call 16; (with_reducible refine (k1.out _).mono ?_); rintro _ u2 ⟨rfl, f2⟩)
      have ba2 := ba1.fr f2 (fun e => e)
      have xd2 := OpL.frame xd1 f2
      have fr2 := fr1.trans f2 (fun _ _ e => e)
      refine hK.out _ _ ba2 (fun _ => ?_)
      clear hK K
      try simp only [put_lit2, List.set]
      refine wpAnyH_only2 4 (by kernel_rfl) rfl (by kernel_rfl) (fun K hK => ?_)
      go_simp
      go_wp2_with (go_at_call 15; (with_reducible refine (k2.out _ xd2).mono ?_); rintro _ u3 ⟨y, rfl, hyop, yown, f3⟩)
      have ba3 := ba2.fr f3 (fun e => e)
      have xd3 := OpL.frame xd2 f3
      have fr3 := fr2.trans f3 (fun _ _ e => e)
      refine hK.out _ _ ba3 (fun _ => ?_)
      clear hK K
      try simp only [put_lit2, List.set]
      have bz : Blk u3 w3.heap.size 35 #[.int .i64 0, .int .i64 0, .int .i64 0, .int .i64 0, .slice none 0 0, .int .i64 0, .int .i64 0, .int .i64 0, .int .i64 0, .slice none 0 0, .int .i64 0, .int .i64 0, .int .u64 0, .int .i64 0, .slice none 0 0, .slice none 0 0, .int .i64 0, .int .i64 0, .int .u64 0, .slice none 0 0, .int .i64 0, .int .i64 0, .slice none 0 0, .int .u64 0, .slice none 0 0, .int .u64 0, .int .u64 0] := (bz1.fr f2 (fun e => e)).fr f3 (fun e => e)
      have hgs : w3.drew.heap.size ≤ w3.heap.size := Nat.le_refl _
      have hga : ga ≠ w3.heap.size := Nat.ne_of_lt ba0.lt
      have yo := yown
      have hlow : bw ≤ u2.heap.size := by rw [← hbw3.out]; exact fr2.size
      refine wpAnyH_only2 6 (by kernel_rfl) rfl (by kernel_rfl) (fun K hK => ?_)
      have honey := one_cells y
      refine oper_store_row 35 (.tmp 5) (.tmp 23) (g := w3.heap.size) (cs := y.cells) rfl rfl (by rfl) (by rfl) bz hi rfl honey ?_
      have hne : ga ≠ w3.heap.size := hga
      have baF := ba3.setRow_far (cs := y.cells) hne
      have bsF := bz.setRow (cs := y.cells)
      have frF := fr3.setRow (g := w3.heap.size) (fun h => absurd h (Nat.not_lt.2 hgs)) y.cells
      have yoF := (yo.keep ((Fr.refl (One (w3.heap.size)) (u3)).setRow (g := w3.heap.size) (fun _ => rfl) y.cells) ((Types.one bz).mono (fun t e => .inl e))).lower hlow
      refine hK.out _ _ baF (fun hzz => ?_)
      clear hK K hzz
      refine wpAnyH_done (by kernel_rfl) ?_ _
      go_simp
      clear hne honey bz hgs hga hlow yo yown
      revert yoF frF bsF baF hyop
      generalize (u3).setRow (w3.heap.size) y.cells = wF
      generalize w3.heap.size = gs
      revert wF gs y
      exact fin
  case hp =>
    intro y wF gs hyop baF bsF frF yoF
    clear k1 k2 hyop ba0 xd0 fr0
    have tF := Turn.refl bw wF
    go_upto_region 4 with (fail)
    go_wp2_with (fail)
    go_loopw [6] (fun v wr => ∃ k : Nat, v = .int .i64 (k : Int) ∧ k ≤ y.past.length ∧ Turn bw wF wr) (fun v _ => y.past.length - (intOf v).toNat)
    case atStart => exact ⟨0, rfl, by omega, tF⟩
    case round =>
      obtain ⟨k, rfl, hkt1, t1⟩ := hrel
      have ct1 : wr.cell? ⟨gs, 4, none⟩ = some (.slice y.pastA y.past.length y.pastC) := (t1.op bsF).cell 4
      by_cases hlt : k < y.past.length
      · obtain ⟨kk, vv, hA, hz, hq, hset⟩ := t1.cell yoF.past (Nat.le_refl bw) (j := k * 3 + 1) (by omega) (by decide) (by first | (intro _ i; omega) | (intro e; exact absurd e (by decide)))
        rw [hA] at ct1
        have bn := yoF.past.1.2
        have i1 : (0 : Int) ≤ k := by omega
        have i2 : (k : Int) < y.past.length := by omega
        have i3 : (k : Int).toNat = k := by omega
        go_wp2_with (fail)
        go_roundw
        case rel => exact ⟨k + 1, by go_num, by omega, hset _⟩
        case measure => simp [intOf]; omega
      · obtain rfl : k = y.past.length := by omega
        go_wp2_with (fail)
        go_loopw [7] (fun v wr => ∃ k : Nat, v = .int .i64 (k : Int) ∧ k ≤ y.path.length ∧ Turn bw wF wr) (fun v _ => y.path.length - (intOf v).toNat)
        case atStart => exact ⟨0, rfl, by omega, t1⟩
        case round =>
          obtain ⟨k, rfl, hkt2, t2⟩ := hrel
          have ct2 : wr.cell? ⟨gs, 9, none⟩ = some (.slice y.pathA y.path.length y.pathC) := (t2.op bsF).cell 9
          by_cases hlt : k < y.path.length
          · obtain ⟨kk, vv, hA, hz, hq, hset⟩ := t2.cell yoF.path (Nat.le_refl bw) (j := k * 2) (by omega) (by decide) (by first | (intro _ i; omega) | (intro e; exact absurd e (by decide)))
            rw [hA] at ct2
            have bn := yoF.path.1.2
            have i1 : (0 : Int) ≤ k := by omega
            have i2 : (k : Int) < y.path.length := by omega
            have i3 : (k : Int).toNat = k := by omega
            obtain ⟨nd, hnd⟩ : ∃ nd, y.path[k]? = some nd := ⟨_, List.getElem?_eq_getElem hlt⟩
            have hmem := List.mem_of_getElem? hnd
            obtain ⟨ln, hln⟩ := hid_ex nd.xs.length
            have bm := (yoF.nodes nd hmem).1.2
            rw [hln.out] at bm
            have hset77 := hset (.int .u64 77)
            go_wp2_with (fail)
            go_loopw [8] (fun v wr => ∃ j : Nat, v = .int .i64 (j : Int) ∧ j ≤ ln ∧ Turn bw wF wr) (fun v _ => ln - (intOf v).toNat)
            case atStart => exact ⟨0, rfl, by omega, hset77⟩
            case round =>
              rename_i wr0
              obtain ⟨j, rfl, hj3, t3⟩ := hrel
              have c3 : wr.cell? ⟨gs, 9, none⟩ = some (.slice y.pathA y.path.length y.pathC) := (t3.op bsF).cell 9
              rw [hA] at c3
              obtain ⟨kk2, hA2, cn⟩ := t3.node yoF.path hnd
              rw [hA] at hA2
              cases hA2
              rw [hln.out] at cn
              by_cases hjt : j < ln
              · obtain ⟨kb2, vb, hB, hzb, hqb, hsetb⟩ := t3.cell (yoF.nodes nd hmem) (Nat.le_refl bw) (j := j * 4 + 3) (by rw [hln.out]; omega) (by decide) (by intro e; exact absurd e (by decide))
                rw [hB] at cn
                have j1 : (0 : Int) ≤ j := by omega
                have j2 : (j : Int) < ln := by omega
                have j3 : (j : Int).toNat = j := by omega
                go_wp2_with (fail)
                go_roundw
                case rel => exact ⟨j + 1, by go_num, by omega, hsetb _⟩
                case measure => simp [intOf]; omega
              · go_wp2_with (fail)
                go_roundw
                case rel => exact ⟨k + 1, by go_num, by omega, t3⟩
                case measure => simp [intOf]; omega
          · obtain rfl : k = y.path.length := by omega
            go_wp2_with (fail)
            go_loopw [9] (fun v wr => ∃ k : Nat, v = .int .i64 (k : Int) ∧ k ≤ y.body.length ∧ Turn bw wF wr) (fun v _ => y.body.length - (intOf v).toNat)
            case atStart => exact ⟨0, rfl, by omega, t2⟩
            case round =>
              obtain ⟨k, rfl, hkt4, t4⟩ := hrel
              have ct4 : wr.cell? ⟨gs, 14, none⟩ = some (.slice y.bodyA y.body.length y.bodyC) := (t4.op bsF).cell 14
              by_cases hlt : k < y.body.length
              · obtain ⟨kk, vv, hA, hz, hq, hset⟩ := t4.cell yoF.body (Nat.le_refl bw) (j := k) (by omega) (by decide) (by first | (intro _ i; omega) | (intro e; exact absurd e (by decide)))
                rw [hA] at ct4
                have bn := yoF.body.1.2
                have i1 : (0 : Int) ≤ k := by omega
                have i2 : (k : Int) < y.body.length := by omega
                have i3 : (k : Int).toNat = k := by omega
                go_wp2_with (fail)
                go_roundw
                case rel => exact ⟨k + 1, by go_num, by omega, hset _⟩
                case measure => simp [intOf]; omega
              · obtain rfl : k = y.body.length := by omega
                go_wp2_with (fail)
                go_loopw [10] (fun v wr => ∃ k : Nat, v = .int .i64 (k : Int) ∧ k ≤ y.guards.length ∧ Turn bw wF wr) (fun v _ => y.guards.length - (intOf v).toNat)
                case atStart => exact ⟨0, rfl, by omega, t4⟩
                case round =>
                  obtain ⟨k, rfl, hkt5, t5⟩ := hrel
                  have ct5 : wr.cell? ⟨gs, 19, none⟩ = some (.slice y.guardsA y.guards.length y.guardsC) := (t5.op bsF).cell 19
                  by_cases hlt : k < y.guards.length
                  · obtain ⟨kk, vv, hA, hz, hq, hset⟩ := t5.cell yoF.guards (Nat.le_refl bw) (j := k) (by omega) (by decide) (by first | (intro _ i; omega) | (intro e; exact absurd e (by decide)))
                    rw [hA] at ct5
                    have bn := yoF.guards.1.2
                    have i1 : (0 : Int) ≤ k := by omega
                    have i2 : (k : Int) < y.guards.length := by omega
                    have i3 : (k : Int).toNat = k := by omega
                    go_wp2_with (fail)
                    go_roundw
                    case rel => exact ⟨k + 1, by go_num, by omega, hset _⟩
                    case measure => simp [intOf]; omega
                  · obtain rfl : k = y.guards.length := by omega
                    go_upto_region 24 with (fail)
                    have hbw' := Nat.le_of_eq hbw3.out
                    have hnf : ∀ k, k < w3.heap.size → ¬ From bw k := fun k h e => by have e' : bw ≤ k := e; omega
                    have hF0 := (frF.of_non (From bw)).trans t5.fr (fun _ _ e => e)
                    have hF : Fr (From bw) w3 wr := ⟨hF0.os, hF0.tape, hF0.output, hF0.size, hF0.block⟩
                    obtain ⟨bB, hbB⟩ := hid_ex wr.heap.size
                    have x5 := OpL.at.fr xat3 hF hnf
                    have s5 := hF.size
                    have s5' : w3.heap.size ≤ bB := by rw [← hbB.out]; exact s5
                    have ba5 := hb3.fr hF (hnf ga hga3)
                    have rw5 := wown.rd.fr hF hnf
                    have fr5 : Fr Non w wr := fr3.trans hF (fun i hi e => hnf i (Nat.lt_of_lt_of_le hi fr3.size) e)
                    clear t1 t2 t4 t5 tF yoF bsF baF frF hF hF0 hnf hbw' ct5 wown xat3 hb3
                    have kq := Lib.hid (fun w' (h : x.at w' w'.heap.size) => put_any x w' h xok)
                    have hget := Lib.hid (get_put xok.okR)
                    rw [hPP.out] at kq hget
                    go_wp2_with (first | (refine wpList_load_row rfl 35 (.tmp 3) rfl rfl ba5 Tryz.underlying35 rfl hi ?_))
                    refine (kq.out _ (x5.mono s5)).mono ?_
                    rintro _ w6 ⟨Ab, cb, rfl, bown, f6⟩
                    rw [hnp.out] at bown ⊢
                    rw [hbB.out] at bown
                    have hcb := bown.cap
                    have x6 := OpL.at.fr x5 f6 (fun _ _ e => e)
                    have ba6 := ba5.fr f6 (fun e => e)
                    have rw6 := rw5.fr f6 (fun _ _ e => e)
                    have fr6 := fr5.trans f6 (fun _ _ e => e)
                    have s6 := f6.size
                    have hrow : ∀ i, rowOf Ab = some i → w3.heap.size ≤ i ∧ i < w6.heap.size := fun i hi' => by have h := bown.row i hi'; have h2 := h.1; have h3 := h.2; omega
                    clear x5 ba5 rw5 fr5 f6
                    go_wp2_with (fail)
                    refine (opGet_any _ np cb Ab PP _ hnp bown.rd (by omega)).mono ?_
                    rintro _ w7 ⟨z, hz, rfl, zown, f7⟩
                    rw [hget.out] at hz ⊢
                    have hzop : z.op = x.op := hz
                    have honez := one_cells z
                    have hz7 := Blk.new w7 35 OpL.zero.cells
                    have bown7 := bown.fr f7 (fun _ _ e => e)
                    have x7 := OpL.at.fr x6 f7 (fun _ _ e => e)
                    have ba7 := ba6.fr f7 (fun e => e)
                    have rw7 := rw6.fr f7 (fun _ _ e => e)
                    have fr7 := fr6.trans f7 (fun _ _ e => e)
                    have s7 := f7.size
                    clear x6 ba6 rw6 fr6 f7 hz bown
                    go_upto_region 26 with (first | (refine wpList_store_new rfl 35 (.tmp 12) (.tmp 95) rfl rfl rfl rfl hz7 hi rfl honez ?_; intro w8 hb8 hf8 hs8))
                    have fx8 : Fr Non w7 w8 := ((Fr.refl Non w7).alloc (.cells OpL.zero.cells 35)).trans hf8 (fun k hk e => by have e' : k = w7.heap.size := e; omega)
                    have bown8 := bown7.fr fx8 (fun _ _ e => e)
                    have x8 := OpL.at.fr x7 fx8 (fun _ _ e => e)
                    have ba8 := ba7.fr fx8 (fun e => e)
                    have rw8 := rw7.fr fx8 (fun _ _ e => e)
                    have fr8 := fr7.trans fx8 (fun _ _ e => e)
                    have zown8 := zown.above fx8 (fun _ _ e => e)
                    have s8 := fx8.size
                    clear x7 ba7 rw7 fr7 fx8 hz7 hf8 hs8 bown7 zown honez
                    obtain ⟨gz, hgz⟩ := hid_ex w7.heap.size
                    have hgz' : w6.heap.size ≤ gz := by rw [← hgz.out]; exact s7
                    rw [hgz.out] at hb8 ⊢
                    go_wp2_with (fail)
                    go_loopw [14] (fun v wr => ∃ (k : Nat) (bs' : List UInt8), v = .int .i64 (k : Int) ∧ k ≤ np ∧ Own wr bB 5 1 Ab np cb (bs'.map Bv) ∧ Fr (fun i => rowOf Ab = some i) w8 wr) (fun v _ => np - (intOf v).toNat)
                    case atStart => exact ⟨0, PP, rfl, by omega, bown8, Fr.refl _ _⟩
                    case round =>
                      obtain ⟨k, bs', rfl, hk7, hown, hfr⟩ := hrel
                      by_cases hlt : k < np
                      · obtain ⟨g, cur, yb, hA, hblk, hcur, hge, hown'⟩ := Own.put2 hown hlt 77
                        subst hA
                        have cz : wr.cell? ⟨g, k, none⟩ = some (Bv yb) := (hblk.cell k).trans hcur
                        have qz := hblk.frozen k
                        have i1 : (0 : Int) ≤ k := by omega
                        have i2 : (k : Int) < np := by omega
                        have i3 : (k : Int).toNat = k := by omega
                        go_wp2_with (fail)
                        go_roundw
                        case rel => exact ⟨k + 1, bs'.set k 77, by go_num, by omega, hown', hfr.setCell (p := ⟨g, k, none⟩) (fun _ => rfl) _⟩
                        case measure => simp [intOf]; omega
                      · go_upto_region 30 with (fail)
                        have hnr : ∀ i, i < w3.heap.size → ¬ rowOf Ab = some i := fun i hi' e => by have := (hrow i e).1; omega
                        have x9 := OpL.at.fr x8 hfr hnr
                        have xd0 := OpL.frame (x9.mono (Nat.le_trans (by omega) hfr.size)) ((Fr.refl Non wr).drew)
                        have ba0 : Blk wr.drew ga 35 x.cells := (ba8.fr hfr (hnr ga hga3)).drew
                        have bz0 : Blk wr.drew gz 35 z.cells := (hb8.fr hfr (fun e => by have := (hrow gz e).2; omega)).drew
                        have rw0 : Rd wr.drew w3.heap.size 1 Aw np (PP.map Bv) := (rw8.fr hfr hnr).drew
                        have zd0 := OpL.frame (zown8.above hfr (fun i hi' e => by have := (hrow i e).2; omega)).at ((Fr.refl Non wr).drew)
                        have fr9 : Fr Non w wr := fr8.trans hfr (fun i hi' e => by have h1 := (hrow i e).1; have h2 := fr3.size; omega)
                        have hkw0 : KindsAt wr.drew := hk.fr fr9.drew
                        have fr0 := fr9.drew
                        have zok : z.op.ok := by rw [hzop]; exact xok
                        have kx := Lib.hid (fun w' (h : x.at w' w'.heap.size) => put11_any x w' h xok)
                        have kz := Lib.hid (fun w' (h : z.at w' w'.heap.size) => put11_any z w' h zok)
                        rw [hPP.out] at kx
                        rw [hzop, hPP.out] at kz
                        have klv := Lib.hid (fun (w' : World) (h : KindsAt w') => lives11_any w' h)
                        have hlz := ldS_blk (P := Tryz.prog) gz 35 Tryz.underlying35 rfl (cs := z.cells) hi
                        clear x8 x9 ba8 hb8 rw8 zown8 fr8 fr9 hfr hown hrow hnr hzop zok xok hk kq hget hgz hPP
                        refine wp_region_held_drew (S := fun w' => Blk w' ga 35 x.cells ∧ Blk w' gz 35 z.cells ∧ Rd w' w3.heap.size 1 Aw np (PP.map Bv)) (by kernel_rfl) ⟨ba0, bz0, rw0⟩ (fun _ => ?_)
                        refine wpAnyH_take (i := 0) (v := ?_) rfl (by kernel_rfl) (by kernel_rfl) (by kernel_rfl) (fun _ _ _ h => h) (Or.inl ⟨by kernel_rfl, ?_⟩) ⟨ba0, bz0, rw0⟩ ?_
                        rotate_left
                        focus (intro w' hSw; have b1 := hSw.1; have b2 := hSw.2.1; have b3 := hSw.2.2; go_simp; (try with_reducible rfl))
                        try simp only [put_lit2, List.set]
                        refine wpAnyH_take (i := 1) (v := ?_) rfl (by kernel_rfl) (by kernel_rfl) (by kernel_rfl) (fun _ _ _ h => h) (Or.inl ⟨by kernel_rfl, ?_⟩) ⟨ba0, bz0, rw0⟩ ?_
                        rotate_left
                        focus (intro w' hSw; have b1 := hSw.1; have b2 := hSw.2.1; have b3 := hSw.2.2; go_simp; (try with_reducible rfl))
                        try simp only [put_lit2, List.set]
                        refine wpAnyH_take (i := 2) (v := ?_) rfl (by kernel_rfl) (by kernel_rfl) (by kernel_rfl) (fun _ _ _ h => h) (Or.inl ⟨by kernel_rfl, ?_⟩) ⟨ba0, bz0, rw0⟩ ?_
                        rotate_left
                        focus (intro w' hSw; have b1 := hSw.1; have b2 := hSw.2.1; have b3 := hSw.2.2; go_simp; (try with_reducible rfl))
                        try simp only [put_lit2, List.set]
                        refine wpAnyH_take (i := 3) (v := ?_) rfl (by kernel_rfl) (by kernel_rfl) (by kernel_rfl) (fun _ _ _ h => h) (Or.inl ⟨by kernel_rfl, ?_⟩) ⟨ba0, bz0, rw0⟩ ?_
                        rotate_left
                        focus (intro w' hSw; have b1 := hSw.1; have b2 := hSw.2.1; have b3 := hSw.2.2; go_simp; (try with_reducible rfl))
                        try simp only [put_lit2, List.set]
                        refine wpAnyH_take (i := 6) (v := ?_) rfl (by kernel_rfl) (by kernel_rfl) (by kernel_rfl) (fun _ _ _ h => h) (Or.inl ⟨by kernel_rfl, ?_⟩) ⟨ba0, bz0, rw0⟩ ?_
                        rotate_left
                        focus (intro w' hSw; have b1 := hSw.1; have b2 := hSw.2.1; have b3 := hSw.2.2; go_simp; (try with_reducible rfl))
                        try simp only [put_lit2, List.set]
                        refine wpAnyH_take (i := 7) (v := ?_) rfl (by kernel_rfl) (by kernel_rfl) (by kernel_rfl) (fun _ _ _ h => h) (Or.inl ⟨by kernel_rfl, ?_⟩) ⟨ba0, bz0, rw0⟩ ?_
                        rotate_left
                        focus (intro w' hSw; have b1 := hSw.1; have b2 := hSw.2.1; have b3 := hSw.2.2; have q := str_rd (c := cw) b3; go_simp; (try with_reducible rfl))
                        try simp only [put_lit2, List.set]
                        refine wpAnyH_only2 4 (by kernel_rfl) rfl (by kernel_rfl) (fun K hK => ?_)
                        go_simp
                        go_wp2_with (go_at_call 14; (with_reducible refine (kx.out _ xd0).mono ?_); rintro _ v1 ⟨A1, c1, rfl, o1, f1⟩; have ba1 := ba0.fr f1 (fun e => e); have bz1 := bz0.fr f1 (fun e => e); have rw1 := rw0.fr f1 (fun _ _ e => e); have xd1 := OpL.frame xd0 f1; have zd1 := OpL.frame zd0 f1; have hkw1 := hkw0.fr f1; have fr1 := fr0.trans f1 (fun _ _ e => e))
                        refine hK.out _ _ ⟨ba1, bz1, rw1⟩ (fun _ => ?_)
                        clear hK K
                        try simp only [put_lit2, List.set]
                        refine wpAnyH_mono2 (S' := fun w' => Blk w' ga 35 x.cells ∧ Blk w' gz 35 z.cells ∧ Rd w' w3.heap.size 1 Aw np (PP.map Bv) ∧ Rd w' v1.heap.size 1 A1 PP.length (PP.map Bv)) (fun _ h => ⟨h.1, h.2.1, h.2.2.1⟩) ?_
                        have ra1 := o1.rd
                        refine wpAnyH_take (i := 5) (v := ?_) rfl (by kernel_rfl) (by kernel_rfl) (by kernel_rfl) (fun _ _ _ h => h) (Or.inl ⟨by kernel_rfl, ?_⟩) ⟨ba1, bz1, rw1, ra1⟩ ?_
                        rotate_left
                        focus (intro w' hSw; have b1 := hSw.1; have b2 := hSw.2.1; have b3 := hSw.2.2.1; have b4 := hSw.2.2.2; have q := str_rd (c := c1) b4; go_simp; (try with_reducible rfl))
                        try simp only [put_lit2, List.set]
                        refine wpAnyH_take (i := 8) (v := ?_) rfl (by kernel_rfl) (by kernel_rfl) (by kernel_rfl) (fun _ _ _ h => h) (Or.inl ⟨by kernel_rfl, ?_⟩) ⟨ba1, bz1, rw1, ra1⟩ ?_
                        rotate_left
                        focus (intro w' hSw; have b1 := hSw.1; have b2 := hSw.2.1; have b3 := hSw.2.2.1; have b4 := hSw.2.2.2; go_simp; (try with_reducible rfl))
                        try simp only [put_lit2, List.set]
                        refine wpAnyH_take (i := 9) (v := ?_) rfl (by kernel_rfl) (by kernel_rfl) (by kernel_rfl) (fun _ _ _ h => h) (Or.inl ⟨by kernel_rfl, ?_⟩) ⟨ba1, bz1, rw1, ra1⟩ ?_
                        rotate_left
                        focus (intro w' hSw; have b1 := hSw.1; have b2 := hSw.2.1; have b3 := hSw.2.2.1; have b4 := hSw.2.2.2; go_simp; (try with_reducible rfl))
                        try simp only [put_lit2, List.set]
                        refine wpAnyH_take (i := 10) (v := ?_) rfl (by kernel_rfl) (by kernel_rfl) (by kernel_rfl) (fun _ _ _ h => h) (Or.inl ⟨by kernel_rfl, ?_⟩) ⟨ba1, bz1, rw1, ra1⟩ ?_
                        rotate_left
                        focus (intro w' hSw; have b1 := hSw.1; have b2 := hSw.2.1; have b3 := hSw.2.2.1; have b4 := hSw.2.2.2; go_simp; (try with_reducible rfl))
                        try simp only [put_lit2, List.set]
                        refine wpAnyH_take (i := 11) (v := ?_) rfl (by kernel_rfl) (by kernel_rfl) (by kernel_rfl) (fun _ _ _ h => h) (Or.inl ⟨by kernel_rfl, ?_⟩) ⟨ba1, bz1, rw1, ra1⟩ ?_
                        rotate_left
                        focus (intro w' hSw; have b1 := hSw.1; have b2 := hSw.2.1; have b3 := hSw.2.2.1; have b4 := hSw.2.2.2; go_simp; (try with_reducible rfl))
                        try simp only [put_lit2, List.set]
                        refine wpAnyH_take (i := 14) (v := ?_) rfl (by kernel_rfl) (by kernel_rfl) (by kernel_rfl) (fun _ _ _ h => h) (Or.inl ⟨by kernel_rfl, ?_⟩) ⟨ba1, bz1, rw1, ra1⟩ ?_
                        rotate_left
                        focus (intro w' hSw; have b1 := hSw.1; have b2 := hSw.2.1; have b3 := hSw.2.2.1; have b4 := hSw.2.2.2; go_simp; (try with_reducible rfl))
                        try simp only [put_lit2, List.set]
                        refine wpAnyH_take (i := 15) (v := ?_) rfl (by kernel_rfl) (by kernel_rfl) (by kernel_rfl) (fun _ _ _ h => h) (Or.inl ⟨by kernel_rfl, ?_⟩) ⟨ba1, bz1, rw1, ra1⟩ ?_
                        rotate_left
                        focus (intro w' hSw; have b1 := hSw.1; have b2 := hSw.2.1; have b3 := hSw.2.2.1; have b4 := hSw.2.2.2; have q := str_rd (c := cw) b3; go_simp; (try with_reducible rfl))
                        try simp only [put_lit2, List.set]
                        refine wpAnyH_only2 12 (by kernel_rfl) rfl (by kernel_rfl) (fun K hK => ?_)
                        go_simp
                        go_wp2_with (go_at_call 14; (with_reducible refine (kz.out _ zd1).mono ?_); rintro _ v2 ⟨A2, c2, rfl, o2, f2⟩; have ba2 := ba1.fr f2 (fun e => e); have bz2 := bz1.fr f2 (fun e => e); have rw2 := rw1.fr f2 (fun _ _ e => e); have ra2 := ra1.fr f2 (fun _ _ e => e); have xd2 := OpL.frame xd1 f2; have zd2 := OpL.frame zd1 f2; have hkw2 := hkw1.fr f2; have fr2 := fr1.trans f2 (fun _ _ e => e))
                        refine hK.out _ _ ⟨ba2, bz2, rw2, ra2⟩ (fun _ => ?_)
                        clear hK K
                        try simp only [put_lit2, List.set]
                        refine wpAnyH_mono2 (S' := fun w' => Blk w' ga 35 x.cells ∧ Blk w' gz 35 z.cells ∧ Rd w' w3.heap.size 1 Aw np (PP.map Bv) ∧ Rd w' v1.heap.size 1 A1 PP.length (PP.map Bv) ∧ Rd w' v2.heap.size 1 A2 PP.length (PP.map Bv)) (fun _ h => ⟨h.1, h.2.1, h.2.2.1, h.2.2.2.1⟩) ?_
                        have rb2 := o2.rd
                        refine wpAnyH_take (i := 13) (v := ?_) rfl (by kernel_rfl) (by kernel_rfl) (by kernel_rfl) (fun _ _ _ h => h) (Or.inl ⟨by kernel_rfl, ?_⟩) ⟨ba2, bz2, rw2, ra2, rb2⟩ ?_
                        rotate_left
                        focus (intro w' hSw; have b1 := hSw.1; have b2 := hSw.2.1; have b3 := hSw.2.2.1; have b4 := hSw.2.2.2.1; have b5 := hSw.2.2.2.2; have q := str_rd (c := c2) b5; go_simp; (try with_reducible rfl))
                        try simp only [put_lit2, List.set]
                        refine wpAnyH_take (i := 16) (v := ?_) rfl (by kernel_rfl) (by kernel_rfl) (by kernel_rfl) (fun _ _ _ h => h) (Or.inl ⟨by kernel_rfl, ?_⟩) ⟨ba2, bz2, rw2, ra2, rb2⟩ ?_
                        rotate_left
                        focus (intro w' hSw; have b1 := hSw.1; have b2 := hSw.2.1; have b3 := hSw.2.2.1; have b4 := hSw.2.2.2.1; have b5 := hSw.2.2.2.2; go_simp; (try with_reducible rfl))
                        try simp only [put_lit2, List.set]
                        refine wpAnyH_take (i := 17) (v := ?_) rfl (by kernel_rfl) (by kernel_rfl) (by kernel_rfl) (fun _ _ _ h => h) (Or.inl ⟨by kernel_rfl, ?_⟩) ⟨ba2, bz2, rw2, ra2, rb2⟩ ?_
                        rotate_left
                        focus (intro w' hSw; have b1 := hSw.1; have b2 := hSw.2.1; have b3 := hSw.2.2.1; have b4 := hSw.2.2.2.1; have b5 := hSw.2.2.2.2; go_simp; (try with_reducible rfl))
                        try simp only [put_lit2, List.set]
                        refine wpAnyH_take (i := 18) (v := ?_) rfl (by kernel_rfl) (by kernel_rfl) (by kernel_rfl) (fun _ _ _ h => h) (Or.inl ⟨by kernel_rfl, ?_⟩) ⟨ba2, bz2, rw2, ra2, rb2⟩ ?_
                        rotate_left
                        focus (intro w' hSw; have b1 := hSw.1; have b2 := hSw.2.1; have b3 := hSw.2.2.1; have b4 := hSw.2.2.2.1; have b5 := hSw.2.2.2.2; go_simp; (try with_reducible rfl))
                        try simp only [put_lit2, List.set]
                        refine wpAnyH_only2 19 (by kernel_rfl) rfl (by kernel_rfl) (fun K hK => ?_)
                        go_simp
                        go_wp2_with (go_at_call 13; (with_reducible refine (klv.out _ hkw2).mono ?_); rintro _ v3 ⟨rfl, f3⟩; have ba3 := ba2.fr f3 (fun e => e); have bz3 := bz2.fr f3 (fun e => e); have rw3 := rw2.fr f3 (fun _ _ e => e); have ra3 := ra2.fr f3 (fun _ _ e => e); have rb3 := rb2.fr f3 (fun _ _ e => e); have xd3 := OpL.frame xd2 f3; have zd3 := OpL.frame zd2 f3; have hkw3 := hkw2.fr f3; have fr3 := fr2.trans f3 (fun _ _ e => e))
                        refine hK.out _ _ ⟨ba3, bz3, rw3, ra3, rb3⟩ (fun _ => ?_)
                        clear hK K
                        try simp only [put_lit2, List.set]
                        refine wpAnyH_take (i := 20) (v := ?_) rfl (by kernel_rfl) (by kernel_rfl) (by kernel_rfl) (fun _ _ _ h => h) (Or.inl ⟨by kernel_rfl, ?_⟩) ⟨ba3, bz3, rw3, ra3, rb3⟩ ?_
                        rotate_left
                        focus (intro w' hSw; have b1 := hSw.1; have b2 := hSw.2.1; have b3 := hSw.2.2.1; have b4 := hSw.2.2.2.1; have b5 := hSw.2.2.2.2; go_simp; (try with_reducible rfl))
                        try simp only [put_lit2, List.set]
                        refine wpAnyH_take (i := 21) (v := ?_) rfl (by kernel_rfl) (by kernel_rfl) (by kernel_rfl) (fun _ _ _ h => h) (Or.inl ⟨by kernel_rfl, ?_⟩) ⟨ba3, bz3, rw3, ra3, rb3⟩ ?_
                        rotate_left
                        focus (intro w' hSw; have b1 := hSw.1; have b2 := hSw.2.1; have b3 := hSw.2.2.1; have b4 := hSw.2.2.2.1; have b5 := hSw.2.2.2.2; go_simp; (try with_reducible rfl))
                        try simp only [put_lit2, List.set]
                        refine wpAnyH_done (by kernel_rfl) ?_ _
                        go_simp
                        go_wp2
                        go_ret
                        exact ⟨rfl, fr3⟩
end Oq
end Go.Proofs.YthmlaigpdpdpjaaGreatDoor
