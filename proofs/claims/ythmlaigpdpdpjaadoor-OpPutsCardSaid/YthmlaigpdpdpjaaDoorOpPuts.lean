/-
  OpPuts: an operation's bytes, and its name, are the document's.
  Conditions: the package variable op.kinds as its text lays it.
-/
import Derived.Test.YthmlaigpdpdpjaaDoorOpLives
import Derived.Test.YthmlaigpdpdpjaaDoorOpFew
import Derived.Test.YthmlaigpdpdpjaaDoorHashAll
import Derived.Test.YthmlaigpdpdpjaaDoorBent
import Derived.Deep.CutBlock
import Derived.Deep.DeepCutAuto
namespace Go.Proofs.YthmlaigpdpdpjaaDoor
open Go.RowKit
attribute [local go_sem ↓] Go.wp_at_zero Go.wp_at_succ
namespace Oq
attribute [local go_sem] Bool.not_false Bool.not_true
attribute [local go_sem ↓] loadAt_op
attribute [local go_sem ↓] eq_ident

theorem str_rd {B n c : Nat} {A : Option Addr} {bs : List UInt8} {w : World} (h : Rd w B 1 A n (bs.map Bv)) : (convert 23 9 (.slice A n c)).run Tryd.prog w = .ok (.string (str bs)) w :=
  run_str 23 5 9 Tryd.underlying23 Tryd.underlying5 Tryd.underlying9 w _ _ _ c _ h
theorem wpAnyH_only {P : Program} {Q : Exit → Act → World → Prop} {ops : Array Oper} {md : Region.Mode} {S : World → Prop} {fuel : Nat} {listed : Array Bool} {a : Act} {w : World} (i : Nat) {o : Oper} (hr : Region.ready md ops listed = [i]) (ho : ops[i]? = some o)
    (hw : Region.wanted o (yielded ops a.tmps) = true)
    (h : ∀ K' : Act → World → Prop, Shut (∀ a w, S w → (S w → wpAnyH P md ops Q S fuel (listed.setIfInBounds i true) a w) → K' a w) → Oper.wp P o a w K' Q) :
    wpAnyH P md ops Q S (fuel + 1) listed a w :=
  wpAnyH_ready hr (by simp) (AllReadyH.cons ho (fun K' hK => by rw [if_pos hw]; exact h K' hK) AllReadyH.nil)
/-- What is held may say more from here on. -/
theorem wpAnyH_mono {P : Program} {Q : Exit → Act → World → Prop} {ops : Array Oper} {md : Region.Mode} {S S' : World → Prop} (hS : ∀ w, S' w → S w) : ∀ {fuel : Nat} {listed : Array Bool} {a : Act} {w : World}, wpAnyH P md ops Q S' fuel listed a w → wpAnyH P md ops Q S fuel listed a w
  | 0, _, _, _, h => h
  | _ + 1, _, _, _, h => ⟨h.1, fun i hi => wpOp_mono (fun _ w' h' => ⟨hS w' h'.1, wpAnyH_mono hS h'.2⟩) (h.2 i hi)⟩
theorem OpL.at.sig {x : OpL} {w : World} {B : Nat} (o : x.at w B) (r s : Nat) : ({ x with r := r, s := s } : OpL).at w B := ⟨o.past, o.path, o.nodes, o.body, o.refs, o.guards, o.boxes, o.hist, o.seals⟩
theorem Id.eq_self (x : Id) : Id.eq x x = true := (Id.eq_iff x x).2 rfl
attribute [local go_sem] Id.eq_self

theorem id_mk (b s : Int) (u : Nat) : ∃ i : Id, i.b = b ∧ i.s = s ∧ i.u = u := ⟨⟨b, s, u⟩, rfl, rfl, rfl⟩
/-- An operation's name, twice. -/
theorem ids11_ex (x : OpL) (xok : x.op.ok) : ∃ ix : Id,
    (∀ w' : World, x.at w' w'.heap.size → Calls Tryd.prog 21 #[.agg x.cells] w' (IdPost ix.b ix.s ix.u w')) ∧
    (∀ w' : World, x.at w' w'.heap.size → Calls Tryd.prog 22 #[.agg x.cells] w' (IdPost ix.b ix.s ix.u w')) := by
  obtain ⟨ix, h1, h2, h3⟩ := id_mk x.by_ x.sq x.op.id
  refine ⟨ix, fun w' h => ?_, fun w' h => ?_⟩
  · rw [h1, h2, h3]
    exact id_any x w' h xok
  · rw [h1, h2, h3]
    exact id11_any x w' h xok

set_option maxRecDepth 100000 in
set_option maxHeartbeats 80000000 in
theorem opPuts_law (Al : Option Addr) (cl : Nat) (l : List Int) (how n : Int) (R S : Nat) (w : World) (hk : KindsAt w) (hrl : Rd w w.heap.size 1 Al l.length (l.map Iv)) (hlc : l.length ≤ cl) (hlc' : cl ≤ 9223372036854775807) (hok : ∀ x ∈ l, I64 x)
    (h0 : -9223372036854775808 ≤ how) (h1 : how ≤ 9223372036854775807) (n0 : -9223372036854775808 ≤ n) (n1 : n ≤ 9223372036854775807) (hR : R < 18446744073709551616) (hS : S < 18446744073709551616) :
    Calls Tryd.prog 6 #[.slice Al l.length cl, .int .i64 how, .int .i64 n, .agg #[.int .u64 (R : Int), .int .u64 (S : Int)]] w (BoolPost true w) := by
  have hi : (Tryd.prog.info? 35).map (·.size) = some 27 := by kernel_rfl
  have hok' := Lib.hid hok
  have hR' : U64 R := hR
  have hS' : U64 S := hS
  have hR := Lib.hid hR'
  have hS := Lib.hid hS'
  clear hok hR' hS'
  obtain ⟨nl, hnl⟩ := hid_ex l.length
  rw [hnl.out] at hrl hlc ⊢
  have hbs := Blk.new w 33 #[.int .u64 (R : Int), .int .u64 (S : Int)]
  go_enter Tryd.func6, Tryd.ntmps6
  go_upto_region 1 with (fail)
  have fr0 : Fr Non w (w.alloc (.cells #[.int .u64 (R : Int), .int .u64 (S : Int)] 33)) := (Fr.refl Non w).alloc _
  have hrl0 := hrl.fr fr0 (fun _ _ e => e)
  generalize w.alloc (.cells #[.int .u64 (R : Int), .int .u64 (S : Int)] 33) = w0 at *
  obtain ⟨gs, hgs⟩ := hid_ex w.heap.size
  rw [hgs.out] at hbs ⊢
  go_wp2_with (fail)
  refine (gen_any _ nl cl Al l _ hnl hrl0 hlc hlc' hok').mono ?_
  rintro _ w1 ⟨x, rfl, _, _, xchk, xr, xs, xown, f1⟩
  have xok := gen_ok xchk xr xs
  have xat := xown.at
  have xfew := few_of_chk xchk
  have honex := one_cells x
  have hz1 := Blk.new w1 35 OpL.zero.cells
  clear xchk xr xs xown hrl hrl0 hlc hlc' hok' hnl
  go_upto_region 2 with (first | (refine wpList_store_new rfl 35 (.tmp 9) (.tmp 12) rfl rfl rfl rfl hz1 hi rfl honex ?_; intro w2 hb2 hf2 hs2))
  have fx2 : Fr Non w1 w2 := ((Fr.refl Non w1).alloc (.cells OpL.zero.cells 35)).trans hf2 (fun k hk e => by have e' : k = w1.heap.size := e; omega)
  have fr2 := (fr0.trans f1 (fun _ _ e => e)).trans fx2 (fun _ _ e => e)
  have xat2 := OpL.frame xat fx2
  have hbs2 := (hbs.fr f1 (fun e => e)).fr fx2 (fun e => e)
  clear hz1 hf2 hs2 fr0 f1 fx2 xat hbs
  generalize w1.heap.size = ga at *
  go_wp2_with (first | (refine wpList_load_row rfl 35 (.tmp 9) rfl rfl hb2 Tryd.underlying35 rfl hi ?_))
  refine (bent_any 20 x how n _ xat2 xok xfew (by omega) h0 h1 n0 n1).mono ?_
  rintro _ w3 ⟨y, rfl, yok, _, yat, f3⟩
  have honey := one_cells y
  have hz3 := Blk.new w3 35 OpL.zero.cells
  go_upto_region 3 with (first | (refine wpList_store_new rfl 35 (.tmp 10) (.tmp 16) rfl rfl rfl rfl hz3 hi rfl honey ?_; intro w4 hb4 hf4 hs4))
  have fx4 : Fr Non w3 w4 := ((Fr.refl Non w3).alloc (.cells OpL.zero.cells 35)).trans hf4 (fun k hk e => by have e' : k = w3.heap.size := e; omega)
  have fr4 := (fr2.trans f3 (fun _ _ e => e)).trans fx4 (fun _ _ e => e)
  have f24 := f3.trans fx4 (fun _ _ e => e)
  have ha4 := hb2.fr f24 (fun e => e)
  have hbs4 := hbs2.fr f24 (fun e => e)
  have xat4 := OpL.frame xat2 f24
  have hga : ga < w3.heap.size := Nat.lt_of_lt_of_le hb2.lt f3.size
  have hx5 := (fx4.setNew (Nat.le_refl _) 25 (.int .u64 (R : Int))).setNew (Nat.le_refl _) 26 (.int .u64 (S : Int))
  have yat5 := (OpL.frame yat hx5).sig R S
  have xat5 := OpL.frame xat2 (f3.trans hx5 (fun _ _ e => e))
  have yok5 : ({ y with r := R, s := S } : OpL).op.ok := ⟨yok.by_, yok.sq, yok.kind, yok.at_, yok.past, yok.dev, yok.old, yok.mem, yok.role, yok.path, yok.epoch, yok.n, yok.body, yok.refs, yok.of, yok.guards, yok.need, yok.wait, yok.boxes, yok.pub, yok.hist, hR.out, hS.out⟩
  have hy5 : Blk _ w3.heap.size 35 ({ y with r := R, s := S } : OpL).cells := (hb4.set 25 (.int .u64 (R : Int))).set 26 (.int .u64 (S : Int))
  have hx5b := (hb2.fr (f3.trans hx5 (fun _ _ e => e)) (fun e => e))
  have fr5 := (fr2.trans f3 (fun _ _ e => e)).trans hx5 (fun _ _ e => e)
  have c25 : w4.cell? ⟨w3.heap.size, 25, none⟩ = some _ := hb4.cell 25
  have c26 : w4.cell? ⟨w3.heap.size, 26, none⟩ = some _ := hb4.cell 26
  have z25 := hb4.frozen 25
  have z26 := hb4.frozen 26
  have s0 : w4.cell? ⟨gs, 0, none⟩ = some _ := hbs4.cell 0
  have s1 : w4.cell? ⟨gs, 1, none⟩ = some _ := hbs4.cell 1
  clear hz3 hf4 hs4 fr2 f3 fx4 fr4 f24 ha4 hbs4 xat4 xat2 hb2 hbs2 honex honey yat yok hx5 hR hS h0 h1 n0 n1 xfew
  generalize w3.heap.size = gb at *
  go_upto_region 4 with (fail)
  clear c25 c26 z25 z26 s0 s1 hb4
  generalize (w4.setCell ⟨gb, 25, none⟩ (.int .u64 (R : Int))).setCell ⟨gb, 26, none⟩ (.int .u64 (S : Int)) = w5 at *
  generalize ({ y with r := R, s := S } : OpL) = v at yat5 yok5 hy5
  have hkw := hk.fr fr5
  have hkw0 : KindsAt w5.drew := hk.fr fr5.drew
  have xd0 := OpL.frame xat5 ((Fr.refl Non w5).drew)
  have yd0 := OpL.frame yat5 ((Fr.refl Non w5).drew)
  have ba0 : Blk w5.drew ga 35 x.cells := hx5b
  have bb0 : Blk w5.drew gb 35 v.cells := hy5
  have fr0 := fr5.drew
  have kx1 := Lib.hid (fun w' (h : x.at w' w'.heap.size) => put_any x w' h xok)
  have kx2 := Lib.hid (fun w' (h : x.at w' w'.heap.size) => put11_any x w' h xok)
  have ky1 := Lib.hid (fun w' (h : v.at w' w'.heap.size) => put_any v w' h yok5)
  have ky2 := Lib.hid (fun w' (h : v.at w' w'.heap.size) => put11_any v w' h yok5)
  obtain ⟨ix, kx30, kx40⟩ := ids11_ex x xok
  obtain ⟨iv, ky30, ky40⟩ := ids11_ex v yok5
  have kx3 := Lib.hid kx30
  have kx4 := Lib.hid kx40
  have ky3 := Lib.hid ky30
  have ky4 := Lib.hid ky40
  clear kx30 kx40 ky30 ky40
  have klv := Lib.hid (fun w' (h : KindsAt w') => lives11_any w' h)
  have hlx := ldS_blk (P := Tryd.prog) ga 35 Tryd.underlying35 rfl (cs := x.cells) hi
  have hly := ldS_blk (P := Tryd.prog) gb 35 Tryd.underlying35 rfl (cs := v.cells) hi
  have hm := eqGuard_ident
  clear xat5 yat5 hx5b hy5 fr5 hkw hk xok yok5
  generalize x.op.put = X at kx1 kx2
  generalize v.op.put = Y at ky1 ky2
  refine wp_region_held_drew (S := fun w' => Blk w' ga 35 x.cells ∧ Blk w' gb 35 v.cells) (by kernel_rfl) ⟨ba0, bb0⟩ (fun _ => ?_)
  refine wpAnyH_take (i := 0) (v := ?_) rfl (by kernel_rfl) (by kernel_rfl) (by kernel_rfl) (fun _ _ _ h => h) (Or.inl ⟨by kernel_rfl, ?_⟩) ⟨ba0, bb0⟩ ?_
  rotate_left
  focus (intro w' hSw; have b1 := hSw.1; have b2 := hSw.2; go_simp; (try with_reducible rfl))
  try simp only [put_lit, List.set]
  refine wpAnyH_take (i := 3) (v := ?_) rfl (by kernel_rfl) (by kernel_rfl) (by kernel_rfl) (fun _ _ _ h => h) (Or.inl ⟨by kernel_rfl, ?_⟩) ⟨ba0, bb0⟩ ?_
  rotate_left
  focus (intro w' hSw; have b1 := hSw.1; have b2 := hSw.2; go_simp; (try with_reducible rfl))
  try simp only [put_lit, List.set]
  refine wpAnyH_only 1 (by kernel_rfl) rfl (by kernel_rfl) (fun K hK => ?_)
  go_simp
  go_wp2_with (go_at_call 10; (with_reducible refine (kx1.out _ xd0).mono ?_); rintro _ v1 ⟨A1, c1, rfl, o1, f1⟩; have ba1 := ba0.fr f1 (fun e => e); have bb1 := bb0.fr f1 (fun e => e); have xd1 := OpL.frame xd0 f1; have yd1 := OpL.frame yd0 f1; have hkw1 := hkw0.fr f1; have fr1 := fr0.trans f1 (fun _ _ e => e); have rd1_1 := o1.rd)
  refine hK.out _ _ ⟨ba1, bb1⟩ (fun _ => ?_)
  clear hK K
  try simp only [put_lit, List.set]
  refine wpAnyH_mono (S' := fun w' => Blk w' ga 35 x.cells ∧ Blk w' gb 35 v.cells ∧ Rd w' v1.heap.size 1 A1 X.length (X.map Bv)) (fun _ h => ⟨h.1, h.2.1⟩) ?_
  refine wpAnyH_take (i := 2) (v := ?_) rfl (by kernel_rfl) (by kernel_rfl) (by kernel_rfl) (fun _ _ _ h => h) (Or.inl ⟨by kernel_rfl, ?_⟩) ⟨ba1, bb1, rd1_1⟩ ?_
  rotate_left
  focus (intro w' hSw; have b1 := hSw.1; have b2 := hSw.2.1; have r1 := hSw.2.2; have q := str_rd (c := c1) r1; go_simp; (try with_reducible rfl))
  try simp only [put_lit, List.set]
  refine wpAnyH_only 4 (by kernel_rfl) rfl (by kernel_rfl) (fun K hK => ?_)
  go_simp
  go_wp2_with (go_at_call 15; (with_reducible refine (kx2.out _ xd1).mono ?_); rintro _ v2 ⟨A2, c2, rfl, o2, f2⟩; have ba2 := ba1.fr f2 (fun e => e); have bb2 := bb1.fr f2 (fun e => e); have xd2 := OpL.frame xd1 f2; have yd2 := OpL.frame yd1 f2; have hkw2 := hkw1.fr f2; have fr2 := fr1.trans f2 (fun _ _ e => e); have rd1_2 := rd1_1.fr f2 (fun _ _ e => e); have rd2_2 := o2.rd)
  refine hK.out _ _ ⟨ba2, bb2, rd1_2⟩ (fun _ => ?_)
  clear hK K
  try simp only [put_lit, List.set]
  refine wpAnyH_mono (S' := fun w' => Blk w' ga 35 x.cells ∧ Blk w' gb 35 v.cells ∧ Rd w' v1.heap.size 1 A1 X.length (X.map Bv) ∧ Rd w' v2.heap.size 1 A2 X.length (X.map Bv)) (fun _ h => ⟨h.1, h.2.1, h.2.2.1⟩) ?_
  refine wpAnyH_take (i := 5) (v := ?_) rfl (by kernel_rfl) (by kernel_rfl) (by kernel_rfl) (fun _ _ _ h => h) (Or.inl ⟨by kernel_rfl, ?_⟩) ⟨ba2, bb2, rd1_2, rd2_2⟩ ?_
  rotate_left
  focus (intro w' hSw; have b1 := hSw.1; have b2 := hSw.2.1; have r1 := hSw.2.2.1; have r2 := hSw.2.2.2; have q := str_rd (c := c2) r2; go_simp; (try with_reducible rfl))
  try simp only [put_lit, List.set]
  refine wpAnyH_take (i := 6) (v := ?_) rfl (by kernel_rfl) (by kernel_rfl) (by kernel_rfl) (fun _ _ _ h => h) (Or.inl ⟨by kernel_rfl, ?_⟩) ⟨ba2, bb2, rd1_2, rd2_2⟩ ?_
  rotate_left
  focus (intro w' hSw; have b1 := hSw.1; have b2 := hSw.2.1; have r1 := hSw.2.2.1; have r2 := hSw.2.2.2; go_simp; (try with_reducible rfl))
  try simp only [put_lit, List.set]
  refine wpAnyH_take (i := 7) (v := ?_) rfl (by kernel_rfl) (by kernel_rfl) (by kernel_rfl) (fun _ _ _ h => h) (Or.inl ⟨by kernel_rfl, ?_⟩) ⟨ba2, bb2, rd1_2, rd2_2⟩ ?_
  rotate_left
  focus (intro w' hSw; have b1 := hSw.1; have b2 := hSw.2.1; have r1 := hSw.2.2.1; have r2 := hSw.2.2.2; go_simp; (try with_reducible rfl))
  try simp only [put_lit, List.set]
  refine wpAnyH_take (i := 8) (v := ?_) rfl (by kernel_rfl) (by kernel_rfl) (by kernel_rfl) (fun _ _ _ h => h) (Or.inl ⟨by kernel_rfl, ?_⟩) ⟨ba2, bb2, rd1_2, rd2_2⟩ ?_
  rotate_left
  focus (intro w' hSw; have b1 := hSw.1; have b2 := hSw.2.1; have r1 := hSw.2.2.1; have r2 := hSw.2.2.2; go_simp; (try with_reducible rfl))
  try simp only [put_lit, List.set]
  refine wpAnyH_take (i := 11) (v := ?_) rfl (by kernel_rfl) (by kernel_rfl) (by kernel_rfl) (fun _ _ _ h => h) (Or.inl ⟨by kernel_rfl, ?_⟩) ⟨ba2, bb2, rd1_2, rd2_2⟩ ?_
  rotate_left
  focus (intro w' hSw; have b1 := hSw.1; have b2 := hSw.2.1; have r1 := hSw.2.2.1; have r2 := hSw.2.2.2; go_simp; (try with_reducible rfl))
  try simp only [put_lit, List.set]
  refine wpAnyH_only 9 (by kernel_rfl) rfl (by kernel_rfl) (fun K hK => ?_)
  go_simp
  go_wp2_with (go_at_call 10; (with_reducible refine (ky1.out _ yd2).mono ?_); rintro _ v3 ⟨A3, c3, rfl, o3, f3⟩; have ba3 := ba2.fr f3 (fun e => e); have bb3 := bb2.fr f3 (fun e => e); have xd3 := OpL.frame xd2 f3; have yd3 := OpL.frame yd2 f3; have hkw3 := hkw2.fr f3; have fr3 := fr2.trans f3 (fun _ _ e => e); have rd1_3 := rd1_2.fr f3 (fun _ _ e => e); have rd2_3 := rd2_2.fr f3 (fun _ _ e => e); have rd3_3 := o3.rd)
  refine hK.out _ _ ⟨ba3, bb3, rd1_3, rd2_3⟩ (fun _ => ?_)
  clear hK K
  try simp only [put_lit, List.set]
  refine wpAnyH_mono (S' := fun w' => Blk w' ga 35 x.cells ∧ Blk w' gb 35 v.cells ∧ Rd w' v1.heap.size 1 A1 X.length (X.map Bv) ∧ Rd w' v2.heap.size 1 A2 X.length (X.map Bv) ∧ Rd w' v3.heap.size 1 A3 Y.length (Y.map Bv)) (fun _ h => ⟨h.1, h.2.1, h.2.2.1, h.2.2.2.1⟩) ?_
  refine wpAnyH_take (i := 10) (v := ?_) rfl (by kernel_rfl) (by kernel_rfl) (by kernel_rfl) (fun _ _ _ h => h) (Or.inl ⟨by kernel_rfl, ?_⟩) ⟨ba3, bb3, rd1_3, rd2_3, rd3_3⟩ ?_
  rotate_left
  focus (intro w' hSw; have b1 := hSw.1; have b2 := hSw.2.1; have r1 := hSw.2.2.1; have r2 := hSw.2.2.2.1; have r3 := hSw.2.2.2.2; have q := str_rd (c := c3) r3; go_simp; (try with_reducible rfl))
  try simp only [put_lit, List.set]
  refine wpAnyH_only 12 (by kernel_rfl) rfl (by kernel_rfl) (fun K hK => ?_)
  go_simp
  go_wp2_with (go_at_call 15; (with_reducible refine (ky2.out _ yd3).mono ?_); rintro _ v4 ⟨A4, c4, rfl, o4, f4⟩; have ba4 := ba3.fr f4 (fun e => e); have bb4 := bb3.fr f4 (fun e => e); have xd4 := OpL.frame xd3 f4; have yd4 := OpL.frame yd3 f4; have hkw4 := hkw3.fr f4; have fr4 := fr3.trans f4 (fun _ _ e => e); have rd1_4 := rd1_3.fr f4 (fun _ _ e => e); have rd2_4 := rd2_3.fr f4 (fun _ _ e => e); have rd3_4 := rd3_3.fr f4 (fun _ _ e => e); have rd4_4 := o4.rd)
  refine hK.out _ _ ⟨ba4, bb4, rd1_4, rd2_4, rd3_4⟩ (fun _ => ?_)
  clear hK K
  try simp only [put_lit, List.set]
  refine wpAnyH_mono (S' := fun w' => Blk w' ga 35 x.cells ∧ Blk w' gb 35 v.cells ∧ Rd w' v1.heap.size 1 A1 X.length (X.map Bv) ∧ Rd w' v2.heap.size 1 A2 X.length (X.map Bv) ∧ Rd w' v3.heap.size 1 A3 Y.length (Y.map Bv) ∧ Rd w' v4.heap.size 1 A4 Y.length (Y.map Bv)) (fun _ h => ⟨h.1, h.2.1, h.2.2.1, h.2.2.2.1, h.2.2.2.2.1⟩) ?_
  refine wpAnyH_take (i := 13) (v := ?_) rfl (by kernel_rfl) (by kernel_rfl) (by kernel_rfl) (fun _ _ _ h => h) (Or.inl ⟨by kernel_rfl, ?_⟩) ⟨ba4, bb4, rd1_4, rd2_4, rd3_4, rd4_4⟩ ?_
  rotate_left
  focus (intro w' hSw; have b1 := hSw.1; have b2 := hSw.2.1; have r1 := hSw.2.2.1; have r2 := hSw.2.2.2.1; have r3 := hSw.2.2.2.2.1; have r4 := hSw.2.2.2.2.2; have q := str_rd (c := c4) r4; go_simp; (try with_reducible rfl))
  try simp only [put_lit, List.set]
  refine wpAnyH_take (i := 14) (v := ?_) rfl (by kernel_rfl) (by kernel_rfl) (by kernel_rfl) (fun _ _ _ h => h) (Or.inl ⟨by kernel_rfl, ?_⟩) ⟨ba4, bb4, rd1_4, rd2_4, rd3_4, rd4_4⟩ ?_
  rotate_left
  focus (intro w' hSw; have b1 := hSw.1; have b2 := hSw.2.1; have r1 := hSw.2.2.1; have r2 := hSw.2.2.2.1; have r3 := hSw.2.2.2.2.1; have r4 := hSw.2.2.2.2.2; go_simp; (try with_reducible rfl))
  try simp only [put_lit, List.set]
  refine wpAnyH_take (i := 15) (v := ?_) rfl (by kernel_rfl) (by kernel_rfl) (by kernel_rfl) (fun _ _ _ h => h) (Or.inl ⟨by kernel_rfl, ?_⟩) ⟨ba4, bb4, rd1_4, rd2_4, rd3_4, rd4_4⟩ ?_
  rotate_left
  focus (intro w' hSw; have b1 := hSw.1; have b2 := hSw.2.1; have r1 := hSw.2.2.1; have r2 := hSw.2.2.2.1; have r3 := hSw.2.2.2.2.1; have r4 := hSw.2.2.2.2.2; go_simp; (try with_reducible rfl))
  try simp only [put_lit, List.set]
  refine wpAnyH_take (i := 16) (v := ?_) rfl (by kernel_rfl) (by kernel_rfl) (by kernel_rfl) (fun _ _ _ h => h) (Or.inl ⟨by kernel_rfl, ?_⟩) ⟨ba4, bb4, rd1_4, rd2_4, rd3_4, rd4_4⟩ ?_
  rotate_left
  focus (intro w' hSw; have b1 := hSw.1; have b2 := hSw.2.1; have r1 := hSw.2.2.1; have r2 := hSw.2.2.2.1; have r3 := hSw.2.2.2.2.1; have r4 := hSw.2.2.2.2.2; go_simp; (try with_reducible rfl))
  try simp only [put_lit, List.set]
  refine wpAnyH_take (i := 17) (v := ?_) rfl (by kernel_rfl) (by kernel_rfl) (by kernel_rfl) (fun _ _ _ h => h) (Or.inl ⟨by kernel_rfl, ?_⟩) ⟨ba4, bb4, rd1_4, rd2_4, rd3_4, rd4_4⟩ ?_
  rotate_left
  focus (intro w' hSw; have b1 := hSw.1; have b2 := hSw.2.1; have r1 := hSw.2.2.1; have r2 := hSw.2.2.2.1; have r3 := hSw.2.2.2.2.1; have r4 := hSw.2.2.2.2.2; go_simp; (try with_reducible rfl))
  try simp only [put_lit, List.set]
  refine wpAnyH_take (i := 19) (v := ?_) rfl (by kernel_rfl) (by kernel_rfl) (by kernel_rfl) (fun _ _ _ h => h) (Or.inl ⟨by kernel_rfl, ?_⟩) ⟨ba4, bb4, rd1_4, rd2_4, rd3_4, rd4_4⟩ ?_
  rotate_left
  focus (intro w' hSw; have b1 := hSw.1; have b2 := hSw.2.1; have r1 := hSw.2.2.1; have r2 := hSw.2.2.2.1; have r3 := hSw.2.2.2.2.1; have r4 := hSw.2.2.2.2.2; go_simp; (try with_reducible rfl))
  try simp only [put_lit, List.set]
  refine wpAnyH_only 18 (by kernel_rfl) rfl (by kernel_rfl) (fun K hK => ?_)
  go_simp
  go_wp2_with (go_at_call 21; (with_reducible refine (kx3.out _ xd4).mono ?_); rintro _ v5 ⟨rfl, f5⟩; have ba5 := ba4.fr f5 (fun e => e); have bb5 := bb4.fr f5 (fun e => e); have xd5 := OpL.frame xd4 f5; have yd5 := OpL.frame yd4 f5; have hkw5 := hkw4.fr f5; have fr5 := fr4.trans f5 (fun _ _ e => e); have rd1_5 := rd1_4.fr f5 (fun _ _ e => e); have rd2_5 := rd2_4.fr f5 (fun _ _ e => e); have rd3_5 := rd3_4.fr f5 (fun _ _ e => e); have rd4_5 := rd4_4.fr f5 (fun _ _ e => e))
  refine hK.out _ _ ⟨ba5, bb5, rd1_5, rd2_5, rd3_5, rd4_5⟩ (fun _ => ?_)
  clear hK K
  try simp only [put_lit, List.set]
  refine wpAnyH_only 20 (by kernel_rfl) rfl (by kernel_rfl) (fun K hK => ?_)
  go_simp
  go_wp2_with (go_at_call 22; (with_reducible refine (kx4.out _ xd5).mono ?_); rintro _ v6 ⟨rfl, f6⟩; have ba6 := ba5.fr f6 (fun e => e); have bb6 := bb5.fr f6 (fun e => e); have xd6 := OpL.frame xd5 f6; have yd6 := OpL.frame yd5 f6; have hkw6 := hkw5.fr f6; have fr6 := fr5.trans f6 (fun _ _ e => e); have rd1_6 := rd1_5.fr f6 (fun _ _ e => e); have rd2_6 := rd2_5.fr f6 (fun _ _ e => e); have rd3_6 := rd3_5.fr f6 (fun _ _ e => e); have rd4_6 := rd4_5.fr f6 (fun _ _ e => e))
  refine hK.out _ _ ⟨ba6, bb6, rd1_6, rd2_6, rd3_6, rd4_6⟩ (fun _ => ?_)
  clear hK K
  try simp only [put_lit, List.set]
  refine wpAnyH_take (i := 21) (v := ?_) rfl (by kernel_rfl) (by kernel_rfl) (by kernel_rfl) (fun _ _ _ h => h) (Or.inl ⟨by kernel_rfl, ?_⟩) ⟨ba6, bb6, rd1_6, rd2_6, rd3_6, rd4_6⟩ ?_
  rotate_left
  focus (intro w' hSw; have b1 := hSw.1; have b2 := hSw.2.1; have r1 := hSw.2.2.1; have r2 := hSw.2.2.2.1; have r3 := hSw.2.2.2.2.1; have r4 := hSw.2.2.2.2.2; go_simp; (try with_reducible rfl))
  try simp only [put_lit, List.set]
  refine wpAnyH_take (i := 22) (v := ?_) rfl (by kernel_rfl) (by kernel_rfl) (by kernel_rfl) (fun _ _ _ h => h) (Or.inl ⟨by kernel_rfl, ?_⟩) ⟨ba6, bb6, rd1_6, rd2_6, rd3_6, rd4_6⟩ ?_
  rotate_left
  focus (intro w' hSw; have b1 := hSw.1; have b2 := hSw.2.1; have r1 := hSw.2.2.1; have r2 := hSw.2.2.2.1; have r3 := hSw.2.2.2.2.1; have r4 := hSw.2.2.2.2.2; go_simp; (try with_reducible rfl))
  try simp only [put_lit, List.set]
  refine wpAnyH_take (i := 23) (v := ?_) rfl (by kernel_rfl) (by kernel_rfl) (by kernel_rfl) (fun _ _ _ h => h) (Or.inl ⟨by kernel_rfl, ?_⟩) ⟨ba6, bb6, rd1_6, rd2_6, rd3_6, rd4_6⟩ ?_
  rotate_left
  focus (intro w' hSw; have b1 := hSw.1; have b2 := hSw.2.1; have r1 := hSw.2.2.1; have r2 := hSw.2.2.2.1; have r3 := hSw.2.2.2.2.1; have r4 := hSw.2.2.2.2.2; go_simp; (try with_reducible rfl))
  try simp only [put_lit, List.set]
  refine wpAnyH_take (i := 24) (v := ?_) rfl (by kernel_rfl) (by kernel_rfl) (by kernel_rfl) (fun _ _ _ h => h) (Or.inl ⟨by kernel_rfl, ?_⟩) ⟨ba6, bb6, rd1_6, rd2_6, rd3_6, rd4_6⟩ ?_
  rotate_left
  focus (intro w' hSw; have b1 := hSw.1; have b2 := hSw.2.1; have r1 := hSw.2.2.1; have r2 := hSw.2.2.2.1; have r3 := hSw.2.2.2.2.1; have r4 := hSw.2.2.2.2.2; go_simp; (try with_reducible rfl))
  try simp only [put_lit, List.set]
  refine wpAnyH_take (i := 26) (v := ?_) rfl (by kernel_rfl) (by kernel_rfl) (by kernel_rfl) (fun _ _ _ h => h) (Or.inl ⟨by kernel_rfl, ?_⟩) ⟨ba6, bb6, rd1_6, rd2_6, rd3_6, rd4_6⟩ ?_
  rotate_left
  focus (intro w' hSw; have b1 := hSw.1; have b2 := hSw.2.1; have r1 := hSw.2.2.1; have r2 := hSw.2.2.2.1; have r3 := hSw.2.2.2.2.1; have r4 := hSw.2.2.2.2.2; go_simp; (try with_reducible rfl))
  try simp only [put_lit, List.set]
  refine wpAnyH_only 25 (by kernel_rfl) rfl (by kernel_rfl) (fun K hK => ?_)
  go_simp
  go_wp2_with (go_at_call 21; (with_reducible refine (ky3.out _ yd6).mono ?_); rintro _ v7 ⟨rfl, f7⟩; have ba7 := ba6.fr f7 (fun e => e); have bb7 := bb6.fr f7 (fun e => e); have xd7 := OpL.frame xd6 f7; have yd7 := OpL.frame yd6 f7; have hkw7 := hkw6.fr f7; have fr7 := fr6.trans f7 (fun _ _ e => e); have rd1_7 := rd1_6.fr f7 (fun _ _ e => e); have rd2_7 := rd2_6.fr f7 (fun _ _ e => e); have rd3_7 := rd3_6.fr f7 (fun _ _ e => e); have rd4_7 := rd4_6.fr f7 (fun _ _ e => e))
  refine hK.out _ _ ⟨ba7, bb7, rd1_7, rd2_7, rd3_7, rd4_7⟩ (fun _ => ?_)
  clear hK K
  try simp only [put_lit, List.set]
  refine wpAnyH_only 27 (by kernel_rfl) rfl (by kernel_rfl) (fun K hK => ?_)
  go_simp
  go_wp2_with (go_at_call 22; (with_reducible refine (ky4.out _ yd7).mono ?_); rintro _ v8 ⟨rfl, f8⟩; have ba8 := ba7.fr f8 (fun e => e); have bb8 := bb7.fr f8 (fun e => e); have xd8 := OpL.frame xd7 f8; have yd8 := OpL.frame yd7 f8; have hkw8 := hkw7.fr f8; have fr8 := fr7.trans f8 (fun _ _ e => e); have rd1_8 := rd1_7.fr f8 (fun _ _ e => e); have rd2_8 := rd2_7.fr f8 (fun _ _ e => e); have rd3_8 := rd3_7.fr f8 (fun _ _ e => e); have rd4_8 := rd4_7.fr f8 (fun _ _ e => e))
  refine hK.out _ _ ⟨ba8, bb8, rd1_8, rd2_8, rd3_8, rd4_8⟩ (fun _ => ?_)
  clear hK K
  try simp only [put_lit, List.set]
  refine wpAnyH_take (i := 28) (v := ?_) rfl (by kernel_rfl) (by kernel_rfl) (by kernel_rfl) (fun _ _ _ h => h) (Or.inl ⟨by kernel_rfl, ?_⟩) ⟨ba8, bb8, rd1_8, rd2_8, rd3_8, rd4_8⟩ ?_
  rotate_left
  focus (intro w' hSw; have b1 := hSw.1; have b2 := hSw.2.1; have r1 := hSw.2.2.1; have r2 := hSw.2.2.2.1; have r3 := hSw.2.2.2.2.1; have r4 := hSw.2.2.2.2.2; go_simp; (try with_reducible rfl))
  try simp only [put_lit, List.set]
  refine wpAnyH_take (i := 29) (v := ?_) rfl (by kernel_rfl) (by kernel_rfl) (by kernel_rfl) (fun _ _ _ h => h) (Or.inl ⟨by kernel_rfl, ?_⟩) ⟨ba8, bb8, rd1_8, rd2_8, rd3_8, rd4_8⟩ ?_
  rotate_left
  focus (intro w' hSw; have b1 := hSw.1; have b2 := hSw.2.1; have r1 := hSw.2.2.1; have r2 := hSw.2.2.2.1; have r3 := hSw.2.2.2.2.1; have r4 := hSw.2.2.2.2.2; go_simp; (try with_reducible rfl))
  try simp only [put_lit, List.set]
  refine wpAnyH_take (i := 30) (v := ?_) rfl (by kernel_rfl) (by kernel_rfl) (by kernel_rfl) (fun _ _ _ h => h) (Or.inl ⟨by kernel_rfl, ?_⟩) ⟨ba8, bb8, rd1_8, rd2_8, rd3_8, rd4_8⟩ ?_
  rotate_left
  focus (intro w' hSw; have b1 := hSw.1; have b2 := hSw.2.1; have r1 := hSw.2.2.1; have r2 := hSw.2.2.2.1; have r3 := hSw.2.2.2.2.1; have r4 := hSw.2.2.2.2.2; go_simp; (try with_reducible rfl))
  try simp only [put_lit, List.set]
  refine wpAnyH_only 31 (by kernel_rfl) rfl (by kernel_rfl) (fun K hK => ?_)
  go_simp
  go_wp2_with (go_at_call 16; (with_reducible refine (klv.out _ hkw8).mono ?_); rintro _ v9 ⟨rfl, f9⟩; have ba9 := ba8.fr f9 (fun e => e); have bb9 := bb8.fr f9 (fun e => e); have xd9 := OpL.frame xd8 f9; have yd9 := OpL.frame yd8 f9; have hkw9 := hkw8.fr f9; have fr9 := fr8.trans f9 (fun _ _ e => e); have rd1_9 := rd1_8.fr f9 (fun _ _ e => e); have rd2_9 := rd2_8.fr f9 (fun _ _ e => e); have rd3_9 := rd3_8.fr f9 (fun _ _ e => e); have rd4_9 := rd4_8.fr f9 (fun _ _ e => e))
  refine hK.out _ _ ⟨ba9, bb9, rd1_9, rd2_9, rd3_9, rd4_9⟩ (fun _ => ?_)
  clear hK K
  try simp only [put_lit, List.set]
  refine wpAnyH_take (i := 32) (v := ?_) rfl (by kernel_rfl) (by kernel_rfl) (by kernel_rfl) (fun _ _ _ h => h) (Or.inl ⟨by kernel_rfl, ?_⟩) ⟨ba9, bb9, rd1_9, rd2_9, rd3_9, rd4_9⟩ ?_
  rotate_left
  focus (intro w' hSw; have b1 := hSw.1; have b2 := hSw.2.1; have r1 := hSw.2.2.1; have r2 := hSw.2.2.2.1; have r3 := hSw.2.2.2.2.1; have r4 := hSw.2.2.2.2.2; go_simp; (try with_reducible rfl))
  try simp only [put_lit, List.set]
  refine wpAnyH_take (i := 33) (v := ?_) rfl (by kernel_rfl) (by kernel_rfl) (by kernel_rfl) (fun _ _ _ h => h) (Or.inl ⟨by kernel_rfl, ?_⟩) ⟨ba9, bb9, rd1_9, rd2_9, rd3_9, rd4_9⟩ ?_
  rotate_left
  focus (intro w' hSw; have b1 := hSw.1; have b2 := hSw.2.1; have r1 := hSw.2.2.1; have r2 := hSw.2.2.2.1; have r3 := hSw.2.2.2.2.1; have r4 := hSw.2.2.2.2.2; go_simp; (try with_reducible rfl))
  try simp only [put_lit, List.set]
  refine wpAnyH_done (by kernel_rfl) ?_ _
  go_wp2
  go_ret
  exact ⟨rfl, fr9⟩
end Oq
end Go.Proofs.YthmlaigpdpdpjaaDoor
