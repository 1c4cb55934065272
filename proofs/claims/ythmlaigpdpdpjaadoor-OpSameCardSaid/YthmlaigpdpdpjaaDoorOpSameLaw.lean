/-
  OpSame: two operations are the same just if all their fields are; the same ones have one name.
  Conditions: the package variable op.kinds as its text lays it.
-/
import Derived.Test.YthmlaigpdpdpjaaDoorOpLives
import Derived.Test.YthmlaigpdpdpjaaDoorOpFew
import Derived.Test.YthmlaigpdpdpjaaDoorOpSame
import Derived.Test.YthmlaigpdpdpjaaDoorHashAll
import Derived.Test.YthmlaigpdpdpjaaDoorBent
import Derived.Deep.CutBlock
import Derived.Deep.DeepCutAuto
namespace Go.Proofs.YthmlaigpdpdpjaaDoor
open Go.RowKit
attribute [local go_sem ↓] Go.wp_at_zero Go.wp_at_succ
namespace Oq
attribute [local go_sem] Bool.not_false Bool.not_true bne_self_eq_false beq_self_eq_true
attribute [local go_sem ↓] loadAt_op
attribute [local go_sem ↓] eq_ident

theorem wpAnyH_only {P : Program} {Q : Exit → Act → World → Prop} {ops : Array Oper} {md : Region.Mode} {S : World → Prop} {fuel : Nat} {listed : Array Bool} {a : Act} {w : World} (i : Nat) {o : Oper} (hr : Region.ready md ops listed = [i]) (ho : ops[i]? = some o)
    (hw : Region.wanted o (yielded ops a.tmps) = true)
    (h : ∀ K' : Act → World → Prop, Shut (∀ a w, S w → (S w → wpAnyH P md ops Q S fuel (listed.setIfInBounds i true) a w) → K' a w) → Oper.wp P o a w K' Q) :
    wpAnyH P md ops Q S (fuel + 1) listed a w :=
  wpAnyH_ready hr (by simp) (AllReadyH.cons ho (fun K' hK => by rw [if_pos hw]; exact h K' hK) AllReadyH.nil)
theorem Id.eq_self' (x : Id) : Id.eq x x = true := (Id.eq_iff x x).2 rfl
attribute [local go_sem] Id.eq_self'
theorem one_ids (l : List Id) : ∀ v ∈ l.flatMap Id.cells, v.oneCell' = true := by
  intro v hv
  obtain ⟨y, _, hy⟩ := List.mem_flatMap.1 hv
  simp [Id.cells] at hy
  rcases hy with rfl | rfl | rfl <;> rfl
theorem one_u64s (l : List Nat) : ∀ v ∈ l.map Uv, v.oneCell' = true := by
  intro v hv
  obtain ⟨y, _, rfl⟩ := List.mem_map.1 hv
  rfl
theorem Own.lit0 (w : World) (t : TypeId) (size : Nat) : Own (w.alloc (.cells #[] t)) w.heap.size t size (some ⟨w.heap.size, 0, none⟩) 0 0 [] :=
  ⟨by simp, .inr ⟨w.heap.size, 0, #[], rfl, Nat.le_refl _, heap_alloc_new w _, Nat.le_refl _, by omega, by simp, by simp⟩⟩
theorem own_sl0 {base n c size : Nat} {t : TypeId} {A : Option Addr} {xs : List Value} {w : World} (own : Own w base t size A n c xs) : SlAt w w.heap.size size A n c xs := ⟨own.rd, own.cap⟩

theorem id_mk (b s : Int) (u : Nat) : ∃ i : Id, i.b = b ∧ i.s = s ∧ i.u = u := ⟨⟨b, s, u⟩, rfl, rfl, rfl⟩
/-- The names of an operation, of one of the same fields, and of another one. -/
theorem ids_ex (x d z : OpL) (hdo : d.op = x.op) (xok : x.op.ok) (zok : z.op.ok) : ∃ ix iz : Id,
    (∀ w' : World, x.at w' w'.heap.size → Calls Tryd.prog 21 #[.agg x.cells] w' (IdPost ix.b ix.s ix.u w')) ∧
    (∀ w' : World, d.at w' w'.heap.size → Calls Tryd.prog 21 #[.agg d.cells] w' (IdPost ix.b ix.s ix.u w')) ∧
    (∀ w' : World, z.at w' w'.heap.size → Calls Tryd.prog 21 #[.agg z.cells] w' (IdPost iz.b iz.s iz.u w')) ∧
    ((x.op.put == z.op.put) = true → iz = ix) := by
  have d1 : d.by_ = x.by_ := by
    have h := congrArg Op.by_ hdo
    exact h
  have d2 : d.sq = x.sq := by
    have h := congrArg Op.sq hdo
    exact h
  obtain ⟨ix, h1, h2, h3⟩ := id_mk x.by_ x.sq x.op.id
  obtain ⟨iz, g1, g2, g3⟩ := id_mk z.by_ z.sq z.op.id
  refine ⟨ix, iz, fun w' h => ?_, fun w' h => ?_, fun w' h => ?_, fun h => ?_⟩
  · rw [h1, h2, h3]
    exact id_any x w' h xok
  · have k := id_any d w' h (by rw [hdo]; exact xok)
    rw [d1, d2, hdo] at k
    rw [h1, h2, h3]
    exact k
  · rw [g1, g2, g3]
    exact id_any z w' h zok
  · have e := put_inj xok.okR zok.okR (eq_of_beq h)
    have e1 : z.by_ = x.by_ := by
      have h := congrArg Op.by_ e
      exact h.symm
    have e2 : z.sq = x.sq := by
      have h := congrArg Op.sq e
      exact h.symm
    rw [show iz = Id.mk iz.b iz.s iz.u from rfl, show ix = Id.mk ix.b ix.s ix.u from rfl, g1, g2, g3, h1, h2, h3, e1, e2, e]

set_option maxRecDepth 100000 in
set_option maxHeartbeats 80000000 in
theorem opSame_law (Al : Option Addr) (cl : Nat) (l : List Int) (Am : Option Addr) (cm : Nat) (m : List Int) (how n : Int) (w : World) (hk : KindsAt w) (hrl : Rd w w.heap.size 1 Al l.length (l.map Iv)) (hlc : l.length ≤ cl) (hlc' : cl ≤ 9223372036854775807) (hok : ∀ x ∈ l, I64 x)
    (hrm : Rd w w.heap.size 1 Am m.length (m.map Iv)) (hmc : m.length ≤ cm) (hmc' : cm ≤ 9223372036854775807) (hmk : ∀ x ∈ m, I64 x) (h0 : -9223372036854775808 ≤ how) (h1 : how ≤ 9223372036854775807) (n0 : -9223372036854775808 ≤ n) (n1 : n ≤ 9223372036854775807) :
    Calls Tryd.prog 7 #[.slice Al l.length cl, .slice Am m.length cm, .int .i64 how, .int .i64 n] w (BoolPost true w) := by
  have hi : (Tryd.prog.info? 35).map (·.size) = some 27 := by kernel_rfl
  have hok' := Lib.hid hok
  have hmk' := Lib.hid hmk
  clear hok hmk
  obtain ⟨nl, hnl⟩ := hid_ex l.length
  rw [hnl.out] at hrl hlc ⊢
  obtain ⟨nm, hnm⟩ := hid_ex m.length
  rw [hnm.out] at hrm hmc ⊢
  obtain ⟨BB, hBB⟩ := hid_ex w.heap.size
  have hbw := Nat.le_of_eq hBB.out
  rw [hBB.out] at hrl hrm
  go_enter Tryd.func7, Tryd.ntmps7
  go_wp2_with (fail)
  refine (gen_any _ nl cl Al l _ hnl hrl hlc hlc' hok').mono ?_
  rintro _ w1 ⟨x, rfl, _, _, xchk, xr, xs, xown, f1⟩
  have xok := gen_ok xchk xr xs
  have xat := xown.at
  have xfew := few_of_chk xchk
  have honex := one_cells x
  have hz1 := Blk.new w1 35 OpL.zero.cells
  have hrm1 := hrm.fr f1 (fun _ _ e => e)
  clear xchk xr xs xown hrl hrm hlc hlc' hok' hnl
  go_upto_region 2 with (first | (refine wpList_store_new rfl 35 (.tmp 9) (.tmp 14) rfl rfl rfl rfl hz1 hi rfl honex ?_; intro w2 hb2 hf2 hs2))
  have fx2 : Fr Non w1 w2 := ((Fr.refl Non w1).alloc (.cells OpL.zero.cells 35)).trans hf2 (fun k hk e => by have e' : k = w1.heap.size := e; omega)
  have fr2 := f1.trans fx2 (fun _ _ e => e)
  have xat2 := OpL.frame xat fx2
  have hrm2 := hrm1.fr fx2 (fun _ _ e => e)
  clear hz1 hf2 hs2 f1 fx2 xat hrm1
  generalize w1.heap.size = ga at *
  go_wp2_with (fail)
  refine (gen_any _ nm cm Am m _ hnm hrm2 hmc hmc' hmk').mono ?_
  rintro _ w3 ⟨y, rfl, _, _, ychk, yr, ys, yown, f3⟩
  have yok := gen_ok ychk yr ys
  have yat := yown.at
  have honey := one_cells y
  have hz3 := Blk.new w3 35 OpL.zero.cells
  clear ychk yr ys yown hrm2 hmc hmc' hmk' hnm
  go_upto_region 3 with (first | (refine wpList_store_new rfl 35 (.tmp 10) (.tmp 16) rfl rfl rfl rfl hz3 hi rfl honey ?_; intro w4 hb4 hf4 hs4))
  have fx4 : Fr Non w3 w4 := ((Fr.refl Non w3).alloc (.cells OpL.zero.cells 35)).trans hf4 (fun k hk e => by have e' : k = w3.heap.size := e; omega)
  have f24 := f3.trans fx4 (fun _ _ e => e)
  have fr4 := fr2.trans f24 (fun _ _ e => e)
  have yat4 := OpL.frame yat fx4
  have xat4 := OpL.frame xat2 f24
  have ba4 := hb2.fr f24 (fun e => e)
  have hs24 := f24.size
  clear hz3 hf4 hs4 f3 fx4 f24 yat xat2 hb2 fr2
  generalize w3.heap.size = gb at *
  go_wp2_with (first | (refine wpList_load_row rfl 35 (.tmp 9) rfl rfl ba4 Tryd.underlying35 rfl hi ?_))
  refine (bent_any 20 x how n _ xat4 xok xfew (by omega) h0 h1 n0 n1).mono ?_
  rintro _ w5 ⟨z, rfl, zok, _, zat, f5⟩
  have honez := one_cells z
  have hz5 := Blk.new w5 35 OpL.zero.cells
  go_upto_region 4 with (first | (refine wpList_store_new rfl 35 (.tmp 11) (.tmp 20) rfl rfl rfl rfl hz5 hi rfl honez ?_; intro w6 hb6 hf6 hs6))
  have fx6 : Fr Non w5 w6 := ((Fr.refl Non w5).alloc (.cells OpL.zero.cells 35)).trans hf6 (fun k hk e => by have e' : k = w5.heap.size := e; omega)
  have f46 := f5.trans fx6 (fun _ _ e => e)
  have fr6 := fr4.trans f46 (fun _ _ e => e)
  have zat6 := OpL.frame zat fx6
  have xat6 := OpL.frame xat4 f46
  have yat6 := OpL.frame yat4 f46
  have ba6 := ba4.fr f46 (fun e => e)
  have bb6 := hb4.fr f46 (fun e => e)
  have hs46 := f46.size
  clear hz5 hf6 hs6 f5 fx6 f46 zat xat4 yat4 ba4 hb4 fr4 h0 h1 n0 n1 xfew honey honez
  generalize w5.heap.size = gc at *
  have hz7 := Blk.new w6 35 OpL.zero.cells
  go_upto_region 5 with (first | (refine wpList_load_row rfl 35 (.tmp 9) rfl rfl ba6 Tryd.underlying35 rfl hi ?_) | (refine wpList_store_new rfl 35 (.tmp 12) (.tmp 21) rfl rfl rfl rfl hz7 hi rfl honex ?_; intro w7 hb7 hf7 hs7))
  have fx7 : Fr Non w6 w7 := ((Fr.refl Non w6).alloc (.cells OpL.zero.cells 35)).trans hf7 (fun k hk e => by have e' : k = w6.heap.size := e; omega)
  have xat7 := OpL.frame xat6 fx7
  have ba7 := ba6.fr fx7 (fun e => e)
  have ld : w6.heap.size < w7.heap.size := hb7.lt
  clear hz7 hf7 hs7 honex
  have hxl : x.refs.length ≤ 1000 ∧ x.past.length ≤ 1000 ∧ x.body.length ≤ 1000000 := ⟨xok.refs.1, xok.past.1, xok.body⟩
  obtain ⟨nr, hnr⟩ := hid_ex x.refs.length
  obtain ⟨np, hnp⟩ := hid_ex x.past.length
  obtain ⟨nb, hnb⟩ := hid_ex x.body.length
  rw [hnr.out, hnp.out, hnb.out] at hxl
  have c7 : w7.cell? ⟨ga, 15, none⟩ = some (.slice x.refsA x.refs.length x.refsC) := ba7.cell 15
  rw [hnr.out] at c7
  have e7 := cell_alloc c7 (.cells #[] 26)
  have rd7 : Rd w7 w7.heap.size 1 x.refsA nr (x.refs.map Uv) := by rw [← hnr.out]; exact xat7.refs.1
  have l7 := Own.lit0 w7 26 1
  have hone7 := one_u64s x.refs
  go_upto_region 6 with (first | (at_builtin; go_loud (refine wpList_app (base := w7.heap.size) (.tmp 22) (.tmp 24) 29 rfl rfl rfl rfl slU64 l7 (rd7.alloc (.cells #[] 26)) hone7 (by omega) (by omega) (by rw [World.size_alloc]; omega) ?_); intro A8 s8 w8 own8 fr8 hat8; rw [Nat.zero_add, List.nil_append] at own8; have fx8 : Fr Non w7 w8 := ((Fr.refl Non w7).alloc (.cells #[] 26)).trans fr8 (fun j hj e => (by have e' : w7.heap.size = j := Option.some.inj e; omega)); have hb8 := hb7.fr fx8 (fun e => e); have z8 : w8.cell? ⟨w6.heap.size, 15, none⟩ = some _ := hb8.cell 15; have q8 := hb8.frozen 15; clear fr8 hat8))
  have g9 : Fr Non w6 (w8.setCell ⟨w6.heap.size, 15, none⟩ (.slice A8 nr s8)) := (fx7.trans fx8 (fun _ _ e => e)).setNew (Nat.le_refl _) 15 _
  have hb9 := hb8.set 15 (.slice A8 nr s8)
  have hg9 : Fr (One w6.heap.size) w8 (w8.setCell ⟨w6.heap.size, 15, none⟩ (.slice A8 nr s8)) := (Fr.refl _ _).setOne 15 _
  have own9 := own8.fr hg9 (fun j hj e => by have h := (own8.row j hj).1; have e' : j = w6.heap.size := e; omega)
  have own9_9 := own9
  have hs8 := fx8.size
  have hz9 : w8.heap.size ≤ (w8.setCell ⟨w6.heap.size, 15, none⟩ (.slice A8 nr s8)).heap.size := hg9.size
  clear c7 e7 z8 q8 hb7 l7
  generalize w8.setCell ⟨w6.heap.size, 15, none⟩ (.slice A8 nr s8) = w9 at *
  have xat9 := OpL.frame xat6 g9
  have ba9 := ba6.fr g9 (fun e => e)
  have c9 : w9.cell? ⟨ga, 4, none⟩ = some (.slice x.pastA x.past.length x.pastC) := ba9.cell 4
  rw [hnp.out] at c9
  have e9 := cell_alloc c9 (.cells #[] 28)
  have rd9 : Rd w9 w9.heap.size 3 x.pastA np (x.past.flatMap Id.cells) := by rw [← hnp.out]; exact xat9.past.1
  have l9 := Own.lit0 w9 28 3
  have hone9 := one_ids x.past
  go_upto_region 7 with (first | (at_builtin; go_loud (refine wpList_app (base := w9.heap.size) (.tmp 27) (.tmp 29) 24 rfl rfl rfl rfl slId l9 (rd9.alloc (.cells #[] 28)) hone9 (by omega) (by omega) (by rw [World.size_alloc]; omega) ?_); intro A10 s10 w10 own10 fr10 hat10; rw [Nat.zero_add, List.nil_append] at own10; have fx10 : Fr Non w9 w10 := ((Fr.refl Non w9).alloc (.cells #[] 28)).trans fr10 (fun j hj e => (by have e' : w9.heap.size = j := Option.some.inj e; omega)); have hb10 := hb9.fr fx10 (fun e => e); have z10 : w10.cell? ⟨w6.heap.size, 4, none⟩ = some _ := hb10.cell 4; have q10 := hb10.frozen 4; clear fr10 hat10))
  have g11 : Fr Non w6 (w10.setCell ⟨w6.heap.size, 4, none⟩ (.slice A10 np s10)) := (g9.trans fx10 (fun _ _ e => e)).setNew (Nat.le_refl _) 4 _
  have hb11 := hb10.set 4 (.slice A10 np s10)
  have hg11 : Fr (One w6.heap.size) w10 (w10.setCell ⟨w6.heap.size, 4, none⟩ (.slice A10 np s10)) := (Fr.refl _ _).setOne 4 _
  have own11 := own10.fr hg11 (fun j hj e => by have h := (own10.row j hj).1; have e' : j = w6.heap.size := e; omega)
  have own9_11 := (own9_9.fr fx10 (fun _ _ e => e)).fr hg11 (fun j hj e => by have h := (own9_9.row j hj).1; have e' : j = w6.heap.size := e; omega)
  have own11_11 := own11
  have hs10 := fx10.size
  have hz11 : w10.heap.size ≤ (w10.setCell ⟨w6.heap.size, 4, none⟩ (.slice A10 np s10)).heap.size := hg11.size
  clear c9 e9 z10 q10 hb9 l9
  generalize w10.setCell ⟨w6.heap.size, 4, none⟩ (.slice A10 np s10) = w11 at *
  have xat11 := OpL.frame xat6 g11
  have ba11 := ba6.fr g11 (fun e => e)
  have c11 : w11.cell? ⟨ga, 14, none⟩ = some (.slice x.bodyA x.body.length x.bodyC) := ba11.cell 14
  rw [hnb.out] at c11
  have e11 := cell_alloc c11 (.cells #[] 5)
  have rd11 : Rd w11 w11.heap.size 1 x.bodyA nb (x.body.map Bv) := by rw [← hnb.out]; exact xat11.body.1
  have l11 := Own.lit0 w11 5 1
  have hone11 := Bv_one x.body
  go_upto_region 8 with (first | (at_builtin; go_loud (refine wpList_app (base := w11.heap.size) (.tmp 32) (.tmp 34) 23 rfl rfl rfl rfl slB l11 (rd11.alloc (.cells #[] 5)) hone11 (by omega) (by omega) (by rw [World.size_alloc]; omega) ?_); intro A12 s12 w12 own12 fr12 hat12; rw [Nat.zero_add, List.nil_append] at own12; have fx12 : Fr Non w11 w12 := ((Fr.refl Non w11).alloc (.cells #[] 5)).trans fr12 (fun j hj e => (by have e' : w11.heap.size = j := Option.some.inj e; omega)); have hb12 := hb11.fr fx12 (fun e => e); have z12 : w12.cell? ⟨w6.heap.size, 14, none⟩ = some _ := hb12.cell 14; have q12 := hb12.frozen 14; clear fr12 hat12))
  have g13 : Fr Non w6 (w12.setCell ⟨w6.heap.size, 14, none⟩ (.slice A12 nb s12)) := (g11.trans fx12 (fun _ _ e => e)).setNew (Nat.le_refl _) 14 _
  have hb13 := hb12.set 14 (.slice A12 nb s12)
  have hg13 : Fr (One w6.heap.size) w12 (w12.setCell ⟨w6.heap.size, 14, none⟩ (.slice A12 nb s12)) := (Fr.refl _ _).setOne 14 _
  have own13 := own12.fr hg13 (fun j hj e => by have h := (own12.row j hj).1; have e' : j = w6.heap.size := e; omega)
  have own9_13 := (own9_11.fr fx12 (fun _ _ e => e)).fr hg13 (fun j hj e => by have h := (own9_11.row j hj).1; have e' : j = w6.heap.size := e; omega)
  have own11_13 := (own11_11.fr fx12 (fun _ _ e => e)).fr hg13 (fun j hj e => by have h := (own11_11.row j hj).1; have e' : j = w6.heap.size := e; omega)
  have own13_13 := own13
  have hs12 := fx12.size
  have hz13 : w12.heap.size ≤ (w12.setCell ⟨w6.heap.size, 14, none⟩ (.slice A12 nb s12)).heap.size := hg13.size
  clear c11 e11 z12 q12 hb11 l11
  generalize w12.setCell ⟨w6.heap.size, 14, none⟩ (.slice A12 nb s12) = w13 at *
  have xat13 := OpL.frame xat6 g13
  have ba13 := ba6.fr g13 (fun e => e)
  obtain ⟨d, bd13, dat13, hdo⟩ : ∃ d : OpL, Blk w13 w6.heap.size 35 d.cells ∧ d.at w13 w13.heap.size ∧ d.op = x.op := by
    refine ⟨{ x with refsA := A8, refsC := s8, pastA := A10, pastC := s10, bodyA := A12, bodyC := s12 }, ?_, ⟨?_, xat13.path, xat13.nodes, ?_, ?_, xat13.guards, xat13.boxes, xat13.hist, xat13.seals⟩, rfl⟩
    · have h := hb13
      rw [← hnr.out, ← hnp.out, ← hnb.out] at h
      exact h
    · have h := own_sl0 own11_13
      rw [← hnp.out] at h
      exact h
    · have h := own_sl0 own13_13
      rw [← hnb.out] at h
      exact h
    · have h := own_sl0 own9_13
      rw [← hnr.out] at h
      exact h
  have yat13 := OpL.frame yat6 g13
  have zat13 := OpL.frame zat6 g13
  have bb13 := bb6.fr g13 (fun e => e)
  have bc13 := hb6.fr g13 (fun e => e)
  have fr13 := fr6.trans g13 (fun _ _ e => e)
  clear own9_13 own11_13 own13_13 own9_11 own9_9 own11_11 own9 own11 own13 xat6 yat6 zat6 ba6 bb6 hb6 fr6 g13 g11 g9 fx7 fx8 fx10 fx12 hb13 xat7 xat9 xat11 ba7 ba9 ba11 rd7 rd9 rd11 hg9 hg11 hg13 own8 own10 own12 hs8 hs10 hs12 hz9 hz11 hz13 ld hnr hnp hnb hxl hone7 hone9 hone11 hs24 hs46
  generalize w6.heap.size = gd at *
  have dok : d.op.ok := by rw [hdo]; exact xok
  have kab1 := Lib.hid (fun w' (h : x.at w' w'.heap.size) (k : y.at w' w'.heap.size) => same_any x y w' h xok k yok)
  have kab2 := Lib.hid (fun w' (h : x.at w' w'.heap.size) (k : y.at w' w'.heap.size) => sameop_any x y w' h xok k yok)
  have kac1 := Lib.hid (fun w' (h : x.at w' w'.heap.size) (k : z.at w' w'.heap.size) => same_any x z w' h xok k zok)
  have kac2 := Lib.hid (fun w' (h : x.at w' w'.heap.size) (k : z.at w' w'.heap.size) => sameop_any x z w' h xok k zok)
  have kad := Lib.hid (fun w' (h : x.at w' w'.heap.size) (k : d.at w' w'.heap.size) => same_any x d w' h xok k dok)
  have kcc := Lib.hid (fun w' (h : z.at w' w'.heap.size) => same_any z z w' h zok h zok)
  have kba := Lib.hid (fun w' (h : x.at w' w'.heap.size) (k : y.at w' w'.heap.size) => same_any y x w' k yok h xok)
  rw [hdo, beq_self_eq_true] at kad
  rw [beq_self_eq_true] at kcc
  have hpc : (y.op.put == x.op.put) = (x.op.put == y.op.put) := BEq.comm
  rw [hpc] at kba
  obtain ⟨ix, iz, kia0, kid0, kic0, hzz⟩ := ids_ex x d z hdo xok zok
  have kia := Lib.hid kia0
  have kid := Lib.hid kid0
  have kic := Lib.hid kic0
  clear kia0 kid0 kic0
  generalize (x.op.put == y.op.put) = p at *
  generalize (x.op.put == z.op.put) = q at *
  have klv := Lib.hid (fun w' (h : KindsAt w') => lives11_any w' h)
  have hlx := ldS_blk (P := Tryd.prog) ga 35 Tryd.underlying35 rfl (cs := x.cells) hi
  have hly := ldS_blk (P := Tryd.prog) gb 35 Tryd.underlying35 rfl (cs := y.cells) hi
  have hlz := ldS_blk (P := Tryd.prog) gc 35 Tryd.underlying35 rfl (cs := z.cells) hi
  have hld := ldS_blk (P := Tryd.prog) gd 35 Tryd.underlying35 rfl (cs := d.cells) hi
  have hm := eqGuard_ident
  have hkw : KindsAt w13.drew := hk.fr fr13.drew
  have xd0 := OpL.frame xat13 ((Fr.refl Non w13).drew)
  have yd0 := OpL.frame yat13 ((Fr.refl Non w13).drew)
  have zd0 := OpL.frame zat13 ((Fr.refl Non w13).drew)
  have dd0 := OpL.frame dat13 ((Fr.refl Non w13).drew)
  have ba0 : Blk w13.drew ga 35 x.cells := ba13
  have bb0 : Blk w13.drew gb 35 y.cells := bb13
  have bc0 : Blk w13.drew gc 35 z.cells := bc13
  have bd0 : Blk w13.drew gd 35 d.cells := bd13
  have fr0 := fr13.drew
  clear hk xat13 yat13 zat13 dat13 ba13 bb13 bc13 bd13 fr13 hdo dok hpc xok yok zok
  refine wp_region_held_drew (S := fun w' => Blk w' ga 35 x.cells ∧ Blk w' gb 35 y.cells ∧ Blk w' gc 35 z.cells ∧ Blk w' gd 35 d.cells) (by kernel_rfl) ⟨ba0, bb0, bc0, bd0⟩ (fun _ => ?_)
  refine wpAnyH_take (i := 0) (v := ?_) rfl (by kernel_rfl) (by kernel_rfl) (by kernel_rfl) (fun _ _ _ h => h) (Or.inl ⟨by kernel_rfl, ?_⟩) ⟨ba0, bb0, bc0, bd0⟩ ?_
  rotate_left
  focus (intro w' hSw; have b1 := hSw.1; have b2 := hSw.2.1; have b3 := hSw.2.2.1; have b4 := hSw.2.2.2; go_simp; (try with_reducible rfl))
  try simp only [put_lit, List.set]
  refine wpAnyH_take (i := 1) (v := ?_) rfl (by kernel_rfl) (by kernel_rfl) (by kernel_rfl) (fun _ _ _ h => h) (Or.inl ⟨by kernel_rfl, ?_⟩) ⟨ba0, bb0, bc0, bd0⟩ ?_
  rotate_left
  focus (intro w' hSw; have b1 := hSw.1; have b2 := hSw.2.1; have b3 := hSw.2.2.1; have b4 := hSw.2.2.2; go_simp; (try with_reducible rfl))
  try simp only [put_lit, List.set]
  refine wpAnyH_take (i := 3) (v := ?_) rfl (by kernel_rfl) (by kernel_rfl) (by kernel_rfl) (fun _ _ _ h => h) (Or.inl ⟨by kernel_rfl, ?_⟩) ⟨ba0, bb0, bc0, bd0⟩ ?_
  rotate_left
  focus (intro w' hSw; have b1 := hSw.1; have b2 := hSw.2.1; have b3 := hSw.2.2.1; have b4 := hSw.2.2.2; go_simp; (try with_reducible rfl))
  try simp only [put_lit, List.set]
  refine wpAnyH_take (i := 4) (v := ?_) rfl (by kernel_rfl) (by kernel_rfl) (by kernel_rfl) (fun _ _ _ h => h) (Or.inl ⟨by kernel_rfl, ?_⟩) ⟨ba0, bb0, bc0, bd0⟩ ?_
  rotate_left
  focus (intro w' hSw; have b1 := hSw.1; have b2 := hSw.2.1; have b3 := hSw.2.2.1; have b4 := hSw.2.2.2; go_simp; (try with_reducible rfl))
  try simp only [put_lit, List.set]
  refine wpAnyH_only 2 (by kernel_rfl) rfl (by kernel_rfl) (fun K hK => ?_)
  go_simp
  go_wp2_with (go_at_call 23; (with_reducible refine (kab1.out _ xd0 yd0).mono ?_); rintro _ v1 ⟨rfl, f1⟩; have ba1 := ba0.fr f1 (fun e => e); have bb1 := bb0.fr f1 (fun e => e); have bc1 := bc0.fr f1 (fun e => e); have bd1 := bd0.fr f1 (fun e => e); have xd1 := OpL.frame xd0 f1; have yd1 := OpL.frame yd0 f1; have zd1 := OpL.frame zd0 f1; have dd1 := OpL.frame dd0 f1; have hkw1 := hkw.fr f1; have fr1 := fr0.trans f1 (fun _ _ e => e))
  refine hK.out _ _ ⟨ba1, bb1, bc1, bd1⟩ (fun _ => ?_)
  clear hK K
  try simp only [put_lit, List.set]
  refine wpAnyH_only 5 (by kernel_rfl) rfl (by kernel_rfl) (fun K hK => ?_)
  go_simp
  go_wp2_with (go_at_call 12; (with_reducible refine (kab2.out _ xd1 yd1).mono ?_); rintro _ v2 ⟨rfl, f2⟩; have ba2 := ba1.fr f2 (fun e => e); have bb2 := bb1.fr f2 (fun e => e); have bc2 := bc1.fr f2 (fun e => e); have bd2 := bd1.fr f2 (fun e => e); have xd2 := OpL.frame xd1 f2; have yd2 := OpL.frame yd1 f2; have zd2 := OpL.frame zd1 f2; have dd2 := OpL.frame dd1 f2; have hkw2 := hkw1.fr f2; have fr2 := fr1.trans f2 (fun _ _ e => e))
  refine hK.out _ _ ⟨ba2, bb2, bc2, bd2⟩ (fun _ => ?_)
  clear hK K
  try simp only [put_lit, List.set]
  refine wpAnyH_take (i := 6) (v := ?_) rfl (by kernel_rfl) (by kernel_rfl) (by kernel_rfl) (fun _ _ _ h => h) (Or.inl ⟨by kernel_rfl, ?_⟩) ⟨ba2, bb2, bc2, bd2⟩ ?_
  rotate_left
  focus (intro w' hSw; have b1 := hSw.1; have b2 := hSw.2.1; have b3 := hSw.2.2.1; have b4 := hSw.2.2.2; go_simp; (try with_reducible rfl))
  try simp only [put_lit, List.set]
  refine wpAnyH_take (i := 7) (v := ?_) rfl (by kernel_rfl) (by kernel_rfl) (by kernel_rfl) (fun _ _ _ h => h) (Or.inl ⟨by kernel_rfl, ?_⟩) ⟨ba2, bb2, bc2, bd2⟩ ?_
  rotate_left
  focus (intro w' hSw; have b1 := hSw.1; have b2 := hSw.2.1; have b3 := hSw.2.2.1; have b4 := hSw.2.2.2; go_simp; (try with_reducible rfl))
  try simp only [put_lit, List.set]
  refine wpAnyH_take (i := 8) (v := ?_) rfl (by kernel_rfl) (by kernel_rfl) (by kernel_rfl) (fun _ _ _ h => h) (Or.inl ⟨by kernel_rfl, ?_⟩) ⟨ba2, bb2, bc2, bd2⟩ ?_
  rotate_left
  focus (intro w' hSw; have b1 := hSw.1; have b2 := hSw.2.1; have b3 := hSw.2.2.1; have b4 := hSw.2.2.2; go_simp; (try with_reducible rfl))
  try simp only [put_lit, List.set]
  refine wpAnyH_take (i := 9) (v := ?_) rfl (by kernel_rfl) (by kernel_rfl) (by kernel_rfl) (fun _ _ _ h => h) (Or.inl ⟨by kernel_rfl, ?_⟩) ⟨ba2, bb2, bc2, bd2⟩ ?_
  rotate_left
  focus (intro w' hSw; have b1 := hSw.1; have b2 := hSw.2.1; have b3 := hSw.2.2.1; have b4 := hSw.2.2.2; go_simp; (try with_reducible rfl))
  try simp only [put_lit, List.set]
  refine wpAnyH_take (i := 11) (v := ?_) rfl (by kernel_rfl) (by kernel_rfl) (by kernel_rfl) (fun _ _ _ h => h) (Or.inl ⟨by kernel_rfl, ?_⟩) ⟨ba2, bb2, bc2, bd2⟩ ?_
  rotate_left
  focus (intro w' hSw; have b1 := hSw.1; have b2 := hSw.2.1; have b3 := hSw.2.2.1; have b4 := hSw.2.2.2; go_simp; (try with_reducible rfl))
  try simp only [put_lit, List.set]
  refine wpAnyH_take (i := 12) (v := ?_) rfl (by kernel_rfl) (by kernel_rfl) (by kernel_rfl) (fun _ _ _ h => h) (Or.inl ⟨by kernel_rfl, ?_⟩) ⟨ba2, bb2, bc2, bd2⟩ ?_
  rotate_left
  focus (intro w' hSw; have b1 := hSw.1; have b2 := hSw.2.1; have b3 := hSw.2.2.1; have b4 := hSw.2.2.2; go_simp; (try with_reducible rfl))
  try simp only [put_lit, List.set]
  refine wpAnyH_only 10 (by kernel_rfl) rfl (by kernel_rfl) (fun K hK => ?_)
  go_simp
  go_wp2_with (go_at_call 23; (with_reducible refine (kac1.out _ xd2 zd2).mono ?_); rintro _ v3 ⟨rfl, f3⟩; have ba3 := ba2.fr f3 (fun e => e); have bb3 := bb2.fr f3 (fun e => e); have bc3 := bc2.fr f3 (fun e => e); have bd3 := bd2.fr f3 (fun e => e); have xd3 := OpL.frame xd2 f3; have yd3 := OpL.frame yd2 f3; have zd3 := OpL.frame zd2 f3; have dd3 := OpL.frame dd2 f3; have hkw3 := hkw2.fr f3; have fr3 := fr2.trans f3 (fun _ _ e => e))
  refine hK.out _ _ ⟨ba3, bb3, bc3, bd3⟩ (fun _ => ?_)
  clear hK K
  try simp only [put_lit, List.set]
  refine wpAnyH_only 13 (by kernel_rfl) rfl (by kernel_rfl) (fun K hK => ?_)
  go_simp
  go_wp2_with (go_at_call 12; (with_reducible refine (kac2.out _ xd3 zd3).mono ?_); rintro _ v4 ⟨rfl, f4⟩; have ba4 := ba3.fr f4 (fun e => e); have bb4 := bb3.fr f4 (fun e => e); have bc4 := bc3.fr f4 (fun e => e); have bd4 := bd3.fr f4 (fun e => e); have xd4 := OpL.frame xd3 f4; have yd4 := OpL.frame yd3 f4; have zd4 := OpL.frame zd3 f4; have dd4 := OpL.frame dd3 f4; have hkw4 := hkw3.fr f4; have fr4 := fr3.trans f4 (fun _ _ e => e))
  refine hK.out _ _ ⟨ba4, bb4, bc4, bd4⟩ (fun _ => ?_)
  clear hK K
  try simp only [put_lit, List.set]
  refine wpAnyH_take (i := 14) (v := ?_) rfl (by kernel_rfl) (by kernel_rfl) (by kernel_rfl) (fun _ _ _ h => h) (Or.inl ⟨by kernel_rfl, ?_⟩) ⟨ba4, bb4, bc4, bd4⟩ ?_
  rotate_left
  focus (intro w' hSw; have b1 := hSw.1; have b2 := hSw.2.1; have b3 := hSw.2.2.1; have b4 := hSw.2.2.2; go_simp; (try with_reducible rfl))
  try simp only [put_lit, List.set]
  refine wpAnyH_take (i := 15) (v := ?_) rfl (by kernel_rfl) (by kernel_rfl) (by kernel_rfl) (fun _ _ _ h => h) (Or.inl ⟨by kernel_rfl, ?_⟩) ⟨ba4, bb4, bc4, bd4⟩ ?_
  rotate_left
  focus (intro w' hSw; have b1 := hSw.1; have b2 := hSw.2.1; have b3 := hSw.2.2.1; have b4 := hSw.2.2.2; go_simp; (try with_reducible rfl))
  try simp only [put_lit, List.set]
  refine wpAnyH_take (i := 16) (v := ?_) rfl (by kernel_rfl) (by kernel_rfl) (by kernel_rfl) (fun _ _ _ h => h) (Or.inl ⟨by kernel_rfl, ?_⟩) ⟨ba4, bb4, bc4, bd4⟩ ?_
  rotate_left
  focus (intro w' hSw; have b1 := hSw.1; have b2 := hSw.2.1; have b3 := hSw.2.2.1; have b4 := hSw.2.2.2; go_simp; (try with_reducible rfl))
  try simp only [put_lit, List.set]
  refine wpAnyH_take (i := 17) (v := ?_) rfl (by kernel_rfl) (by kernel_rfl) (by kernel_rfl) (fun _ _ _ h => h) (Or.inl ⟨by kernel_rfl, ?_⟩) ⟨ba4, bb4, bc4, bd4⟩ ?_
  rotate_left
  focus (intro w' hSw; have b1 := hSw.1; have b2 := hSw.2.1; have b3 := hSw.2.2.1; have b4 := hSw.2.2.2; go_simp; (try with_reducible rfl))
  try simp only [put_lit, List.set]
  refine wpAnyH_take (i := 18) (v := ?_) rfl (by kernel_rfl) (by kernel_rfl) (by kernel_rfl) (fun _ _ _ h => h) (Or.inl ⟨by kernel_rfl, ?_⟩) ⟨ba4, bb4, bc4, bd4⟩ ?_
  rotate_left
  focus (intro w' hSw; have b1 := hSw.1; have b2 := hSw.2.1; have b3 := hSw.2.2.1; have b4 := hSw.2.2.2; go_simp; (try with_reducible rfl))
  try simp only [put_lit, List.set]
  refine wpAnyH_only 19 (by kernel_rfl) rfl (by kernel_rfl) (fun K hK => ?_)
  go_simp
  go_wp2_with (go_at_call 23; (with_reducible refine (kad.out _ xd4 dd4).mono ?_); rintro _ v5 ⟨rfl, f5⟩; have ba5 := ba4.fr f5 (fun e => e); have bb5 := bb4.fr f5 (fun e => e); have bc5 := bc4.fr f5 (fun e => e); have bd5 := bd4.fr f5 (fun e => e); have xd5 := OpL.frame xd4 f5; have yd5 := OpL.frame yd4 f5; have zd5 := OpL.frame zd4 f5; have dd5 := OpL.frame dd4 f5; have hkw5 := hkw4.fr f5; have fr5 := fr4.trans f5 (fun _ _ e => e))
  refine hK.out _ _ ⟨ba5, bb5, bc5, bd5⟩ (fun _ => ?_)
  clear hK K
  try simp only [put_lit, List.set]
  refine wpAnyH_take (i := 20) (v := ?_) rfl (by kernel_rfl) (by kernel_rfl) (by kernel_rfl) (fun _ _ _ h => h) (Or.inl ⟨by kernel_rfl, ?_⟩) ⟨ba5, bb5, bc5, bd5⟩ ?_
  rotate_left
  focus (intro w' hSw; have b1 := hSw.1; have b2 := hSw.2.1; have b3 := hSw.2.2.1; have b4 := hSw.2.2.2; go_simp; (try with_reducible rfl))
  try simp only [put_lit, List.set]
  refine wpAnyH_take (i := 21) (v := ?_) rfl (by kernel_rfl) (by kernel_rfl) (by kernel_rfl) (fun _ _ _ h => h) (Or.inl ⟨by kernel_rfl, ?_⟩) ⟨ba5, bb5, bc5, bd5⟩ ?_
  rotate_left
  focus (intro w' hSw; have b1 := hSw.1; have b2 := hSw.2.1; have b3 := hSw.2.2.1; have b4 := hSw.2.2.2; go_simp; (try with_reducible rfl))
  try simp only [put_lit, List.set]
  refine wpAnyH_take (i := 22) (v := ?_) rfl (by kernel_rfl) (by kernel_rfl) (by kernel_rfl) (fun _ _ _ h => h) (Or.inl ⟨by kernel_rfl, ?_⟩) ⟨ba5, bb5, bc5, bd5⟩ ?_
  rotate_left
  focus (intro w' hSw; have b1 := hSw.1; have b2 := hSw.2.1; have b3 := hSw.2.2.1; have b4 := hSw.2.2.2; go_simp; (try with_reducible rfl))
  try simp only [put_lit, List.set]
  refine wpAnyH_take (i := 23) (v := ?_) rfl (by kernel_rfl) (by kernel_rfl) (by kernel_rfl) (fun _ _ _ h => h) (Or.inl ⟨by kernel_rfl, ?_⟩) ⟨ba5, bb5, bc5, bd5⟩ ?_
  rotate_left
  focus (intro w' hSw; have b1 := hSw.1; have b2 := hSw.2.1; have b3 := hSw.2.2.1; have b4 := hSw.2.2.2; go_simp; (try with_reducible rfl))
  try simp only [put_lit, List.set]
  refine wpAnyH_take (i := 24) (v := ?_) rfl (by kernel_rfl) (by kernel_rfl) (by kernel_rfl) (fun _ _ _ h => h) (Or.inl ⟨by kernel_rfl, ?_⟩) ⟨ba5, bb5, bc5, bd5⟩ ?_
  rotate_left
  focus (intro w' hSw; have b1 := hSw.1; have b2 := hSw.2.1; have b3 := hSw.2.2.1; have b4 := hSw.2.2.2; go_simp; (try with_reducible rfl))
  try simp only [put_lit, List.set]
  refine wpAnyH_only 25 (by kernel_rfl) rfl (by kernel_rfl) (fun K hK => ?_)
  go_simp
  go_wp2_with (go_at_call 23; (with_reducible refine (kcc.out _ zd5).mono ?_); rintro _ v6 ⟨rfl, f6⟩; have ba6 := ba5.fr f6 (fun e => e); have bb6 := bb5.fr f6 (fun e => e); have bc6 := bc5.fr f6 (fun e => e); have bd6 := bd5.fr f6 (fun e => e); have xd6 := OpL.frame xd5 f6; have yd6 := OpL.frame yd5 f6; have zd6 := OpL.frame zd5 f6; have dd6 := OpL.frame dd5 f6; have hkw6 := hkw5.fr f6; have fr6 := fr5.trans f6 (fun _ _ e => e))
  refine hK.out _ _ ⟨ba6, bb6, bc6, bd6⟩ (fun _ => ?_)
  clear hK K
  try simp only [put_lit, List.set]
  refine wpAnyH_take (i := 26) (v := ?_) rfl (by kernel_rfl) (by kernel_rfl) (by kernel_rfl) (fun _ _ _ h => h) (Or.inl ⟨by kernel_rfl, ?_⟩) ⟨ba6, bb6, bc6, bd6⟩ ?_
  rotate_left
  focus (intro w' hSw; have b1 := hSw.1; have b2 := hSw.2.1; have b3 := hSw.2.2.1; have b4 := hSw.2.2.2; go_simp; (try with_reducible rfl))
  try simp only [put_lit, List.set]
  refine wpAnyH_take (i := 27) (v := ?_) rfl (by kernel_rfl) (by kernel_rfl) (by kernel_rfl) (fun _ _ _ h => h) (Or.inl ⟨by kernel_rfl, ?_⟩) ⟨ba6, bb6, bc6, bd6⟩ ?_
  rotate_left
  focus (intro w' hSw; have b1 := hSw.1; have b2 := hSw.2.1; have b3 := hSw.2.2.1; have b4 := hSw.2.2.2; go_simp; (try with_reducible rfl))
  try simp only [put_lit, List.set]
  refine wpAnyH_done (by kernel_rfl) ?_ _
  go_upto_region 10 with (fail)
  have hq : Hid (q = true → iz = ix) := hzz
  clear hzz
  skip
  have fD : Fr Non v6 v6.drew := (Fr.refl Non v6).drew
  have ba7 := ba6.fr fD (fun e => e)
  have bb7 := bb6.fr fD (fun e => e)
  have bc7 := bc6.fr fD (fun e => e)
  have bd7 := bd6.fr fD (fun e => e)
  have xd7 := OpL.frame xd6 fD
  have yd7 := OpL.frame yd6 fD
  have zd7 := OpL.frame zd6 fD
  have dd7 := OpL.frame dd6 fD
  have hkw7 := hkw6.fr fD
  have fr7 := fr6.trans fD (fun _ _ e => e)
  cases hqq : q
  case false =>
    subst hqq
    clear hq
    refine wp_region_held_drew (S := fun w' => Blk w' ga 35 x.cells ∧ Blk w' gb 35 y.cells ∧ Blk w' gc 35 z.cells ∧ Blk w' gd 35 d.cells) (by kernel_rfl) ⟨ba7, bb7, bc7, bd7⟩ (fun _ => ?_)
    refine wpAnyH_take (i := 0) (v := ?_) rfl (by kernel_rfl) (by kernel_rfl) (by kernel_rfl) (fun _ _ _ h => h) (Or.inl ⟨by kernel_rfl, ?_⟩) ⟨ba7, bb7, bc7, bd7⟩ ?_
    rotate_left
    focus (intro w' hSw; have b1 := hSw.1; have b2 := hSw.2.1; have b3 := hSw.2.2.1; have b4 := hSw.2.2.2; go_simp; (try with_reducible rfl))
    try simp only [put_lit, List.set]
    refine wpAnyH_take (i := 1) (v := ?_) rfl (by kernel_rfl) (by kernel_rfl) (by kernel_rfl) (fun _ _ _ h => h) (Or.inl ⟨by kernel_rfl, ?_⟩) ⟨ba7, bb7, bc7, bd7⟩ ?_
    rotate_left
    focus (intro w' hSw; have b1 := hSw.1; have b2 := hSw.2.1; have b3 := hSw.2.2.1; have b4 := hSw.2.2.2; go_simp; (try with_reducible rfl))
    try simp only [put_lit, List.set]
    refine wpAnyH_only 2 (by kernel_rfl) rfl (by kernel_rfl) (fun K hK => ?_)
    go_simp
    go_wp2_with (go_at_call 23; (with_reducible refine (kac1.out _ xd7 zd7).mono ?_); rintro _ v8 ⟨rfl, f8⟩; have ba8 := ba7.fr f8 (fun e => e); have bb8 := bb7.fr f8 (fun e => e); have bc8 := bc7.fr f8 (fun e => e); have bd8 := bd7.fr f8 (fun e => e); have xd8 := OpL.frame xd7 f8; have yd8 := OpL.frame yd7 f8; have zd8 := OpL.frame zd7 f8; have dd8 := OpL.frame dd7 f8; have hkw8 := hkw7.fr f8; have fr8 := fr7.trans f8 (fun _ _ e => e))
    refine hK.out _ _ ⟨ba8, bb8, bc8, bd8⟩ (fun _ => ?_)
    clear hK K
    try simp only [put_lit, List.set]
    refine wpAnyH_take (i := 3) (v := ?_) rfl (by kernel_rfl) (by kernel_rfl) (by kernel_rfl) (fun _ _ _ h => h) (Or.inl ⟨by kernel_rfl, ?_⟩) ⟨ba8, bb8, bc8, bd8⟩ ?_
    rotate_left
    focus (intro w' hSw; have b1 := hSw.1; have b2 := hSw.2.1; have b3 := hSw.2.2.1; have b4 := hSw.2.2.2; go_simp; (try with_reducible rfl))
    try simp only [put_lit, List.set]
    refine wpAnyH_take (i := 4) (v := ?_) rfl (by kernel_rfl) (by kernel_rfl) (by kernel_rfl) (fun _ _ _ h => h) (Or.inl ⟨by kernel_rfl, ?_⟩) ⟨ba8, bb8, bc8, bd8⟩ ?_
    rotate_left
    focus (intro w' hSw; have b1 := hSw.1; have b2 := hSw.2.1; have b3 := hSw.2.2.1; have b4 := hSw.2.2.2; go_simp; (try with_reducible rfl))
    try simp only [put_lit, List.set]
    refine wpAnyH_take (i := 5) (v := undef) rfl (by kernel_rfl) (by kernel_rfl) (by kernel_rfl) (fun _ _ _ h => h) (Or.inr ⟨by kernel_rfl, rfl⟩) ⟨ba8, bb8, bc8, bd8⟩ ?_
    try simp only [put_lit, List.set]
    refine wpAnyH_take (i := 6) (v := undef) rfl (by kernel_rfl) (by kernel_rfl) (by kernel_rfl) (fun _ _ _ h => h) (Or.inr ⟨by kernel_rfl, rfl⟩) ⟨ba8, bb8, bc8, bd8⟩ ?_
    try simp only [put_lit, List.set]
    refine wpAnyH_take (i := 7) (v := undef) rfl (by kernel_rfl) (by kernel_rfl) (by kernel_rfl) (fun _ _ _ h => h) (Or.inr ⟨by kernel_rfl, rfl⟩) ⟨ba8, bb8, bc8, bd8⟩ ?_
    try simp only [put_lit, List.set]
    refine wpAnyH_take (i := 8) (v := undef) rfl (by kernel_rfl) (by kernel_rfl) (by kernel_rfl) (fun _ _ _ h => h) (Or.inr ⟨by kernel_rfl, rfl⟩) ⟨ba8, bb8, bc8, bd8⟩ ?_
    try simp only [put_lit, List.set]
    refine wpAnyH_take (i := 9) (v := undef) rfl (by kernel_rfl) (by kernel_rfl) (by kernel_rfl) (fun _ _ _ h => h) (Or.inr ⟨by kernel_rfl, rfl⟩) ⟨ba8, bb8, bc8, bd8⟩ ?_
    try simp only [put_lit, List.set]
    refine wpAnyH_take (i := 10) (v := ?_) rfl (by kernel_rfl) (by kernel_rfl) (by kernel_rfl) (fun _ _ _ h => h) (Or.inl ⟨by kernel_rfl, ?_⟩) ⟨ba8, bb8, bc8, bd8⟩ ?_
    rotate_left
    focus (intro w' hSw; have b1 := hSw.1; have b2 := hSw.2.1; have b3 := hSw.2.2.1; have b4 := hSw.2.2.2; go_simp; (try with_reducible rfl))
    try simp only [put_lit, List.set]
    refine wpAnyH_take (i := 11) (v := ?_) rfl (by kernel_rfl) (by kernel_rfl) (by kernel_rfl) (fun _ _ _ h => h) (Or.inl ⟨by kernel_rfl, ?_⟩) ⟨ba8, bb8, bc8, bd8⟩ ?_
    rotate_left
    focus (intro w' hSw; have b1 := hSw.1; have b2 := hSw.2.1; have b3 := hSw.2.2.1; have b4 := hSw.2.2.2; go_simp; (try with_reducible rfl))
    try simp only [put_lit, List.set]
    refine wpAnyH_take (i := 12) (v := ?_) rfl (by kernel_rfl) (by kernel_rfl) (by kernel_rfl) (fun _ _ _ h => h) (Or.inl ⟨by kernel_rfl, ?_⟩) ⟨ba8, bb8, bc8, bd8⟩ ?_
    rotate_left
    focus (intro w' hSw; have b1 := hSw.1; have b2 := hSw.2.1; have b3 := hSw.2.2.1; have b4 := hSw.2.2.2; go_simp; (try with_reducible rfl))
    try simp only [put_lit, List.set]
    refine wpAnyH_take (i := 14) (v := ?_) rfl (by kernel_rfl) (by kernel_rfl) (by kernel_rfl) (fun _ _ _ h => h) (Or.inl ⟨by kernel_rfl, ?_⟩) ⟨ba8, bb8, bc8, bd8⟩ ?_
    rotate_left
    focus (intro w' hSw; have b1 := hSw.1; have b2 := hSw.2.1; have b3 := hSw.2.2.1; have b4 := hSw.2.2.2; go_simp; (try with_reducible rfl))
    try simp only [put_lit, List.set]
    refine wpAnyH_only 13 (by kernel_rfl) rfl (by kernel_rfl) (fun K hK => ?_)
    go_simp
    go_wp2_with (go_at_call 21; (with_reducible refine (kia.out _ xd8).mono ?_); rintro _ v9 ⟨rfl, f9⟩; have ba9 := ba8.fr f9 (fun e => e); have bb9 := bb8.fr f9 (fun e => e); have bc9 := bc8.fr f9 (fun e => e); have bd9 := bd8.fr f9 (fun e => e); have xd9 := OpL.frame xd8 f9; have yd9 := OpL.frame yd8 f9; have zd9 := OpL.frame zd8 f9; have dd9 := OpL.frame dd8 f9; have hkw9 := hkw8.fr f9; have fr9 := fr8.trans f9 (fun _ _ e => e))
    refine hK.out _ _ ⟨ba9, bb9, bc9, bd9⟩ (fun _ => ?_)
    clear hK K
    try simp only [put_lit, List.set]
    refine wpAnyH_only 15 (by kernel_rfl) rfl (by kernel_rfl) (fun K hK => ?_)
    go_simp
    go_wp2_with (go_at_call 21; (with_reducible refine (kid.out _ dd9).mono ?_); rintro _ v10 ⟨rfl, f10⟩; have ba10 := ba9.fr f10 (fun e => e); have bb10 := bb9.fr f10 (fun e => e); have bc10 := bc9.fr f10 (fun e => e); have bd10 := bd9.fr f10 (fun e => e); have xd10 := OpL.frame xd9 f10; have yd10 := OpL.frame yd9 f10; have zd10 := OpL.frame zd9 f10; have dd10 := OpL.frame dd9 f10; have hkw10 := hkw9.fr f10; have fr10 := fr9.trans f10 (fun _ _ e => e))
    refine hK.out _ _ ⟨ba10, bb10, bc10, bd10⟩ (fun _ => ?_)
    clear hK K
    try simp only [put_lit, List.set]
    refine wpAnyH_take (i := 16) (v := ?_) rfl (by kernel_rfl) (by kernel_rfl) (by kernel_rfl) (fun _ _ _ h => h) (Or.inl ⟨by kernel_rfl, ?_⟩) ⟨ba10, bb10, bc10, bd10⟩ ?_
    rotate_left
    focus (intro w' hSw; have b1 := hSw.1; have b2 := hSw.2.1; have b3 := hSw.2.2.1; have b4 := hSw.2.2.2; go_simp; (try with_reducible rfl))
    try simp only [put_lit, List.set]
    refine wpAnyH_take (i := 17) (v := ?_) rfl (by kernel_rfl) (by kernel_rfl) (by kernel_rfl) (fun _ _ _ h => h) (Or.inl ⟨by kernel_rfl, ?_⟩) ⟨ba10, bb10, bc10, bd10⟩ ?_
    rotate_left
    focus (intro w' hSw; have b1 := hSw.1; have b2 := hSw.2.1; have b3 := hSw.2.2.1; have b4 := hSw.2.2.2; go_simp; (try with_reducible rfl))
    try simp only [put_lit, List.set]
    refine wpAnyH_take (i := 18) (v := ?_) rfl (by kernel_rfl) (by kernel_rfl) (by kernel_rfl) (fun _ _ _ h => h) (Or.inl ⟨by kernel_rfl, ?_⟩) ⟨ba10, bb10, bc10, bd10⟩ ?_
    rotate_left
    focus (intro w' hSw; have b1 := hSw.1; have b2 := hSw.2.1; have b3 := hSw.2.2.1; have b4 := hSw.2.2.2; go_simp; (try with_reducible rfl))
    try simp only [put_lit, List.set]
    refine wpAnyH_take (i := 19) (v := ?_) rfl (by kernel_rfl) (by kernel_rfl) (by kernel_rfl) (fun _ _ _ h => h) (Or.inl ⟨by kernel_rfl, ?_⟩) ⟨ba10, bb10, bc10, bd10⟩ ?_
    rotate_left
    focus (intro w' hSw; have b1 := hSw.1; have b2 := hSw.2.1; have b3 := hSw.2.2.1; have b4 := hSw.2.2.2; go_simp; (try with_reducible rfl))
    try simp only [put_lit, List.set]
    refine wpAnyH_take (i := 20) (v := ?_) rfl (by kernel_rfl) (by kernel_rfl) (by kernel_rfl) (fun _ _ _ h => h) (Or.inl ⟨by kernel_rfl, ?_⟩) ⟨ba10, bb10, bc10, bd10⟩ ?_
    rotate_left
    focus (intro w' hSw; have b1 := hSw.1; have b2 := hSw.2.1; have b3 := hSw.2.2.1; have b4 := hSw.2.2.2; go_simp; (try with_reducible rfl))
    try simp only [put_lit, List.set]
    refine wpAnyH_take (i := 22) (v := ?_) rfl (by kernel_rfl) (by kernel_rfl) (by kernel_rfl) (fun _ _ _ h => h) (Or.inl ⟨by kernel_rfl, ?_⟩) ⟨ba10, bb10, bc10, bd10⟩ ?_
    rotate_left
    focus (intro w' hSw; have b1 := hSw.1; have b2 := hSw.2.1; have b3 := hSw.2.2.1; have b4 := hSw.2.2.2; go_simp; (try with_reducible rfl))
    try simp only [put_lit, List.set]
    refine wpAnyH_take (i := 23) (v := ?_) rfl (by kernel_rfl) (by kernel_rfl) (by kernel_rfl) (fun _ _ _ h => h) (Or.inl ⟨by kernel_rfl, ?_⟩) ⟨ba10, bb10, bc10, bd10⟩ ?_
    rotate_left
    focus (intro w' hSw; have b1 := hSw.1; have b2 := hSw.2.1; have b3 := hSw.2.2.1; have b4 := hSw.2.2.2; go_simp; (try with_reducible rfl))
    try simp only [put_lit, List.set]
    refine wpAnyH_only 21 (by kernel_rfl) rfl (by kernel_rfl) (fun K hK => ?_)
    go_simp
    go_wp2_with (go_at_call 23; (with_reducible refine (kba.out _ xd10 yd10).mono ?_); rintro _ v11 ⟨rfl, f11⟩; have ba11 := ba10.fr f11 (fun e => e); have bb11 := bb10.fr f11 (fun e => e); have bc11 := bc10.fr f11 (fun e => e); have bd11 := bd10.fr f11 (fun e => e); have xd11 := OpL.frame xd10 f11; have yd11 := OpL.frame yd10 f11; have zd11 := OpL.frame zd10 f11; have dd11 := OpL.frame dd10 f11; have hkw11 := hkw10.fr f11; have fr11 := fr10.trans f11 (fun _ _ e => e))
    refine hK.out _ _ ⟨ba11, bb11, bc11, bd11⟩ (fun _ => ?_)
    clear hK K
    try simp only [put_lit, List.set]
    refine wpAnyH_only 24 (by kernel_rfl) rfl (by kernel_rfl) (fun K hK => ?_)
    go_simp
    go_wp2_with (go_at_call 23; (with_reducible refine (kab1.out _ xd11 yd11).mono ?_); rintro _ v12 ⟨rfl, f12⟩; have ba12 := ba11.fr f12 (fun e => e); have bb12 := bb11.fr f12 (fun e => e); have bc12 := bc11.fr f12 (fun e => e); have bd12 := bd11.fr f12 (fun e => e); have xd12 := OpL.frame xd11 f12; have yd12 := OpL.frame yd11 f12; have zd12 := OpL.frame zd11 f12; have dd12 := OpL.frame dd11 f12; have hkw12 := hkw11.fr f12; have fr12 := fr11.trans f12 (fun _ _ e => e))
    refine hK.out _ _ ⟨ba12, bb12, bc12, bd12⟩ (fun _ => ?_)
    clear hK K
    try simp only [put_lit, List.set]
    refine wpAnyH_take (i := 25) (v := ?_) rfl (by kernel_rfl) (by kernel_rfl) (by kernel_rfl) (fun _ _ _ h => h) (Or.inl ⟨by kernel_rfl, ?_⟩) ⟨ba12, bb12, bc12, bd12⟩ ?_
    rotate_left
    focus (intro w' hSw; have b1 := hSw.1; have b2 := hSw.2.1; have b3 := hSw.2.2.1; have b4 := hSw.2.2.2; go_simp; (try with_reducible rfl))
    try simp only [put_lit, List.set]
    refine wpAnyH_take (i := 26) (v := ?_) rfl (by kernel_rfl) (by kernel_rfl) (by kernel_rfl) (fun _ _ _ h => h) (Or.inl ⟨by kernel_rfl, ?_⟩) ⟨ba12, bb12, bc12, bd12⟩ ?_
    rotate_left
    focus (intro w' hSw; have b1 := hSw.1; have b2 := hSw.2.1; have b3 := hSw.2.2.1; have b4 := hSw.2.2.2; go_simp; (try with_reducible rfl))
    try simp only [put_lit, List.set]
    refine wpAnyH_take (i := 27) (v := ?_) rfl (by kernel_rfl) (by kernel_rfl) (by kernel_rfl) (fun _ _ _ h => h) (Or.inl ⟨by kernel_rfl, ?_⟩) ⟨ba12, bb12, bc12, bd12⟩ ?_
    rotate_left
    focus (intro w' hSw; have b1 := hSw.1; have b2 := hSw.2.1; have b3 := hSw.2.2.1; have b4 := hSw.2.2.2; go_simp; (try with_reducible rfl))
    try simp only [put_lit, List.set]
    refine wpAnyH_only 28 (by kernel_rfl) rfl (by kernel_rfl) (fun K hK => ?_)
    go_simp
    go_wp2_with (go_at_call 16; (with_reducible refine (klv.out _ hkw12).mono ?_); rintro _ v13 ⟨rfl, f13⟩; have ba13 := ba12.fr f13 (fun e => e); have bb13 := bb12.fr f13 (fun e => e); have bc13 := bc12.fr f13 (fun e => e); have bd13 := bd12.fr f13 (fun e => e); have xd13 := OpL.frame xd12 f13; have yd13 := OpL.frame yd12 f13; have zd13 := OpL.frame zd12 f13; have dd13 := OpL.frame dd12 f13; have hkw13 := hkw12.fr f13; have fr13 := fr12.trans f13 (fun _ _ e => e))
    refine hK.out _ _ ⟨ba13, bb13, bc13, bd13⟩ (fun _ => ?_)
    clear hK K
    try simp only [put_lit, List.set]
    refine wpAnyH_take (i := 29) (v := ?_) rfl (by kernel_rfl) (by kernel_rfl) (by kernel_rfl) (fun _ _ _ h => h) (Or.inl ⟨by kernel_rfl, ?_⟩) ⟨ba13, bb13, bc13, bd13⟩ ?_
    rotate_left
    focus (intro w' hSw; have b1 := hSw.1; have b2 := hSw.2.1; have b3 := hSw.2.2.1; have b4 := hSw.2.2.2; go_simp; (try with_reducible rfl))
    try simp only [put_lit, List.set]
    refine wpAnyH_take (i := 30) (v := ?_) rfl (by kernel_rfl) (by kernel_rfl) (by kernel_rfl) (fun _ _ _ h => h) (Or.inl ⟨by kernel_rfl, ?_⟩) ⟨ba13, bb13, bc13, bd13⟩ ?_
    rotate_left
    focus (intro w' hSw; have b1 := hSw.1; have b2 := hSw.2.1; have b3 := hSw.2.2.1; have b4 := hSw.2.2.2; go_simp; (try with_reducible rfl))
    try simp only [put_lit, List.set]
    refine wpAnyH_done (by kernel_rfl) ?_ _
    go_wp2
    go_ret
    exact ⟨rfl, fr13⟩
  case true =>
    have e1 := hq.out hqq
    subst hqq
    subst e1
    clear hq
    refine wp_region_held_drew (S := fun w' => Blk w' ga 35 x.cells ∧ Blk w' gb 35 y.cells ∧ Blk w' gc 35 z.cells ∧ Blk w' gd 35 d.cells) (by kernel_rfl) ⟨ba7, bb7, bc7, bd7⟩ (fun _ => ?_)
    refine wpAnyH_take (i := 0) (v := ?_) rfl (by kernel_rfl) (by kernel_rfl) (by kernel_rfl) (fun _ _ _ h => h) (Or.inl ⟨by kernel_rfl, ?_⟩) ⟨ba7, bb7, bc7, bd7⟩ ?_
    rotate_left
    focus (intro w' hSw; have b1 := hSw.1; have b2 := hSw.2.1; have b3 := hSw.2.2.1; have b4 := hSw.2.2.2; go_simp; (try with_reducible rfl))
    try simp only [put_lit, List.set]
    refine wpAnyH_take (i := 1) (v := ?_) rfl (by kernel_rfl) (by kernel_rfl) (by kernel_rfl) (fun _ _ _ h => h) (Or.inl ⟨by kernel_rfl, ?_⟩) ⟨ba7, bb7, bc7, bd7⟩ ?_
    rotate_left
    focus (intro w' hSw; have b1 := hSw.1; have b2 := hSw.2.1; have b3 := hSw.2.2.1; have b4 := hSw.2.2.2; go_simp; (try with_reducible rfl))
    try simp only [put_lit, List.set]
    refine wpAnyH_only 2 (by kernel_rfl) rfl (by kernel_rfl) (fun K hK => ?_)
    go_simp
    go_wp2_with (go_at_call 23; (with_reducible refine (kac1.out _ xd7 zd7).mono ?_); rintro _ v8 ⟨rfl, f8⟩; have ba8 := ba7.fr f8 (fun e => e); have bb8 := bb7.fr f8 (fun e => e); have bc8 := bc7.fr f8 (fun e => e); have bd8 := bd7.fr f8 (fun e => e); have xd8 := OpL.frame xd7 f8; have yd8 := OpL.frame yd7 f8; have zd8 := OpL.frame zd7 f8; have dd8 := OpL.frame dd7 f8; have hkw8 := hkw7.fr f8; have fr8 := fr7.trans f8 (fun _ _ e => e))
    refine hK.out _ _ ⟨ba8, bb8, bc8, bd8⟩ (fun _ => ?_)
    clear hK K
    try simp only [put_lit, List.set]
    refine wpAnyH_take (i := 3) (v := ?_) rfl (by kernel_rfl) (by kernel_rfl) (by kernel_rfl) (fun _ _ _ h => h) (Or.inl ⟨by kernel_rfl, ?_⟩) ⟨ba8, bb8, bc8, bd8⟩ ?_
    rotate_left
    focus (intro w' hSw; have b1 := hSw.1; have b2 := hSw.2.1; have b3 := hSw.2.2.1; have b4 := hSw.2.2.2; go_simp; (try with_reducible rfl))
    try simp only [put_lit, List.set]
    refine wpAnyH_take (i := 4) (v := ?_) rfl (by kernel_rfl) (by kernel_rfl) (by kernel_rfl) (fun _ _ _ h => h) (Or.inl ⟨by kernel_rfl, ?_⟩) ⟨ba8, bb8, bc8, bd8⟩ ?_
    rotate_left
    focus (intro w' hSw; have b1 := hSw.1; have b2 := hSw.2.1; have b3 := hSw.2.2.1; have b4 := hSw.2.2.2; go_simp; (try with_reducible rfl))
    try simp only [put_lit, List.set]
    refine wpAnyH_take (i := 5) (v := ?_) rfl (by kernel_rfl) (by kernel_rfl) (by kernel_rfl) (fun _ _ _ h => h) (Or.inl ⟨by kernel_rfl, ?_⟩) ⟨ba8, bb8, bc8, bd8⟩ ?_
    rotate_left
    focus (intro w' hSw; have b1 := hSw.1; have b2 := hSw.2.1; have b3 := hSw.2.2.1; have b4 := hSw.2.2.2; go_simp; (try with_reducible rfl))
    try simp only [put_lit, List.set]
    refine wpAnyH_take (i := 7) (v := ?_) rfl (by kernel_rfl) (by kernel_rfl) (by kernel_rfl) (fun _ _ _ h => h) (Or.inl ⟨by kernel_rfl, ?_⟩) ⟨ba8, bb8, bc8, bd8⟩ ?_
    rotate_left
    focus (intro w' hSw; have b1 := hSw.1; have b2 := hSw.2.1; have b3 := hSw.2.2.1; have b4 := hSw.2.2.2; go_simp; (try with_reducible rfl))
    try simp only [put_lit, List.set]
    refine wpAnyH_only 6 (by kernel_rfl) rfl (by kernel_rfl) (fun K hK => ?_)
    go_simp
    go_wp2_with (go_at_call 21; (with_reducible refine (kia.out _ xd8).mono ?_); rintro _ v9 ⟨rfl, f9⟩; have ba9 := ba8.fr f9 (fun e => e); have bb9 := bb8.fr f9 (fun e => e); have bc9 := bc8.fr f9 (fun e => e); have bd9 := bd8.fr f9 (fun e => e); have xd9 := OpL.frame xd8 f9; have yd9 := OpL.frame yd8 f9; have zd9 := OpL.frame zd8 f9; have dd9 := OpL.frame dd8 f9; have hkw9 := hkw8.fr f9; have fr9 := fr8.trans f9 (fun _ _ e => e))
    refine hK.out _ _ ⟨ba9, bb9, bc9, bd9⟩ (fun _ => ?_)
    clear hK K
    try simp only [put_lit, List.set]
    refine wpAnyH_only 8 (by kernel_rfl) rfl (by kernel_rfl) (fun K hK => ?_)
    go_simp
    go_wp2_with (go_at_call 21; (with_reducible refine (kic.out _ zd9).mono ?_); rintro _ v10 ⟨rfl, f10⟩; have ba10 := ba9.fr f10 (fun e => e); have bb10 := bb9.fr f10 (fun e => e); have bc10 := bc9.fr f10 (fun e => e); have bd10 := bd9.fr f10 (fun e => e); have xd10 := OpL.frame xd9 f10; have yd10 := OpL.frame yd9 f10; have zd10 := OpL.frame zd9 f10; have dd10 := OpL.frame dd9 f10; have hkw10 := hkw9.fr f10; have fr10 := fr9.trans f10 (fun _ _ e => e))
    refine hK.out _ _ ⟨ba10, bb10, bc10, bd10⟩ (fun _ => ?_)
    clear hK K
    try simp only [put_lit, List.set]
    refine wpAnyH_take (i := 9) (v := ?_) rfl (by kernel_rfl) (by kernel_rfl) (by kernel_rfl) (fun _ _ _ h => h) (Or.inl ⟨by kernel_rfl, ?_⟩) ⟨ba10, bb10, bc10, bd10⟩ ?_
    rotate_left
    focus (intro w' hSw; have b1 := hSw.1; have b2 := hSw.2.1; have b3 := hSw.2.2.1; have b4 := hSw.2.2.2; go_simp; (try with_reducible rfl))
    try simp only [put_lit, List.set]
    refine wpAnyH_take (i := 10) (v := ?_) rfl (by kernel_rfl) (by kernel_rfl) (by kernel_rfl) (fun _ _ _ h => h) (Or.inl ⟨by kernel_rfl, ?_⟩) ⟨ba10, bb10, bc10, bd10⟩ ?_
    rotate_left
    focus (intro w' hSw; have b1 := hSw.1; have b2 := hSw.2.1; have b3 := hSw.2.2.1; have b4 := hSw.2.2.2; go_simp; (try with_reducible rfl))
    try simp only [put_lit, List.set]
    refine wpAnyH_take (i := 11) (v := ?_) rfl (by kernel_rfl) (by kernel_rfl) (by kernel_rfl) (fun _ _ _ h => h) (Or.inl ⟨by kernel_rfl, ?_⟩) ⟨ba10, bb10, bc10, bd10⟩ ?_
    rotate_left
    focus (intro w' hSw; have b1 := hSw.1; have b2 := hSw.2.1; have b3 := hSw.2.2.1; have b4 := hSw.2.2.2; go_simp; (try with_reducible rfl))
    try simp only [put_lit, List.set]
    refine wpAnyH_take (i := 12) (v := ?_) rfl (by kernel_rfl) (by kernel_rfl) (by kernel_rfl) (fun _ _ _ h => h) (Or.inl ⟨by kernel_rfl, ?_⟩) ⟨ba10, bb10, bc10, bd10⟩ ?_
    rotate_left
    focus (intro w' hSw; have b1 := hSw.1; have b2 := hSw.2.1; have b3 := hSw.2.2.1; have b4 := hSw.2.2.2; go_simp; (try with_reducible rfl))
    try simp only [put_lit, List.set]
    refine wpAnyH_take (i := 14) (v := ?_) rfl (by kernel_rfl) (by kernel_rfl) (by kernel_rfl) (fun _ _ _ h => h) (Or.inl ⟨by kernel_rfl, ?_⟩) ⟨ba10, bb10, bc10, bd10⟩ ?_
    rotate_left
    focus (intro w' hSw; have b1 := hSw.1; have b2 := hSw.2.1; have b3 := hSw.2.2.1; have b4 := hSw.2.2.2; go_simp; (try with_reducible rfl))
    try simp only [put_lit, List.set]
    refine wpAnyH_only 13 (by kernel_rfl) rfl (by kernel_rfl) (fun K hK => ?_)
    go_simp
    go_wp2_with (go_at_call 21; (with_reducible refine (kia.out _ xd10).mono ?_); rintro _ v11 ⟨rfl, f11⟩; have ba11 := ba10.fr f11 (fun e => e); have bb11 := bb10.fr f11 (fun e => e); have bc11 := bc10.fr f11 (fun e => e); have bd11 := bd10.fr f11 (fun e => e); have xd11 := OpL.frame xd10 f11; have yd11 := OpL.frame yd10 f11; have zd11 := OpL.frame zd10 f11; have dd11 := OpL.frame dd10 f11; have hkw11 := hkw10.fr f11; have fr11 := fr10.trans f11 (fun _ _ e => e))
    refine hK.out _ _ ⟨ba11, bb11, bc11, bd11⟩ (fun _ => ?_)
    clear hK K
    try simp only [put_lit, List.set]
    refine wpAnyH_only 15 (by kernel_rfl) rfl (by kernel_rfl) (fun K hK => ?_)
    go_simp
    go_wp2_with (go_at_call 21; (with_reducible refine (kid.out _ dd11).mono ?_); rintro _ v12 ⟨rfl, f12⟩; have ba12 := ba11.fr f12 (fun e => e); have bb12 := bb11.fr f12 (fun e => e); have bc12 := bc11.fr f12 (fun e => e); have bd12 := bd11.fr f12 (fun e => e); have xd12 := OpL.frame xd11 f12; have yd12 := OpL.frame yd11 f12; have zd12 := OpL.frame zd11 f12; have dd12 := OpL.frame dd11 f12; have hkw12 := hkw11.fr f12; have fr12 := fr11.trans f12 (fun _ _ e => e))
    refine hK.out _ _ ⟨ba12, bb12, bc12, bd12⟩ (fun _ => ?_)
    clear hK K
    try simp only [put_lit, List.set]
    refine wpAnyH_take (i := 16) (v := ?_) rfl (by kernel_rfl) (by kernel_rfl) (by kernel_rfl) (fun _ _ _ h => h) (Or.inl ⟨by kernel_rfl, ?_⟩) ⟨ba12, bb12, bc12, bd12⟩ ?_
    rotate_left
    focus (intro w' hSw; have b1 := hSw.1; have b2 := hSw.2.1; have b3 := hSw.2.2.1; have b4 := hSw.2.2.2; go_simp; (try with_reducible rfl))
    try simp only [put_lit, List.set]
    refine wpAnyH_take (i := 17) (v := ?_) rfl (by kernel_rfl) (by kernel_rfl) (by kernel_rfl) (fun _ _ _ h => h) (Or.inl ⟨by kernel_rfl, ?_⟩) ⟨ba12, bb12, bc12, bd12⟩ ?_
    rotate_left
    focus (intro w' hSw; have b1 := hSw.1; have b2 := hSw.2.1; have b3 := hSw.2.2.1; have b4 := hSw.2.2.2; go_simp; (try with_reducible rfl))
    try simp only [put_lit, List.set]
    refine wpAnyH_take (i := 18) (v := ?_) rfl (by kernel_rfl) (by kernel_rfl) (by kernel_rfl) (fun _ _ _ h => h) (Or.inl ⟨by kernel_rfl, ?_⟩) ⟨ba12, bb12, bc12, bd12⟩ ?_
    rotate_left
    focus (intro w' hSw; have b1 := hSw.1; have b2 := hSw.2.1; have b3 := hSw.2.2.1; have b4 := hSw.2.2.2; go_simp; (try with_reducible rfl))
    try simp only [put_lit, List.set]
    refine wpAnyH_take (i := 19) (v := ?_) rfl (by kernel_rfl) (by kernel_rfl) (by kernel_rfl) (fun _ _ _ h => h) (Or.inl ⟨by kernel_rfl, ?_⟩) ⟨ba12, bb12, bc12, bd12⟩ ?_
    rotate_left
    focus (intro w' hSw; have b1 := hSw.1; have b2 := hSw.2.1; have b3 := hSw.2.2.1; have b4 := hSw.2.2.2; go_simp; (try with_reducible rfl))
    try simp only [put_lit, List.set]
    refine wpAnyH_take (i := 20) (v := ?_) rfl (by kernel_rfl) (by kernel_rfl) (by kernel_rfl) (fun _ _ _ h => h) (Or.inl ⟨by kernel_rfl, ?_⟩) ⟨ba12, bb12, bc12, bd12⟩ ?_
    rotate_left
    focus (intro w' hSw; have b1 := hSw.1; have b2 := hSw.2.1; have b3 := hSw.2.2.1; have b4 := hSw.2.2.2; go_simp; (try with_reducible rfl))
    try simp only [put_lit, List.set]
    refine wpAnyH_take (i := 22) (v := ?_) rfl (by kernel_rfl) (by kernel_rfl) (by kernel_rfl) (fun _ _ _ h => h) (Or.inl ⟨by kernel_rfl, ?_⟩) ⟨ba12, bb12, bc12, bd12⟩ ?_
    rotate_left
    focus (intro w' hSw; have b1 := hSw.1; have b2 := hSw.2.1; have b3 := hSw.2.2.1; have b4 := hSw.2.2.2; go_simp; (try with_reducible rfl))
    try simp only [put_lit, List.set]
    refine wpAnyH_take (i := 23) (v := ?_) rfl (by kernel_rfl) (by kernel_rfl) (by kernel_rfl) (fun _ _ _ h => h) (Or.inl ⟨by kernel_rfl, ?_⟩) ⟨ba12, bb12, bc12, bd12⟩ ?_
    rotate_left
    focus (intro w' hSw; have b1 := hSw.1; have b2 := hSw.2.1; have b3 := hSw.2.2.1; have b4 := hSw.2.2.2; go_simp; (try with_reducible rfl))
    try simp only [put_lit, List.set]
    refine wpAnyH_only 21 (by kernel_rfl) rfl (by kernel_rfl) (fun K hK => ?_)
    go_simp
    go_wp2_with (go_at_call 23; (with_reducible refine (kba.out _ xd12 yd12).mono ?_); rintro _ v13 ⟨rfl, f13⟩; have ba13 := ba12.fr f13 (fun e => e); have bb13 := bb12.fr f13 (fun e => e); have bc13 := bc12.fr f13 (fun e => e); have bd13 := bd12.fr f13 (fun e => e); have xd13 := OpL.frame xd12 f13; have yd13 := OpL.frame yd12 f13; have zd13 := OpL.frame zd12 f13; have dd13 := OpL.frame dd12 f13; have hkw13 := hkw12.fr f13; have fr13 := fr12.trans f13 (fun _ _ e => e))
    refine hK.out _ _ ⟨ba13, bb13, bc13, bd13⟩ (fun _ => ?_)
    clear hK K
    try simp only [put_lit, List.set]
    refine wpAnyH_only 24 (by kernel_rfl) rfl (by kernel_rfl) (fun K hK => ?_)
    go_simp
    go_wp2_with (go_at_call 23; (with_reducible refine (kab1.out _ xd13 yd13).mono ?_); rintro _ v14 ⟨rfl, f14⟩; have ba14 := ba13.fr f14 (fun e => e); have bb14 := bb13.fr f14 (fun e => e); have bc14 := bc13.fr f14 (fun e => e); have bd14 := bd13.fr f14 (fun e => e); have xd14 := OpL.frame xd13 f14; have yd14 := OpL.frame yd13 f14; have zd14 := OpL.frame zd13 f14; have dd14 := OpL.frame dd13 f14; have hkw14 := hkw13.fr f14; have fr14 := fr13.trans f14 (fun _ _ e => e))
    refine hK.out _ _ ⟨ba14, bb14, bc14, bd14⟩ (fun _ => ?_)
    clear hK K
    try simp only [put_lit, List.set]
    refine wpAnyH_take (i := 25) (v := ?_) rfl (by kernel_rfl) (by kernel_rfl) (by kernel_rfl) (fun _ _ _ h => h) (Or.inl ⟨by kernel_rfl, ?_⟩) ⟨ba14, bb14, bc14, bd14⟩ ?_
    rotate_left
    focus (intro w' hSw; have b1 := hSw.1; have b2 := hSw.2.1; have b3 := hSw.2.2.1; have b4 := hSw.2.2.2; go_simp; (try with_reducible rfl))
    try simp only [put_lit, List.set]
    refine wpAnyH_take (i := 26) (v := ?_) rfl (by kernel_rfl) (by kernel_rfl) (by kernel_rfl) (fun _ _ _ h => h) (Or.inl ⟨by kernel_rfl, ?_⟩) ⟨ba14, bb14, bc14, bd14⟩ ?_
    rotate_left
    focus (intro w' hSw; have b1 := hSw.1; have b2 := hSw.2.1; have b3 := hSw.2.2.1; have b4 := hSw.2.2.2; go_simp; (try with_reducible rfl))
    try simp only [put_lit, List.set]
    refine wpAnyH_take (i := 27) (v := ?_) rfl (by kernel_rfl) (by kernel_rfl) (by kernel_rfl) (fun _ _ _ h => h) (Or.inl ⟨by kernel_rfl, ?_⟩) ⟨ba14, bb14, bc14, bd14⟩ ?_
    rotate_left
    focus (intro w' hSw; have b1 := hSw.1; have b2 := hSw.2.1; have b3 := hSw.2.2.1; have b4 := hSw.2.2.2; go_simp; (try with_reducible rfl))
    try simp only [put_lit, List.set]
    refine wpAnyH_only 28 (by kernel_rfl) rfl (by kernel_rfl) (fun K hK => ?_)
    go_simp
    go_wp2_with (go_at_call 16; (with_reducible refine (klv.out _ hkw14).mono ?_); rintro _ v15 ⟨rfl, f15⟩; have ba15 := ba14.fr f15 (fun e => e); have bb15 := bb14.fr f15 (fun e => e); have bc15 := bc14.fr f15 (fun e => e); have bd15 := bd14.fr f15 (fun e => e); have xd15 := OpL.frame xd14 f15; have yd15 := OpL.frame yd14 f15; have zd15 := OpL.frame zd14 f15; have dd15 := OpL.frame dd14 f15; have hkw15 := hkw14.fr f15; have fr15 := fr14.trans f15 (fun _ _ e => e))
    refine hK.out _ _ ⟨ba15, bb15, bc15, bd15⟩ (fun _ => ?_)
    clear hK K
    try simp only [put_lit, List.set]
    refine wpAnyH_take (i := 29) (v := ?_) rfl (by kernel_rfl) (by kernel_rfl) (by kernel_rfl) (fun _ _ _ h => h) (Or.inl ⟨by kernel_rfl, ?_⟩) ⟨ba15, bb15, bc15, bd15⟩ ?_
    rotate_left
    focus (intro w' hSw; have b1 := hSw.1; have b2 := hSw.2.1; have b3 := hSw.2.2.1; have b4 := hSw.2.2.2; go_simp; (try with_reducible rfl))
    try simp only [put_lit, List.set]
    refine wpAnyH_take (i := 30) (v := ?_) rfl (by kernel_rfl) (by kernel_rfl) (by kernel_rfl) (fun _ _ _ h => h) (Or.inl ⟨by kernel_rfl, ?_⟩) ⟨ba15, bb15, bc15, bd15⟩ ?_
    rotate_left
    focus (intro w' hSw; have b1 := hSw.1; have b2 := hSw.2.1; have b3 := hSw.2.2.1; have b4 := hSw.2.2.2; go_simp; (try with_reducible rfl))
    try simp only [put_lit, List.set]
    refine wpAnyH_done (by kernel_rfl) ?_ _
    go_wp2
    go_ret
    exact ⟨rfl, fr15⟩
end Oq
end Go.Proofs.YthmlaigpdpdpjaaDoor
