/-
  OpRound: what is put is got, and there is no other row of bytes for it.
  Conditions: the package variable op.kinds as its text lays it.
-/
import Derived.Test.YthmlaigpdpdpjaaDoorOpLives
import Derived.Test.YthmlaigpdpdpjaaDoorOpShort
import Derived.Test.YthmlaigpdpdpjaaDoorOpFew
import Derived.Test.YthmlaigpdpdpjaaDoorBent
import Derived.Deep.CutBlock
import Derived.Deep.CutRange
import Derived.Deep.DeepCutAuto
namespace Go.Proofs.YthmlaigpdpdpjaaDoor
open Go.RowKit
attribute [local go_sem ↓] Go.wp_at_zero Go.wp_at_succ
namespace Oq
attribute [local go_sem] Bool.not_false Bool.not_true
attribute [local go_sem ↓] loadAt_op

/-- A byte is put into an own row. -/
theorem _root_.Go.Proofs.YthmlaigpdpdpjaaDoor.Own.put {w : World} {base n c : Nat} {A : Option Addr} {bs : List UInt8} (h : Own w base 5 1 A n c (bs.map Bv)) {k : Nat} (hk : k < n) (x : UInt8) :
    ∃ (g : Nat) (cur : Array Value) (y : UInt8), A = some ⟨g, 0, none⟩ ∧ Blk w g 5 cur ∧ cur[k]? = some (Bv y) ∧ base ≤ g ∧ Own (w.setCell ⟨g, k, none⟩ (Bv x)) base 5 1 A n c ((bs.set k x).map Bv) := by
  rcases h.2 with ⟨_, h0⟩ | ⟨g, cap, cur, hv, hb, hg, h1, h2, h3, h4⟩
  · omega
  · injection hv with hA hn hc
    have hlen := h.1
    simp at hlen
    obtain ⟨y, hy⟩ : ∃ y, bs[k]? = some y := ⟨_, List.getElem?_eq_getElem (by omega)⟩
    refine ⟨g, cur, y, hA, hg, ?_, hb, ?_⟩
    · have e : (cur.toList.take (n * 1))[k]? = (bs.map Bv)[k]? := by rw [h4]
      rw [List.getElem?_take_of_lt (by omega), List.getElem?_map, hy] at e
      simpa using e
    · have hset := Blk.set (show Blk w g 5 cur from hg) k (Bv x)
      refine ⟨by simp [hlen], .inr ⟨g, cap, cur.setIfInBounds k (Bv x), ?_, hb, hset, h1, h2, by simpa using h3, ?_⟩⟩
      · subst hA hc; rfl
      · rw [Array.toList_setIfInBounds, List.take_set, h4, List.map_set]

theorem _root_.Go.Proofs.YthmlaigpdpdpjaaDoor.Own.drew1 {w : World} {base size n c : Nat} {e : TypeId} {A : Option Addr} {xs : List Value} (h : Own w base e size A n c xs) : Own w.drew base e size A n c xs := h
theorem str_rd {B n c : Nat} {A : Option Addr} {bs : List UInt8} {w : World} (h : Rd w B 1 A n (bs.map Bv)) : (convert 23 9 (.slice A n c)).run Tryd.prog w = .ok (.string (str bs)) w :=
  run_str 23 5 9 Tryd.underlying23 Tryd.underlying5 Tryd.underlying9 w _ _ _ c _ h
theorem zero_ok : Op.zero.ok := by
  have z : I64 0 := ⟨by decide, by decide⟩
  have u : U64 0 := by show (0 : Nat) < 18446744073709551616; decide
  have d : (⟨0, 0, 0⟩ : Id).ok := ⟨z, z, u⟩
  exact ⟨z, z, z, z, ⟨by decide, fun x hx => by cases hx⟩, z, z, z, z, ⟨by decide, fun x hx => by cases hx⟩, d, z, by decide, ⟨by decide, fun x hx => by cases hx⟩, d, ⟨by decide, fun x hx => by cases hx⟩, z, z, ⟨by decide, fun x hx => by cases hx⟩, u, ⟨by decide, fun x hx => by cases hx⟩, u, u⟩
theorem wpAnyH_of_quiet {P : Program} {md : Region.Mode} {ops : Array Oper} {C S : World → Prop} {Q : Act → Prop} {Q' : Exit → Act → World → Prop} (hS : ∀ w, C w → S w) (hQ : ∀ a w, C w → Q a → Q' .normal a w) : ∀ (fuel : Nat) (listed : Array Bool) (a : Act) (w : World), C w →
    wpAnyQ P md ops C Q fuel listed a → wpAnyH P md ops Q' S fuel listed a w
  | 0, _, _, _, hw, h => ⟨h.1, hQ _ _ hw h.2⟩
  | fuel + 1, _, _, _, hw, h => ⟨fun h0 => hQ _ _ hw (h.1 h0), fun i hi => wpOp_of_qOp hw (fun a' w' hw' hk => ⟨hS w' hw', wpAnyH_of_quiet hS hQ fuel _ a' w' hw' hk⟩) (h.2 i hi)⟩
/-- From here on all operations are quiet: number k and up, in the order of the text. -/
theorem wpAnyH_tail {P : Program} {Q : Exit → Act → World → Prop} {S : World → Prop} {l : List Oper} {fuel : Nat} {listed : Array Bool} {a : Act} {w : World} (k : Nat) (ll : List Oper)
    (hs : Region.noSelect l.toArray = true) (hll : l.drop k = ll) (hlen : ll.length = fuel) (hB : Region.lexFrom .any l.toArray fuel k listed = true)
    (hS : ∀ n, S (w.drewN n))
    (h : wpQuiet P l.toArray (fun w' => ∃ n, w' = w.drewN n) (fun a' => ∀ w', (∃ n, w' = w.drewN n) → Q .normal a' w') ll a) :
    wpAnyH P .any l.toArray Q S fuel listed a w := by
  subst hll hlen
  refine wpAnyH_of_quiet (C := fun w' => ∃ n, w' = w.drewN n) (Q := fun a' => ∀ w', (∃ n, w' = w.drewN n) → Q .normal a' w') (fun w' h => by obtain ⟨n, rfl⟩ := h; exact hS n) (fun _ w' hw' h => h w' hw') _ _ _ _ ⟨0, rfl⟩ ?_
  exact wpAnyQ_lex hs (l.drop k) k listed a (fun j => by simp [List.getElem?_drop]) hB h
theorem OpL.at.resig {x : OpL} {w : World} {B : Nat} (o : x.at w B) (r s : Nat) : ({ x with r := r, s := s } : OpL).at w B := ⟨o.past, o.path, o.nodes, o.body, o.refs, o.guards, o.boxes, o.hist, o.seals⟩
set_option maxRecDepth 100000 in
set_option maxHeartbeats 8000000 in
theorem opRound_law (Al : Option Addr) (cl : Nat) (l : List Int) (how n at_ : Int) (ch : UInt8) (Ar : Option Addr) (cr : Nat) (raw : List UInt8) (w : World) (hk : KindsAt w) (hrl : Rd w w.heap.size 1 Al l.length (l.map Iv)) (hlc : l.length ≤ cl) (hlc' : cl ≤ 9223372036854775807) (hok : ∀ x ∈ l, I64 x)
    (h0 : -9223372036854775808 ≤ how) (h1 : how ≤ 9223372036854775807) (n0 : -9223372036854775808 ≤ n) (n1 : n ≤ 9223372036854775807) (a0 : -9223372036854775808 ≤ at_) (a1 : at_ ≤ 9223372036854775807) (hrr : Rd w w.heap.size 1 Ar raw.length (raw.map Bv)) (hrc : raw.length ≤ cr) (hrc' : cr ≤ 9223372036854775807) :
    Calls Tryd.prog 3 #[.slice Al l.length cl, .int .i64 how, .int .i64 n, .int .i64 at_, .int .u8 (ch.toNat : Int), .slice Ar raw.length cr] w (BoolPost true w) := by
  have hi : (Tryd.prog.info? 35).map (·.size) = some 27 := by kernel_rfl
  have hok' := Lib.hid hok
  clear hok
  obtain ⟨u, eu, hu⟩ : ∃ u : Nat, IntKind.u64.wrap n = (u : Int) ∧ U64 u := ⟨(IntKind.u64.wrap n).toNat, by rw [IntKind.wrap_u64]; omega, by show (IntKind.u64.wrap n).toNat < 18446744073709551616; rw [IntKind.wrap_u64]; omega⟩
  have hu' := Lib.hid hu
  clear hu
  obtain ⟨nl, hnl⟩ := hid_ex l.length
  rw [hnl.out] at hrl hlc ⊢
  obtain ⟨nr, hnr⟩ := hid_ex raw.length
  rw [hnr.out] at hrr hrc ⊢
  go_enter Tryd.func3, Tryd.ntmps3
  go_wp2_with (fail)
  refine (gen_any _ nl cl Al l _ hnl hrl hlc hlc' hok').mono ?_
  rintro _ w1 ⟨x, rfl, _, _, xchk, xr, xs, xown, f1⟩
  have xok := gen_ok xchk xr xs
  have xat := xown.at
  have xfew := few_of_chk xchk
  clear xchk xr xs xown hrl hlc hlc' hok' hnl
  go_wp2_with (fail)
  refine (bent_any 20 x how n _ (OpL.frame xat (Fr.refl _ _)) xok xfew (by omega) h0 h1 n0 n1).mono ?_
  rintro _ w2 ⟨y, rfl, yok, yfew, yat, f2⟩
  clear xok xat xfew
  have hone := one_cells y
  have hz3 := Blk.new w2 35 OpL.zero.cells
  have fr2 := f1.trans f2 (fun _ _ e => e)
  clear f1 f2
  go_upto_region 2 with (first | (refine wpList_store_new rfl 35 (.tmp 13) (.tmp 27) rfl rfl rfl rfl hz3 hi rfl hone ?_; intro w3 hb3 hf3 hs3))
  have fx3 : Fr Non w2 w3 := ((Fr.refl Non w2).alloc (.cells OpL.zero.cells 35)).trans hf3 (fun k hk e => by have e' : k = w2.heap.size := e; omega)
  have fx4 := (fx3.setNew (Nat.le_refl _) 25 (.int .u64 5)).setNew (Nat.le_refl _) 26 (.int .u64 (u : Int))
  have yat4 := (OpL.frame yat fx4).resig 5 u
  have yok4 : ({ y with r := 5, s := u } : OpL).op.ok := ⟨yok.by_, yok.sq, yok.kind, yok.at_, yok.past, yok.dev, yok.old, yok.mem, yok.role, yok.path, yok.epoch, yok.n, yok.body, yok.refs, yok.of, yok.guards, yok.need, yok.wait, yok.boxes, yok.pub, yok.hist, by show (5 : Nat) < 18446744073709551616; decide, hu'.out⟩
  have yfew4 : Few 40 ({ y with r := 5, s := u } : OpL).op := ⟨yfew.past, yfew.path, yfew.refs, yfew.guards, yfew.boxes, yfew.hist, yfew.nodes, yfew.body, yfew.seals⟩
  have fr4 := fr2.trans fx4 (fun _ _ e => e)
  have hb4 : Blk _ w2.heap.size 35 ({ y with r := 5, s := u } : OpL).cells := (hb3.set 25 (.int .u64 5)).set 26 (.int .u64 (u : Int))
  have hlo3 := fr2.size
  clear hz3 hf3 hs3 fr2 fx3 fx4 yat yok hone yfew hu'
  generalize w2.heap.size = g at *
  have c25 : w3.cell? ⟨g, 25, none⟩ = some _ := hb3.cell 25
  have c26 : w3.cell? ⟨g, 26, none⟩ = some _ := hb3.cell 26
  have z25 := hb3.frozen 25
  have z26 := hb3.frozen 26
  go_upto_region 3 with (fail)
  clear c25 c26 z25 z26 hb3
  generalize (w3.setCell ⟨g, 25, none⟩ (.int .u64 5)).setCell ⟨g, 26, none⟩ (.int .u64 (u : Int)) = w4 at *
  generalize ({ y with r := 5, s := u } : OpL) = v at yat4 yok4 hb4 yfew4
  have hsv : v.cells.size = 27 := rfl
  go_wp2_with (first | (refine wpList_load_row rfl 35 (.tmp 13) rfl rfl hb4 Tryd.underlying35 rfl hi ?_))
  refine (put_any v _ yat4 yok4).mono ?_
  rintro _ w5 ⟨A5, c5, rfl, own5, f5⟩
  have hget := Lib.hid (get_put yok4.okR)
  have hpl := few_len yfew4 (by omega)
  have hpos := put_pos v.op
  have hvat5 := OpL.frame yat4 f5
  have hb5 := hb4.fr f5 (fun e => e)
  have fr5 := fr4.trans f5 (fun _ _ e => e)
  obtain ⟨P, hP⟩ := hid_ex v.op.put
  rw [hP.out] at own5 hget hpl hpos ⊢
  obtain ⟨np, hnp⟩ := hid_ex P.length
  rw [hnp.out] at own5 hpl hpos ⊢
  have hcap5 := own5.cap
  clear yat4 hb4 f5 fr4 yfew4
  go_wp2_with (fail)
  refine (opGet_any _ np c5 A5 P _ hnp own5.rd (by omega)).mono ?_
  rintro _ w6 ⟨x6, hx6, rfl, x6own, f6⟩
  rw [hget.out] at hx6 ⊢
  have hx6' : x6.op = v.op := hx6
  have x6at := x6own.at
  have hone6 := one_cells x6
  have hz6 := Blk.new w6 35 OpL.zero.cells
  have fr6 := fr5.trans f6 (fun _ _ e => e)
  have own6 := own5.fr f6 (fun _ _ e => e)
  have hb6 := hb5.fr f6 (fun e => e)
  have vat6 := OpL.frame hvat5 f6
  have h56 := f6.size
  have hg6 := hb5.lt
  clear own5 fr5 hb5 hvat5 f6 x6own hx6
  go_upto_region 5 with (first | (refine wpList_store_new rfl 35 (.tmp 15) (.tmp 37) rfl rfl rfl rfl hz6 hi rfl hone6 ?_; intro w7 hb7 hf7 hs7))
  have fx7 : Fr Non w6 w7 := ((Fr.refl Non w6).alloc (.cells OpL.zero.cells 35)).trans hf7 (fun k hk e => by have e' : k = w6.heap.size := e; omega)
  have fr7 := fr6.trans fx7 (fun _ _ e => e)
  have own7 := own6.fr fx7 (fun _ _ e => e)
  have hb7v := hb6.fr fx7 (fun e => e)
  have vat7 := OpL.frame vat6 fx7
  have x7at := OpL.frame x6at fx7
  have x6ok : x6.op.ok := by rw [hx6']; exact yok4
  clear own6 fr6 hb6 vat6 x6at hz6 hf7 hs7
  generalize w6.heap.size = g7 at *
  have hl7 := ldS_blk (P := Tryd.prog) g7 35 Tryd.underlying35 rfl (cs := x6.cells) hi
  have hlv := ldS_blk (P := Tryd.prog) g 35 Tryd.underlying35 rfl (cs := v.cells) hi
  go_wp2_with (fail)
  refine (sameop_any x6 v _ x7at x6ok vat7 yok4).mono ?_
  rintro _ w8 ⟨rfl, f8⟩
  rw [hx6', beq_self_eq_true]
  have own8 := own7.fr f8 (fun _ _ e => e)
  have fr8 := fr7.trans f8 (fun _ _ e => e)
  have e0 : ((np : Int) == 0) = false := beq_f (by omega)
  clear own7 fr7 f8 hb7v hb7 vat7 x7at x6ok hl7 hlv hx6' hone6 yok4 hsv hP
  go_wp2_with (fail)
  refine (around_any at_ (np : Int) _ a0 a1 (by omega) (by omega)).mono ?_
  have hab := around_bd (n := at_) (m := (np : Int)) (by omega)
  obtain ⟨kn, hkn⟩ : ∃ kn : Nat, around at_ (np : Int) = (kn : Int) := ⟨(around at_ (np : Int)).toNat, by omega⟩
  rw [hkn] at hab ⊢
  clear hkn e0
  rintro _ _ ⟨rfl, rfl⟩
  have hz8 := Own.lit w8 5 (size := 1) (n := 0) [] rfl (by omega)
  go_upto_region 9 with (first
    | (at_builtin; go_loud (refine wpList_app (base := w8.heap.size) (.tmp 56) (.tmp 57) 23 rfl rfl rfl rfl slB hz8 (own8.alloc (.cells #[] 5)).rd (Bv_one _) (by omega) (by omega) (by rw [World.size_alloc]; omega) ?_); intro A9 c9 w9 own9 fr9 hat9; rw [Nat.zero_add, List.nil_append] at own9))
  have own9p := (own8.alloc (.cells #[] 5)).fr fr9 (fun k hk e => by have h1 := (own8.row k hk).2; have e' : w8.heap.size = k := Option.some.inj e; omega)
  have frn9 := (fr8.alloc (.cells #[] 5)).trans fr9 (fun k hk e => by have e' : w8.heap.size = k := Option.some.inj e; have := fr8.size; omega)
  obtain ⟨go, cur, yb, rfl, hgo, hgoc, hgob, own10⟩ := own9.put (k := kn) (by omega) ch
  have h8 := fr8.size
  have hcap9 := own9.cap
  have hrp8 : ∀ j, rowOf A5 = some j → j < w8.heap.size := fun j hj => (own8.row j hj).2
  have hgz := hgo.frozen kn
  have hgc : w9.cell? ⟨go, kn, none⟩ = some (.int .u8 (yb.toNat : Int)) := (hgo.cell kn).trans hgoc
  have own10' : Own (w9.setCell ⟨go, kn, none⟩ (.int .u8 (ch.toNat : Int))) w8.heap.size 5 1 (some ⟨go, 0, none⟩) np c9 ((P.set kn ch).map Bv) := own10
  have hfS := (Fr.refl (One go) w9).setOne kn (.int .u8 (ch.toNat : Int))
  have own10p := own9p.fr hfS (fun j hj => by have := hrp8 j hj; unfold One; omega)
  have frn10 := frn9.trans hfS (fun j hj e => by unfold One at e; omega)
  go_upto_region 10 with (fail)
  clear hfS own10 own9 own9p frn9 fr9 hat9 hgo hgoc hgz hgc own8 hz8
  have hlQ : Hid ((P.set kn ch).length = np) := by show _ = _; rw [List.length_set, hnp.out]
  generalize P.set kn ch = Q at *
  generalize w9.setCell ⟨go, kn, none⟩ (.int .u8 (ch.toNat : Int)) = w10 at *
  have hrr10 := hrr.fr frn10 (fun _ _ e => e)
  rw [← hnr.out] at hrr10 hrc ⊢
  have hlo10 := frn10.size
  have hkc : kn ≤ c5 := by omega
  have hs10 : w8.heap.size < w10.heap.size := Nat.lt_of_le_of_lt hgob (own10'.row go rfl).2
  go_cut [19] (fun s wc => ∃ (kt c11 c13 : Nat) (A11 A13 : Option Addr), s = .slice (some ⟨kt, 0, none⟩) 4 4 ∧ Blk wc kt 23 #[.slice (some ⟨go, 0, none⟩) np c9, .slice A5 kn c5, .slice A11 (min 40 raw.length) c11, .slice A13 (np + 1) c13] ∧ Rd wc wc.heap.size 1 (some ⟨go, 0, none⟩) np (Q.map Bv) ∧ Rd wc wc.heap.size 1 A5 kn ((P.map Bv).take kn) ∧ Rd wc wc.heap.size 1 A11 (min 40 raw.length) ((raw.take 40).map Bv) ∧ Rd wc wc.heap.size 1 A13 (np + 1) (P.map Bv ++ [Bv ch]) ∧ ((min 40 raw.length) ≤ c11 ∧ c11 ≤ 9223372036854775807) ∧ Fr Non w wc)
  case first =>
    have qd := own10'.drew1
    have pd := own10p.drew1
    have rrd : Rd w10.drew w.heap.size 1 Ar raw.length (raw.map Bv) := hrr10
    have frd := frn10.drew
    have hrq : ∀ j, rowOf (some (⟨go, 0, none⟩ : Addr)) = some j → j < w10.drew.heap.size := fun j hj => (own10'.row j hj).2
    have hrp : ∀ j, rowOf A5 = some j → j < w10.drew.heap.size := fun j hj => (own10p.row j hj).2
    have hlod : w.heap.size ≤ w10.drew.heap.size := hlo10
    refine wp_region_held_drew (S := fun _ => True) (by kernel_rfl) trivial (fun _ => ?_)
    generalize w10.drew = wd at qd pd rrd frd hrq hrp hlod ⊢
    clear own10' own10p hrr10 frn10
    refine wpAnyH_take (i := 0) (v := ?_) rfl (by kernel_rfl) (by kernel_rfl) (by kernel_rfl) (fun _ _ _ h => h) (Or.inl ⟨by kernel_rfl, ?_⟩) (by exact True.intro) ?_
    rotate_left
    focus (intro w' _; go_simp; (try with_reducible rfl))
    try simp only [put_lit, List.set]
    refine wpAnyH_take (i := 1) (v := ?_) rfl (by kernel_rfl) (by kernel_rfl) (by kernel_rfl) (fun _ _ _ h => h) (Or.inl ⟨by kernel_rfl, ?_⟩) (by exact True.intro) ?_
    rotate_left
    focus (intro w' _; go_simp; (try with_reducible rfl))
    try simp only [put_lit, List.set]
    refine wpAnyH_take (i := 2) (v := ?_) rfl (by kernel_rfl) (by kernel_rfl) (by kernel_rfl) (fun _ _ _ h => h) (Or.inl ⟨by kernel_rfl, ?_⟩) (by exact True.intro) ?_
    rotate_left
    focus (intro w' _; go_simp; (try with_reducible rfl))
    try simp only [put_lit, List.set]
    refine wpAnyH_take (i := 3) (v := ?_) rfl (by kernel_rfl) (by kernel_rfl) (by kernel_rfl) (fun _ _ _ h => h) (Or.inl ⟨by kernel_rfl, ?_⟩) (by exact True.intro) ?_
    rotate_left
    focus (intro w' _; go_simp; (try with_reducible rfl))
    try simp only [put_lit, List.set]
    refine wpAnyH_take (i := 4) (v := ?_) rfl (by kernel_rfl) (by kernel_rfl) (by kernel_rfl) (fun _ _ _ h => h) (Or.inl ⟨by kernel_rfl, ?_⟩) (by exact True.intro) ?_
    rotate_left
    focus (intro w' _; go_simp; (try with_reducible rfl))
    try simp only [put_lit, List.set]
    refine wpAnyH_take (i := 7) (v := ?_) rfl (by kernel_rfl) (by kernel_rfl) (by kernel_rfl) (fun _ _ _ h => h) (Or.inl ⟨by kernel_rfl, ?_⟩) (by exact True.intro) ?_
    rotate_left
    focus (intro w' _; go_simp; (try with_reducible rfl))
    try simp only [put_lit, List.set]
    refine wpAnyH_take (i := 9) (v := ?_) rfl (by kernel_rfl) (by kernel_rfl) (by kernel_rfl) (fun _ _ _ h => h) (Or.inl ⟨by kernel_rfl, ?_⟩) (by exact True.intro) ?_
    rotate_left
    focus (intro w' _; go_simp; (try with_reducible rfl))
    try simp only [put_lit, List.set]
    refine wpAnyH_ready (rs := [5, 6, 10]) (by kernel_rfl) (by simp) (AllReadyH.cons rfl (fun K hK => ?_) (AllReadyH.cons rfl (fun K hK => ?_) (AllReadyH.cons rfl (fun K hK => ?_) AllReadyH.nil)))
    · skip
      refine want_pos (by kernel_rfl) ?_
      go_simp
      go_wp2_with (go_at_call 14; (refine (few_any Ar cr raw 40 _ (rrd.mono (by (try simp only [World.size_alloc]); omega)) hrc hrc' (by omega)).mono ?_); rintro _ v1 ⟨A2, c3, rfl, own4, fr5⟩)
      have ns6 : wd.heap.size ≤ v1.heap.size := (by have h := fr5.size; (try simp only [World.size_alloc] at h); exact h)
      have nq7 := qd.fr fr5 (fun _ _ e => e)
      have np8 := pd.fr fr5 (fun _ _ e => e)
      have nf9 := frd.trans fr5 (fun _ _ e => e)
      have fc10 := own4.cap
      refine hK.out _ _ trivial (fun _ => ?_)
      clear hK K
      go_simp
      refine wpAnyH_ready (rs := [6, 10]) (by kernel_rfl) (by simp) (AllReadyH.cons rfl (fun K hK => ?_) (AllReadyH.cons rfl (fun K hK => ?_) AllReadyH.nil))
      · skip
        refine want_pos (by kernel_rfl) ?_
        go_simp
        have nq11 := nq7.alloc (.cells #[] 5)
        have np12 := np8.alloc (.cells #[] 5)
        have nfew13 := own4.alloc (.cells #[] 5)
        have nf14 := nf9.alloc (.cells #[] 5)
        have ne15 := (Own.lit v1 5 (size := 1) (n := 0) [] rfl (by omega)).lower (base' := wd.heap.size) (by (try simp only [World.size_alloc]); omega)
        refine hK.out _ _ trivial (fun _ => ?_)
        clear hK K
        try simp only [put_lit, List.set]
        refine wpAnyH_ready (rs := [8, 10]) (by kernel_rfl) (by simp) (AllReadyH.cons rfl (fun K hK => ?_) (AllReadyH.cons rfl (fun K hK => ?_) AllReadyH.nil))
        · skip
          refine step_app (base := wd.heap.size) (.tmp 69) (.tmp 70) 23 (by rfl) (by rfl) (by rfl) (by rfl) slB ne15 np12.rd (Bv_one _) (by omega) (by omega) (by (try simp only [World.size_alloc]); omega) ?_
          intro A16 c17 v18 own19 fr20 hat21
          have nq22 := nq11.fr fr20 (fun j hj e => (by have r1 : v1.heap.size = j := Option.some.inj e; have r2 := hrq j hj; omega))
          have np23 := np12.fr fr20 (fun j hj e => (by have r1 : v1.heap.size = j := Option.some.inj e; have r2 := hrp j hj; omega))
          have nw24 := nfew13.fr fr20 (fun j hj e => (by have r1 : v1.heap.size = j := Option.some.inj e; have r2 := own4.row j hj; omega))
          have nf25 := nf14.trans fr20 (fun j hj e => (by have r3 := (ne15.row j e).1; omega))
          rw [Nat.zero_add, List.nil_append] at own19
          have ns26 : v1.heap.size + 1 ≤ v18.heap.size := (by have h := fr20.size; (try simp only [World.size_alloc] at h); exact h)
          refine hK.out _ _ trivial (fun _ => ?_)
          clear hK K
          go_simp
          refine wpAnyH_ready (rs := [10]) (by kernel_rfl) (by simp) (AllReadyH.cons rfl (fun K hK => ?_) AllReadyH.nil)
          · skip
            refine want_pos (by kernel_rfl) ?_
            go_simp
            have nq27 := nq22.alloc (.cells #[Bv ch] 5)
            have np28 := np23.alloc (.cells #[Bv ch] 5)
            have nfew29 := nw24.alloc (.cells #[Bv ch] 5)
            have nown30 := own19.alloc (.cells #[Bv ch] 5)
            have nf31 := nf25.alloc (.cells #[Bv ch] 5)
            have nl32 := Blk.new v18 5 #[Bv ch]
            refine hK.out _ _ trivial (fun _ => ?_)
            clear hK K
            try simp only [put_lit, List.set]
            refine wpAnyH_ready (rs := [11]) (by kernel_rfl) (by simp) (AllReadyH.cons rfl (fun K hK => ?_) AllReadyH.nil)
            · skip
              refine step_app (base := wd.heap.size) (.tmp 71) (.tmp 73) 23 (by rfl) (by rfl) (by rfl) (by rfl) slB nown30 (Rd.blk (n := 1) (size := 1) nl32 rfl) (by simp [Value.oneCell', Bv]) (by omega) (by omega) (by (try simp only [World.size_alloc]); omega) ?_
              intro A33 c34 v35 own36 fr37 hat38
              have nq39 := nq27.fr fr37 (fun j hj e => (by have r2 := hrq j hj; rcases hat21 with h | h; (have r1 : v1.heap.size = j := Option.some.inj (h.symm.trans e); omega); (have r1 := Option.some.inj (h.symm.trans e); (try simp only [World.size_alloc] at r1); omega)))
              have np40 := np28.fr fr37 (fun j hj e => (by have r2 := hrp j hj; rcases hat21 with h | h; (have r1 : v1.heap.size = j := Option.some.inj (h.symm.trans e); omega); (have r1 := Option.some.inj (h.symm.trans e); (try simp only [World.size_alloc] at r1); omega)))
              have nw41 := nfew29.fr fr37 (fun j hj e => (by have r2 := own4.row j hj; rcases hat21 with h | h; (have r1 : v1.heap.size = j := Option.some.inj (h.symm.trans e); omega); (have r1 := Option.some.inj (h.symm.trans e); (try simp only [World.size_alloc] at r1); omega)))
              have nf42 := nf31.trans fr37 (fun j hj e => (by have r3 := (nown30.row j e).1; omega))
              have ns43 : v18.heap.size + 1 ≤ v35.heap.size := (by have h := fr37.size; (try simp only [World.size_alloc] at h); exact h)
              refine hK.out _ _ trivial (fun _ => ?_)
              clear hK K
              go_simp
              refine wpAnyH_ready (rs := [12]) (by kernel_rfl) (by simp) (AllReadyH.cons rfl (fun K hK => ?_) AllReadyH.nil)
              · skip
                refine want_pos (by kernel_rfl) ?_
                go_simp
                have nt44 := fun cs => Blk.new v35 23 cs
                have nq45 := fun o => nq39.alloc o
                have np46 := fun o => np40.alloc o
                have nfew47 := fun o => nw41.alloc o
                have nown48 := fun o => own36.alloc o
                have nf49 := fun o => nf42.alloc o
                refine hK.out _ _ trivial (fun _ => ?_)
                clear hK K
                try simp only [put_lit, List.set]
                refine wpAnyH_take (i := 13) (v := ?_) rfl (by kernel_rfl) (by kernel_rfl) (by kernel_rfl) (fun _ _ _ h => h) (Or.inl ⟨by kernel_rfl, ?_⟩) (by exact True.intro) ?_
                rotate_left
                focus (intro w' _; go_simp; (try with_reducible rfl))
                try simp only [put_lit, List.set]
                refine wpAnyH_done (by kernel_rfl) ?_ _
                go_wp2_with (fail)
                go_meet
                exact ⟨_, _, _, _, _, rfl, nt44 _, (nq45 _).rd, (np46 _).rd.take (by omega), (by rw [← List.length_take]; exact (nfew47 _).rd), (nown48 _).rd, (by rw [← List.length_take]; exact fc10), (nf49 _)⟩
        · skip
          refine want_pos (by kernel_rfl) ?_
          go_simp
          have nq50 := nq11.alloc (.cells #[Bv ch] 5)
          have np51 := np12.alloc (.cells #[Bv ch] 5)
          have nfew52 := nfew13.alloc (.cells #[Bv ch] 5)
          have nempty53 := ne15.alloc (.cells #[Bv ch] 5)
          have nf54 := nf14.alloc (.cells #[Bv ch] 5)
          have nl55 := Blk.new (v1.alloc (.cells #[] 5)) 5 #[Bv ch]
          simp only [World.size_alloc] at nl55
          refine hK.out _ _ trivial (fun _ => ?_)
          clear hK K
          try simp only [put_lit, List.set]
          refine wpAnyH_ready (rs := [8]) (by kernel_rfl) (by simp) (AllReadyH.cons rfl (fun K hK => ?_) AllReadyH.nil)
          · skip
            refine step_app (base := wd.heap.size) (.tmp 69) (.tmp 70) 23 (by rfl) (by rfl) (by rfl) (by rfl) slB nempty53 np51.rd (Bv_one _) (by omega) (by omega) (by (try simp only [World.size_alloc]); omega) ?_
            intro A56 c57 v58 own59 fr60 hat61
            have nq62 := nq50.fr fr60 (fun j hj e => (by have r1 : v1.heap.size = j := Option.some.inj e; have r2 := hrq j hj; omega))
            have np63 := np51.fr fr60 (fun j hj e => (by have r1 : v1.heap.size = j := Option.some.inj e; have r2 := hrp j hj; omega))
            have nw64 := nfew52.fr fr60 (fun j hj e => (by have r1 : v1.heap.size = j := Option.some.inj e; have r2 := own4.row j hj; omega))
            have nf65 := nf54.trans fr60 (fun j hj e => (by have r3 := (nempty53.row j e).1; omega))
            have nl66 := Blk.fr nl55 fr60 (fun e => (by have r1 : v1.heap.size = v1.heap.size + 1 := Option.some.inj e; omega))
            rw [Nat.zero_add, List.nil_append] at own59
            have ns67 : v1.heap.size + 1 + 1 ≤ v58.heap.size := (by have h := fr60.size; (try simp only [World.size_alloc] at h); exact h)
            refine hK.out _ _ trivial (fun _ => ?_)
            clear hK K
            go_simp
            refine wpAnyH_ready (rs := [11]) (by kernel_rfl) (by simp) (AllReadyH.cons rfl (fun K hK => ?_) AllReadyH.nil)
            · skip
              refine step_app (base := wd.heap.size) (.tmp 71) (.tmp 73) 23 (by rfl) (by rfl) (by rfl) (by rfl) slB own59 (Rd.blk (n := 1) (size := 1) nl66 rfl) (by simp [Value.oneCell', Bv]) (by omega) (by omega) (by (try simp only [World.size_alloc]); omega) ?_
              intro A68 c69 v70 own71 fr72 hat73
              have nq74 := nq62.fr fr72 (fun j hj e => (by have r2 := hrq j hj; rcases hat61 with h | h; (have r1 : v1.heap.size = j := Option.some.inj (h.symm.trans e); omega); (have r1 := Option.some.inj (h.symm.trans e); (try simp only [World.size_alloc] at r1); omega)))
              have np75 := np63.fr fr72 (fun j hj e => (by have r2 := hrp j hj; rcases hat61 with h | h; (have r1 : v1.heap.size = j := Option.some.inj (h.symm.trans e); omega); (have r1 := Option.some.inj (h.symm.trans e); (try simp only [World.size_alloc] at r1); omega)))
              have nw76 := nw64.fr fr72 (fun j hj e => (by have r2 := own4.row j hj; rcases hat61 with h | h; (have r1 : v1.heap.size = j := Option.some.inj (h.symm.trans e); omega); (have r1 := Option.some.inj (h.symm.trans e); (try simp only [World.size_alloc] at r1); omega)))
              have nf77 := nf65.trans fr72 (fun j hj e => (by have r3 := (own59.row j e).1; omega))
              have ns78 : v58.heap.size ≤ v70.heap.size := (by have h := fr72.size; (try simp only [World.size_alloc] at h); exact h)
              refine hK.out _ _ trivial (fun _ => ?_)
              clear hK K
              go_simp
              refine wpAnyH_ready (rs := [12]) (by kernel_rfl) (by simp) (AllReadyH.cons rfl (fun K hK => ?_) AllReadyH.nil)
              · skip
                refine want_pos (by kernel_rfl) ?_
                go_simp
                have nt79 := fun cs => Blk.new v70 23 cs
                have nq80 := fun o => nq74.alloc o
                have np81 := fun o => np75.alloc o
                have nfew82 := fun o => nw76.alloc o
                have nown83 := fun o => own71.alloc o
                have nf84 := fun o => nf77.alloc o
                refine hK.out _ _ trivial (fun _ => ?_)
                clear hK K
                try simp only [put_lit, List.set]
                refine wpAnyH_take (i := 13) (v := ?_) rfl (by kernel_rfl) (by kernel_rfl) (by kernel_rfl) (fun _ _ _ h => h) (Or.inl ⟨by kernel_rfl, ?_⟩) (by exact True.intro) ?_
                rotate_left
                focus (intro w' _; go_simp; (try with_reducible rfl))
                try simp only [put_lit, List.set]
                refine wpAnyH_done (by kernel_rfl) ?_ _
                go_wp2_with (fail)
                go_meet
                exact ⟨_, _, _, _, _, rfl, nt79 _, (nq80 _).rd, (np81 _).rd.take (by omega), (by rw [← List.length_take]; exact (nfew82 _).rd), (nown83 _).rd, (by rw [← List.length_take]; exact fc10), (nf84 _)⟩
      · skip
        refine want_pos (by kernel_rfl) ?_
        go_simp
        have nq85 := nq7.alloc (.cells #[Bv ch] 5)
        have np86 := np8.alloc (.cells #[Bv ch] 5)
        have nfew87 := own4.alloc (.cells #[Bv ch] 5)
        have nf88 := nf9.alloc (.cells #[Bv ch] 5)
        have nl89 := Blk.new v1 5 #[Bv ch]
        refine hK.out _ _ trivial (fun _ => ?_)
        clear hK K
        try simp only [put_lit, List.set]
        refine wpAnyH_ready (rs := [6]) (by kernel_rfl) (by simp) (AllReadyH.cons rfl (fun K hK => ?_) AllReadyH.nil)
        · skip
          refine want_pos (by kernel_rfl) ?_
          go_simp
          have nq90 := nq85.alloc (.cells #[] 5)
          have np91 := np86.alloc (.cells #[] 5)
          have nfew92 := nfew87.alloc (.cells #[] 5)
          have nl93 := Blk.alloc nl89 (.cells #[] 5)
          have nf94 := nf88.alloc (.cells #[] 5)
          have ne95 := (Own.lit (v1.alloc (.cells #[Bv ch] 5)) 5 (size := 1) (n := 0) [] rfl (by omega)).lower (base' := wd.heap.size) (by (try simp only [World.size_alloc]); omega)
          simp only [World.size_alloc] at ne95
          refine hK.out _ _ trivial (fun _ => ?_)
          clear hK K
          try simp only [put_lit, List.set]
          refine wpAnyH_ready (rs := [8]) (by kernel_rfl) (by simp) (AllReadyH.cons rfl (fun K hK => ?_) AllReadyH.nil)
          · skip
            refine step_app (base := wd.heap.size) (.tmp 69) (.tmp 70) 23 (by rfl) (by rfl) (by rfl) (by rfl) slB ne95 np91.rd (Bv_one _) (by omega) (by omega) (by (try simp only [World.size_alloc]); omega) ?_
            intro A96 c97 v98 own99 fr100 hat101
            have nq102 := nq90.fr fr100 (fun j hj e => (by have r1 : v1.heap.size + 1 = j := Option.some.inj e; have r2 := hrq j hj; omega))
            have np103 := np91.fr fr100 (fun j hj e => (by have r1 : v1.heap.size + 1 = j := Option.some.inj e; have r2 := hrp j hj; omega))
            have nw104 := nfew92.fr fr100 (fun j hj e => (by have r1 : v1.heap.size + 1 = j := Option.some.inj e; have r2 := own4.row j hj; omega))
            have nf105 := nf94.trans fr100 (fun j hj e => (by have r3 := (ne95.row j e).1; omega))
            have nl106 := Blk.fr nl93 fr100 (fun e => (by have r1 : v1.heap.size + 1 = v1.heap.size := Option.some.inj e; omega))
            rw [Nat.zero_add, List.nil_append] at own99
            have ns107 : v1.heap.size + 1 + 1 ≤ v98.heap.size := (by have h := fr100.size; (try simp only [World.size_alloc] at h); exact h)
            refine hK.out _ _ trivial (fun _ => ?_)
            clear hK K
            go_simp
            refine wpAnyH_ready (rs := [11]) (by kernel_rfl) (by simp) (AllReadyH.cons rfl (fun K hK => ?_) AllReadyH.nil)
            · skip
              refine step_app (base := wd.heap.size) (.tmp 71) (.tmp 73) 23 (by rfl) (by rfl) (by rfl) (by rfl) slB own99 (Rd.blk (n := 1) (size := 1) nl106 rfl) (by simp [Value.oneCell', Bv]) (by omega) (by omega) (by (try simp only [World.size_alloc]); omega) ?_
              intro A108 c109 v110 own111 fr112 hat113
              have nq114 := nq102.fr fr112 (fun j hj e => (by have r2 := hrq j hj; rcases hat101 with h | h; (have r1 : v1.heap.size + 1 = j := Option.some.inj (h.symm.trans e); omega); (have r1 := Option.some.inj (h.symm.trans e); (try simp only [World.size_alloc] at r1); omega)))
              have np115 := np103.fr fr112 (fun j hj e => (by have r2 := hrp j hj; rcases hat101 with h | h; (have r1 : v1.heap.size + 1 = j := Option.some.inj (h.symm.trans e); omega); (have r1 := Option.some.inj (h.symm.trans e); (try simp only [World.size_alloc] at r1); omega)))
              have nw116 := nw104.fr fr112 (fun j hj e => (by have r2 := own4.row j hj; rcases hat101 with h | h; (have r1 : v1.heap.size + 1 = j := Option.some.inj (h.symm.trans e); omega); (have r1 := Option.some.inj (h.symm.trans e); (try simp only [World.size_alloc] at r1); omega)))
              have nf117 := nf105.trans fr112 (fun j hj e => (by have r3 := (own99.row j e).1; omega))
              have ns118 : v98.heap.size ≤ v110.heap.size := (by have h := fr112.size; (try simp only [World.size_alloc] at h); exact h)
              refine hK.out _ _ trivial (fun _ => ?_)
              clear hK K
              go_simp
              refine wpAnyH_ready (rs := [12]) (by kernel_rfl) (by simp) (AllReadyH.cons rfl (fun K hK => ?_) AllReadyH.nil)
              · skip
                refine want_pos (by kernel_rfl) ?_
                go_simp
                have nt119 := fun cs => Blk.new v110 23 cs
                have nq120 := fun o => nq114.alloc o
                have np121 := fun o => np115.alloc o
                have nfew122 := fun o => nw116.alloc o
                have nown123 := fun o => own111.alloc o
                have nf124 := fun o => nf117.alloc o
                refine hK.out _ _ trivial (fun _ => ?_)
                clear hK K
                try simp only [put_lit, List.set]
                refine wpAnyH_take (i := 13) (v := ?_) rfl (by kernel_rfl) (by kernel_rfl) (by kernel_rfl) (fun _ _ _ h => h) (Or.inl ⟨by kernel_rfl, ?_⟩) (by exact True.intro) ?_
                rotate_left
                focus (intro w' _; go_simp; (try with_reducible rfl))
                try simp only [put_lit, List.set]
                refine wpAnyH_done (by kernel_rfl) ?_ _
                go_wp2_with (fail)
                go_meet
                exact ⟨_, _, _, _, _, rfl, nt119 _, (nq120 _).rd, (np121 _).rd.take (by omega), (by rw [← List.length_take]; exact (nfew122 _).rd), (nown123 _).rd, (by rw [← List.length_take]; exact fc10), (nf124 _)⟩
    · skip
      refine want_pos (by kernel_rfl) ?_
      go_simp
      have nq125 := qd.alloc (.cells #[] 5)
      have np126 := pd.alloc (.cells #[] 5)
      have nr127 := rrd.alloc (.cells #[] 5)
      have nf128 := frd.alloc (.cells #[] 5)
      have ne129 := (Own.lit wd 5 (size := 1) (n := 0) [] rfl (by omega)).lower (base' := wd.heap.size) (by (try simp only [World.size_alloc]); omega)
      refine hK.out _ _ trivial (fun _ => ?_)
      clear hK K
      try simp only [put_lit, List.set]
      refine wpAnyH_ready (rs := [5, 10]) (by kernel_rfl) (by simp) (AllReadyH.cons rfl (fun K hK => ?_) (AllReadyH.cons rfl (fun K hK => ?_) AllReadyH.nil))
      · skip
        refine want_pos (by kernel_rfl) ?_
        go_simp
        go_wp2_with (go_at_call 14; (refine (few_any Ar cr raw 40 _ (nr127.mono (by (try simp only [World.size_alloc]); omega)) hrc hrc' (by omega)).mono ?_); rintro _ v130 ⟨A131, c132, rfl, own133, fr134⟩)
        have ns135 : wd.heap.size + 1 ≤ v130.heap.size := (by have h := fr134.size; (try simp only [World.size_alloc] at h); exact h)
        simp only [World.size_alloc] at own133
        have nq136 := nq125.fr fr134 (fun _ _ e => e)
        have np137 := np126.fr fr134 (fun _ _ e => e)
        have nempty138 := ne129.fr fr134 (fun _ _ e => e)
        have nf139 := nf128.trans fr134 (fun _ _ e => e)
        have fc140 := own133.cap
        refine hK.out _ _ trivial (fun _ => ?_)
        clear hK K
        go_simp
        refine wpAnyH_ready (rs := [8, 10]) (by kernel_rfl) (by simp) (AllReadyH.cons rfl (fun K hK => ?_) (AllReadyH.cons rfl (fun K hK => ?_) AllReadyH.nil))
        · skip
          refine step_app (base := wd.heap.size) (.tmp 69) (.tmp 70) 23 (by rfl) (by rfl) (by rfl) (by rfl) slB nempty138 np137.rd (Bv_one _) (by omega) (by omega) (by (try simp only [World.size_alloc]); omega) ?_
          intro A141 c142 v143 own144 fr145 hat146
          have nq147 := nq136.fr fr145 (fun j hj e => (by have r1 : wd.heap.size = j := Option.some.inj e; have r2 := hrq j hj; omega))
          have np148 := np137.fr fr145 (fun j hj e => (by have r1 : wd.heap.size = j := Option.some.inj e; have r2 := hrp j hj; omega))
          have nw149 := own133.fr fr145 (fun j hj e => (by have r1 : wd.heap.size = j := Option.some.inj e; have r2 := own133.row j hj; omega))
          have nf150 := nf139.trans fr145 (fun j hj e => (by have r3 := (nempty138.row j e).1; omega))
          rw [Nat.zero_add, List.nil_append] at own144
          have ns151 : v130.heap.size ≤ v143.heap.size := (by have h := fr145.size; (try simp only [World.size_alloc] at h); exact h)
          refine hK.out _ _ trivial (fun _ => ?_)
          clear hK K
          go_simp
          refine wpAnyH_ready (rs := [10]) (by kernel_rfl) (by simp) (AllReadyH.cons rfl (fun K hK => ?_) AllReadyH.nil)
          · skip
            refine want_pos (by kernel_rfl) ?_
            go_simp
            have nq152 := nq147.alloc (.cells #[Bv ch] 5)
            have np153 := np148.alloc (.cells #[Bv ch] 5)
            have nfew154 := nw149.alloc (.cells #[Bv ch] 5)
            have nown155 := own144.alloc (.cells #[Bv ch] 5)
            have nf156 := nf150.alloc (.cells #[Bv ch] 5)
            have nl157 := Blk.new v143 5 #[Bv ch]
            refine hK.out _ _ trivial (fun _ => ?_)
            clear hK K
            try simp only [put_lit, List.set]
            refine wpAnyH_ready (rs := [11]) (by kernel_rfl) (by simp) (AllReadyH.cons rfl (fun K hK => ?_) AllReadyH.nil)
            · skip
              refine step_app (base := wd.heap.size) (.tmp 71) (.tmp 73) 23 (by rfl) (by rfl) (by rfl) (by rfl) slB nown155 (Rd.blk (n := 1) (size := 1) nl157 rfl) (by simp [Value.oneCell', Bv]) (by omega) (by omega) (by (try simp only [World.size_alloc]); omega) ?_
              intro A158 c159 v160 own161 fr162 hat163
              have nq164 := nq152.fr fr162 (fun j hj e => (by have r2 := hrq j hj; rcases hat146 with h | h; (have r1 : wd.heap.size = j := Option.some.inj (h.symm.trans e); omega); (have r1 := Option.some.inj (h.symm.trans e); (try simp only [World.size_alloc] at r1); omega)))
              have np165 := np153.fr fr162 (fun j hj e => (by have r2 := hrp j hj; rcases hat146 with h | h; (have r1 : wd.heap.size = j := Option.some.inj (h.symm.trans e); omega); (have r1 := Option.some.inj (h.symm.trans e); (try simp only [World.size_alloc] at r1); omega)))
              have nw166 := nfew154.fr fr162 (fun j hj e => (by have r2 := own133.row j hj; rcases hat146 with h | h; (have r1 : wd.heap.size = j := Option.some.inj (h.symm.trans e); omega); (have r1 := Option.some.inj (h.symm.trans e); (try simp only [World.size_alloc] at r1); omega)))
              have nf167 := nf156.trans fr162 (fun j hj e => (by have r3 := (nown155.row j e).1; omega))
              have ns168 : v143.heap.size + 1 ≤ v160.heap.size := (by have h := fr162.size; (try simp only [World.size_alloc] at h); exact h)
              refine hK.out _ _ trivial (fun _ => ?_)
              clear hK K
              go_simp
              refine wpAnyH_ready (rs := [12]) (by kernel_rfl) (by simp) (AllReadyH.cons rfl (fun K hK => ?_) AllReadyH.nil)
              · skip
                refine want_pos (by kernel_rfl) ?_
                go_simp
                have nt169 := fun cs => Blk.new v160 23 cs
                have nq170 := fun o => nq164.alloc o
                have np171 := fun o => np165.alloc o
                have nfew172 := fun o => nw166.alloc o
                have nown173 := fun o => own161.alloc o
                have nf174 := fun o => nf167.alloc o
                refine hK.out _ _ trivial (fun _ => ?_)
                clear hK K
                try simp only [put_lit, List.set]
                refine wpAnyH_take (i := 13) (v := ?_) rfl (by kernel_rfl) (by kernel_rfl) (by kernel_rfl) (fun _ _ _ h => h) (Or.inl ⟨by kernel_rfl, ?_⟩) (by exact True.intro) ?_
                rotate_left
                focus (intro w' _; go_simp; (try with_reducible rfl))
                try simp only [put_lit, List.set]
                refine wpAnyH_done (by kernel_rfl) ?_ _
                go_wp2_with (fail)
                go_meet
                exact ⟨_, _, _, _, _, rfl, nt169 _, (nq170 _).rd, (np171 _).rd.take (by omega), (by rw [← List.length_take]; exact (nfew172 _).rd), (nown173 _).rd, (by rw [← List.length_take]; exact fc140), (nf174 _)⟩
        · skip
          refine want_pos (by kernel_rfl) ?_
          go_simp
          have nq175 := nq136.alloc (.cells #[Bv ch] 5)
          have np176 := np137.alloc (.cells #[Bv ch] 5)
          have nfew177 := own133.alloc (.cells #[Bv ch] 5)
          have nempty178 := nempty138.alloc (.cells #[Bv ch] 5)
          have nf179 := nf139.alloc (.cells #[Bv ch] 5)
          have nl180 := Blk.new v130 5 #[Bv ch]
          refine hK.out _ _ trivial (fun _ => ?_)
          clear hK K
          try simp only [put_lit, List.set]
          refine wpAnyH_ready (rs := [8]) (by kernel_rfl) (by simp) (AllReadyH.cons rfl (fun K hK => ?_) AllReadyH.nil)
          · skip
            refine step_app (base := wd.heap.size) (.tmp 69) (.tmp 70) 23 (by rfl) (by rfl) (by rfl) (by rfl) slB nempty178 np176.rd (Bv_one _) (by omega) (by omega) (by (try simp only [World.size_alloc]); omega) ?_
            intro A181 c182 v183 own184 fr185 hat186
            have nq187 := nq175.fr fr185 (fun j hj e => (by have r1 : wd.heap.size = j := Option.some.inj e; have r2 := hrq j hj; omega))
            have np188 := np176.fr fr185 (fun j hj e => (by have r1 : wd.heap.size = j := Option.some.inj e; have r2 := hrp j hj; omega))
            have nw189 := nfew177.fr fr185 (fun j hj e => (by have r1 : wd.heap.size = j := Option.some.inj e; have r2 := own133.row j hj; omega))
            have nf190 := nf179.trans fr185 (fun j hj e => (by have r3 := (nempty178.row j e).1; omega))
            have nl191 := Blk.fr nl180 fr185 (fun e => (by have r1 : wd.heap.size = v130.heap.size := Option.some.inj e; omega))
            rw [Nat.zero_add, List.nil_append] at own184
            have ns192 : v130.heap.size + 1 ≤ v183.heap.size := (by have h := fr185.size; (try simp only [World.size_alloc] at h); exact h)
            refine hK.out _ _ trivial (fun _ => ?_)
            clear hK K
            go_simp
            refine wpAnyH_ready (rs := [11]) (by kernel_rfl) (by simp) (AllReadyH.cons rfl (fun K hK => ?_) AllReadyH.nil)
            · skip
              refine step_app (base := wd.heap.size) (.tmp 71) (.tmp 73) 23 (by rfl) (by rfl) (by rfl) (by rfl) slB own184 (Rd.blk (n := 1) (size := 1) nl191 rfl) (by simp [Value.oneCell', Bv]) (by omega) (by omega) (by (try simp only [World.size_alloc]); omega) ?_
              intro A193 c194 v195 own196 fr197 hat198
              have nq199 := nq187.fr fr197 (fun j hj e => (by have r2 := hrq j hj; rcases hat186 with h | h; (have r1 : wd.heap.size = j := Option.some.inj (h.symm.trans e); omega); (have r1 := Option.some.inj (h.symm.trans e); (try simp only [World.size_alloc] at r1); omega)))
              have np200 := np188.fr fr197 (fun j hj e => (by have r2 := hrp j hj; rcases hat186 with h | h; (have r1 : wd.heap.size = j := Option.some.inj (h.symm.trans e); omega); (have r1 := Option.some.inj (h.symm.trans e); (try simp only [World.size_alloc] at r1); omega)))
              have nw201 := nw189.fr fr197 (fun j hj e => (by have r2 := own133.row j hj; rcases hat186 with h | h; (have r1 : wd.heap.size = j := Option.some.inj (h.symm.trans e); omega); (have r1 := Option.some.inj (h.symm.trans e); (try simp only [World.size_alloc] at r1); omega)))
              have nf202 := nf190.trans fr197 (fun j hj e => (by have r3 := (own184.row j e).1; omega))
              have ns203 : v183.heap.size ≤ v195.heap.size := (by have h := fr197.size; (try simp only [World.size_alloc] at h); exact h)
              refine hK.out _ _ trivial (fun _ => ?_)
              clear hK K
              go_simp
              refine wpAnyH_ready (rs := [12]) (by kernel_rfl) (by simp) (AllReadyH.cons rfl (fun K hK => ?_) AllReadyH.nil)
              · skip
                refine want_pos (by kernel_rfl) ?_
                go_simp
                have nt204 := fun cs => Blk.new v195 23 cs
                have nq205 := fun o => nq199.alloc o
                have np206 := fun o => np200.alloc o
                have nfew207 := fun o => nw201.alloc o
                have nown208 := fun o => own196.alloc o
                have nf209 := fun o => nf202.alloc o
                refine hK.out _ _ trivial (fun _ => ?_)
                clear hK K
                try simp only [put_lit, List.set]
                refine wpAnyH_take (i := 13) (v := ?_) rfl (by kernel_rfl) (by kernel_rfl) (by kernel_rfl) (fun _ _ _ h => h) (Or.inl ⟨by kernel_rfl, ?_⟩) (by exact True.intro) ?_
                rotate_left
                focus (intro w' _; go_simp; (try with_reducible rfl))
                try simp only [put_lit, List.set]
                refine wpAnyH_done (by kernel_rfl) ?_ _
                go_wp2_with (fail)
                go_meet
                exact ⟨_, _, _, _, _, rfl, nt204 _, (nq205 _).rd, (np206 _).rd.take (by omega), (by rw [← List.length_take]; exact (nfew207 _).rd), (nown208 _).rd, (by rw [← List.length_take]; exact fc140), (nf209 _)⟩
      · skip
        refine want_pos (by kernel_rfl) ?_
        go_simp
        have nq210 := nq125.alloc (.cells #[Bv ch] 5)
        have np211 := np126.alloc (.cells #[Bv ch] 5)
        have nempty212 := ne129.alloc (.cells #[Bv ch] 5)
        have nr213 := nr127.alloc (.cells #[Bv ch] 5)
        have nf214 := nf128.alloc (.cells #[Bv ch] 5)
        have nl215 := Blk.new (wd.alloc (.cells #[] 5)) 5 #[Bv ch]
        simp only [World.size_alloc] at nl215
        refine hK.out _ _ trivial (fun _ => ?_)
        clear hK K
        try simp only [put_lit, List.set]
        refine wpAnyH_ready (rs := [5]) (by kernel_rfl) (by simp) (AllReadyH.cons rfl (fun K hK => ?_) AllReadyH.nil)
        · skip
          refine want_pos (by kernel_rfl) ?_
          go_simp
          go_wp2_with (go_at_call 14; (refine (few_any Ar cr raw 40 _ (nr213.mono (by (try simp only [World.size_alloc]); omega)) hrc hrc' (by omega)).mono ?_); rintro _ v216 ⟨A217, c218, rfl, own219, fr220⟩)
          have ns221 : wd.heap.size + 1 + 1 ≤ v216.heap.size := (by have h := fr220.size; (try simp only [World.size_alloc] at h); exact h)
          simp only [World.size_alloc] at own219
          have nq222 := nq210.fr fr220 (fun _ _ e => e)
          have np223 := np211.fr fr220 (fun _ _ e => e)
          have nempty224 := nempty212.fr fr220 (fun _ _ e => e)
          have nl225 := Blk.fr nl215 fr220 (fun e => e)
          have nf226 := nf214.trans fr220 (fun _ _ e => e)
          have fc227 := own219.cap
          refine hK.out _ _ trivial (fun _ => ?_)
          clear hK K
          go_simp
          refine wpAnyH_ready (rs := [8]) (by kernel_rfl) (by simp) (AllReadyH.cons rfl (fun K hK => ?_) AllReadyH.nil)
          · skip
            refine step_app (base := wd.heap.size) (.tmp 69) (.tmp 70) 23 (by rfl) (by rfl) (by rfl) (by rfl) slB nempty224 np223.rd (Bv_one _) (by omega) (by omega) (by (try simp only [World.size_alloc]); omega) ?_
            intro A228 c229 v230 own231 fr232 hat233
            have nq234 := nq222.fr fr232 (fun j hj e => (by have r1 : wd.heap.size = j := Option.some.inj e; have r2 := hrq j hj; omega))
            have np235 := np223.fr fr232 (fun j hj e => (by have r1 : wd.heap.size = j := Option.some.inj e; have r2 := hrp j hj; omega))
            have nw236 := own219.fr fr232 (fun j hj e => (by have r1 : wd.heap.size = j := Option.some.inj e; have r2 := own219.row j hj; omega))
            have nf237 := nf226.trans fr232 (fun j hj e => (by have r3 := (nempty224.row j e).1; omega))
            have nl238 := Blk.fr nl225 fr232 (fun e => (by have r1 : wd.heap.size = wd.heap.size + 1 := Option.some.inj e; omega))
            rw [Nat.zero_add, List.nil_append] at own231
            have ns239 : v216.heap.size ≤ v230.heap.size := (by have h := fr232.size; (try simp only [World.size_alloc] at h); exact h)
            refine hK.out _ _ trivial (fun _ => ?_)
            clear hK K
            go_simp
            refine wpAnyH_ready (rs := [11]) (by kernel_rfl) (by simp) (AllReadyH.cons rfl (fun K hK => ?_) AllReadyH.nil)
            · skip
              refine step_app (base := wd.heap.size) (.tmp 71) (.tmp 73) 23 (by rfl) (by rfl) (by rfl) (by rfl) slB own231 (Rd.blk (n := 1) (size := 1) nl238 rfl) (by simp [Value.oneCell', Bv]) (by omega) (by omega) (by (try simp only [World.size_alloc]); omega) ?_
              intro A240 c241 v242 own243 fr244 hat245
              have nq246 := nq234.fr fr244 (fun j hj e => (by have r2 := hrq j hj; rcases hat233 with h | h; (have r1 : wd.heap.size = j := Option.some.inj (h.symm.trans e); omega); (have r1 := Option.some.inj (h.symm.trans e); (try simp only [World.size_alloc] at r1); omega)))
              have np247 := np235.fr fr244 (fun j hj e => (by have r2 := hrp j hj; rcases hat233 with h | h; (have r1 : wd.heap.size = j := Option.some.inj (h.symm.trans e); omega); (have r1 := Option.some.inj (h.symm.trans e); (try simp only [World.size_alloc] at r1); omega)))
              have nw248 := nw236.fr fr244 (fun j hj e => (by have r2 := own219.row j hj; rcases hat233 with h | h; (have r1 : wd.heap.size = j := Option.some.inj (h.symm.trans e); omega); (have r1 := Option.some.inj (h.symm.trans e); (try simp only [World.size_alloc] at r1); omega)))
              have nf249 := nf237.trans fr244 (fun j hj e => (by have r3 := (own231.row j e).1; omega))
              have ns250 : v230.heap.size ≤ v242.heap.size := (by have h := fr244.size; (try simp only [World.size_alloc] at h); exact h)
              refine hK.out _ _ trivial (fun _ => ?_)
              clear hK K
              go_simp
              refine wpAnyH_ready (rs := [12]) (by kernel_rfl) (by simp) (AllReadyH.cons rfl (fun K hK => ?_) AllReadyH.nil)
              · skip
                refine want_pos (by kernel_rfl) ?_
                go_simp
                have nt251 := fun cs => Blk.new v242 23 cs
                have nq252 := fun o => nq246.alloc o
                have np253 := fun o => np247.alloc o
                have nfew254 := fun o => nw248.alloc o
                have nown255 := fun o => own243.alloc o
                have nf256 := fun o => nf249.alloc o
                refine hK.out _ _ trivial (fun _ => ?_)
                clear hK K
                try simp only [put_lit, List.set]
                refine wpAnyH_take (i := 13) (v := ?_) rfl (by kernel_rfl) (by kernel_rfl) (by kernel_rfl) (fun _ _ _ h => h) (Or.inl ⟨by kernel_rfl, ?_⟩) (by exact True.intro) ?_
                rotate_left
                focus (intro w' _; go_simp; (try with_reducible rfl))
                try simp only [put_lit, List.set]
                refine wpAnyH_done (by kernel_rfl) ?_ _
                go_wp2_with (fail)
                go_meet
                exact ⟨_, _, _, _, _, rfl, nt251 _, (nq252 _).rd, (np253 _).rd.take (by omega), (by rw [← List.length_take]; exact (nfew254 _).rd), (nown255 _).rd, (by rw [← List.length_take]; exact fc227), (nf256 _)⟩
    · skip
      refine want_pos (by kernel_rfl) ?_
      go_simp
      have nq257 := qd.alloc (.cells #[Bv ch] 5)
      have np258 := pd.alloc (.cells #[Bv ch] 5)
      have nr259 := rrd.alloc (.cells #[Bv ch] 5)
      have nf260 := frd.alloc (.cells #[Bv ch] 5)
      have nl261 := Blk.new wd 5 #[Bv ch]
      refine hK.out _ _ trivial (fun _ => ?_)
      clear hK K
      try simp only [put_lit, List.set]
      refine wpAnyH_ready (rs := [5, 6]) (by kernel_rfl) (by simp) (AllReadyH.cons rfl (fun K hK => ?_) (AllReadyH.cons rfl (fun K hK => ?_) AllReadyH.nil))
      · skip
        refine want_pos (by kernel_rfl) ?_
        go_simp
        go_wp2_with (go_at_call 14; (refine (few_any Ar cr raw 40 _ (nr259.mono (by (try simp only [World.size_alloc]); omega)) hrc hrc' (by omega)).mono ?_); rintro _ v262 ⟨A263, c264, rfl, own265, fr266⟩)
        have ns267 : wd.heap.size + 1 ≤ v262.heap.size := (by have h := fr266.size; (try simp only [World.size_alloc] at h); exact h)
        simp only [World.size_alloc] at own265
        have nq268 := nq257.fr fr266 (fun _ _ e => e)
        have np269 := np258.fr fr266 (fun _ _ e => e)
        have nl270 := Blk.fr nl261 fr266 (fun e => e)
        have nf271 := nf260.trans fr266 (fun _ _ e => e)
        have fc272 := own265.cap
        refine hK.out _ _ trivial (fun _ => ?_)
        clear hK K
        go_simp
        refine wpAnyH_ready (rs := [6]) (by kernel_rfl) (by simp) (AllReadyH.cons rfl (fun K hK => ?_) AllReadyH.nil)
        · skip
          refine want_pos (by kernel_rfl) ?_
          go_simp
          have nq273 := nq268.alloc (.cells #[] 5)
          have np274 := np269.alloc (.cells #[] 5)
          have nfew275 := own265.alloc (.cells #[] 5)
          have nl276 := Blk.alloc nl270 (.cells #[] 5)
          have nf277 := nf271.alloc (.cells #[] 5)
          have ne278 := (Own.lit v262 5 (size := 1) (n := 0) [] rfl (by omega)).lower (base' := wd.heap.size) (by (try simp only [World.size_alloc]); omega)
          refine hK.out _ _ trivial (fun _ => ?_)
          clear hK K
          try simp only [put_lit, List.set]
          refine wpAnyH_ready (rs := [8]) (by kernel_rfl) (by simp) (AllReadyH.cons rfl (fun K hK => ?_) AllReadyH.nil)
          · skip
            refine step_app (base := wd.heap.size) (.tmp 69) (.tmp 70) 23 (by rfl) (by rfl) (by rfl) (by rfl) slB ne278 np274.rd (Bv_one _) (by omega) (by omega) (by (try simp only [World.size_alloc]); omega) ?_
            intro A279 c280 v281 own282 fr283 hat284
            have nq285 := nq273.fr fr283 (fun j hj e => (by have r1 : v262.heap.size = j := Option.some.inj e; have r2 := hrq j hj; omega))
            have np286 := np274.fr fr283 (fun j hj e => (by have r1 : v262.heap.size = j := Option.some.inj e; have r2 := hrp j hj; omega))
            have nw287 := nfew275.fr fr283 (fun j hj e => (by have r1 : v262.heap.size = j := Option.some.inj e; have r2 := own265.row j hj; omega))
            have nf288 := nf277.trans fr283 (fun j hj e => (by have r3 := (ne278.row j e).1; omega))
            have nl289 := Blk.fr nl276 fr283 (fun e => (by have r1 : v262.heap.size = wd.heap.size := Option.some.inj e; omega))
            rw [Nat.zero_add, List.nil_append] at own282
            have ns290 : v262.heap.size + 1 ≤ v281.heap.size := (by have h := fr283.size; (try simp only [World.size_alloc] at h); exact h)
            refine hK.out _ _ trivial (fun _ => ?_)
            clear hK K
            go_simp
            refine wpAnyH_ready (rs := [11]) (by kernel_rfl) (by simp) (AllReadyH.cons rfl (fun K hK => ?_) AllReadyH.nil)
            · skip
              refine step_app (base := wd.heap.size) (.tmp 71) (.tmp 73) 23 (by rfl) (by rfl) (by rfl) (by rfl) slB own282 (Rd.blk (n := 1) (size := 1) nl289 rfl) (by simp [Value.oneCell', Bv]) (by omega) (by omega) (by (try simp only [World.size_alloc]); omega) ?_
              intro A291 c292 v293 own294 fr295 hat296
              have nq297 := nq285.fr fr295 (fun j hj e => (by have r2 := hrq j hj; rcases hat284 with h | h; (have r1 : v262.heap.size = j := Option.some.inj (h.symm.trans e); omega); (have r1 := Option.some.inj (h.symm.trans e); (try simp only [World.size_alloc] at r1); omega)))
              have np298 := np286.fr fr295 (fun j hj e => (by have r2 := hrp j hj; rcases hat284 with h | h; (have r1 : v262.heap.size = j := Option.some.inj (h.symm.trans e); omega); (have r1 := Option.some.inj (h.symm.trans e); (try simp only [World.size_alloc] at r1); omega)))
              have nw299 := nw287.fr fr295 (fun j hj e => (by have r2 := own265.row j hj; rcases hat284 with h | h; (have r1 : v262.heap.size = j := Option.some.inj (h.symm.trans e); omega); (have r1 := Option.some.inj (h.symm.trans e); (try simp only [World.size_alloc] at r1); omega)))
              have nf300 := nf288.trans fr295 (fun j hj e => (by have r3 := (own282.row j e).1; omega))
              have ns301 : v281.heap.size ≤ v293.heap.size := (by have h := fr295.size; (try simp only [World.size_alloc] at h); exact h)
              refine hK.out _ _ trivial (fun _ => ?_)
              clear hK K
              go_simp
              refine wpAnyH_ready (rs := [12]) (by kernel_rfl) (by simp) (AllReadyH.cons rfl (fun K hK => ?_) AllReadyH.nil)
              · skip
                refine want_pos (by kernel_rfl) ?_
                go_simp
                have nt302 := fun cs => Blk.new v293 23 cs
                have nq303 := fun o => nq297.alloc o
                have np304 := fun o => np298.alloc o
                have nfew305 := fun o => nw299.alloc o
                have nown306 := fun o => own294.alloc o
                have nf307 := fun o => nf300.alloc o
                refine hK.out _ _ trivial (fun _ => ?_)
                clear hK K
                try simp only [put_lit, List.set]
                refine wpAnyH_take (i := 13) (v := ?_) rfl (by kernel_rfl) (by kernel_rfl) (by kernel_rfl) (fun _ _ _ h => h) (Or.inl ⟨by kernel_rfl, ?_⟩) (by exact True.intro) ?_
                rotate_left
                focus (intro w' _; go_simp; (try with_reducible rfl))
                try simp only [put_lit, List.set]
                refine wpAnyH_done (by kernel_rfl) ?_ _
                go_wp2_with (fail)
                go_meet
                exact ⟨_, _, _, _, _, rfl, nt302 _, (nq303 _).rd, (np304 _).rd.take (by omega), (by rw [← List.length_take]; exact (nfew305 _).rd), (nown306 _).rd, (by rw [← List.length_take]; exact fc272), (nf307 _)⟩
      · skip
        refine want_pos (by kernel_rfl) ?_
        go_simp
        have nq308 := nq257.alloc (.cells #[] 5)
        have np309 := np258.alloc (.cells #[] 5)
        have nr310 := nr259.alloc (.cells #[] 5)
        have nl311 := Blk.alloc nl261 (.cells #[] 5)
        have nf312 := nf260.alloc (.cells #[] 5)
        have ne313 := (Own.lit (wd.alloc (.cells #[Bv ch] 5)) 5 (size := 1) (n := 0) [] rfl (by omega)).lower (base' := wd.heap.size) (by (try simp only [World.size_alloc]); omega)
        simp only [World.size_alloc] at ne313
        refine hK.out _ _ trivial (fun _ => ?_)
        clear hK K
        try simp only [put_lit, List.set]
        refine wpAnyH_ready (rs := [5]) (by kernel_rfl) (by simp) (AllReadyH.cons rfl (fun K hK => ?_) AllReadyH.nil)
        · skip
          refine want_pos (by kernel_rfl) ?_
          go_simp
          go_wp2_with (go_at_call 14; (refine (few_any Ar cr raw 40 _ (nr310.mono (by (try simp only [World.size_alloc]); omega)) hrc hrc' (by omega)).mono ?_); rintro _ v314 ⟨A315, c316, rfl, own317, fr318⟩)
          have ns319 : wd.heap.size + 1 + 1 ≤ v314.heap.size := (by have h := fr318.size; (try simp only [World.size_alloc] at h); exact h)
          simp only [World.size_alloc] at own317
          have nq320 := nq308.fr fr318 (fun _ _ e => e)
          have np321 := np309.fr fr318 (fun _ _ e => e)
          have nempty322 := ne313.fr fr318 (fun _ _ e => e)
          have nl323 := Blk.fr nl311 fr318 (fun e => e)
          have nf324 := nf312.trans fr318 (fun _ _ e => e)
          have fc325 := own317.cap
          refine hK.out _ _ trivial (fun _ => ?_)
          clear hK K
          go_simp
          refine wpAnyH_ready (rs := [8]) (by kernel_rfl) (by simp) (AllReadyH.cons rfl (fun K hK => ?_) AllReadyH.nil)
          · skip
            refine step_app (base := wd.heap.size) (.tmp 69) (.tmp 70) 23 (by rfl) (by rfl) (by rfl) (by rfl) slB nempty322 np321.rd (Bv_one _) (by omega) (by omega) (by (try simp only [World.size_alloc]); omega) ?_
            intro A326 c327 v328 own329 fr330 hat331
            have nq332 := nq320.fr fr330 (fun j hj e => (by have r1 : wd.heap.size + 1 = j := Option.some.inj e; have r2 := hrq j hj; omega))
            have np333 := np321.fr fr330 (fun j hj e => (by have r1 : wd.heap.size + 1 = j := Option.some.inj e; have r2 := hrp j hj; omega))
            have nw334 := own317.fr fr330 (fun j hj e => (by have r1 : wd.heap.size + 1 = j := Option.some.inj e; have r2 := own317.row j hj; omega))
            have nf335 := nf324.trans fr330 (fun j hj e => (by have r3 := (nempty322.row j e).1; omega))
            have nl336 := Blk.fr nl323 fr330 (fun e => (by have r1 : wd.heap.size + 1 = wd.heap.size := Option.some.inj e; omega))
            rw [Nat.zero_add, List.nil_append] at own329
            have ns337 : v314.heap.size ≤ v328.heap.size := (by have h := fr330.size; (try simp only [World.size_alloc] at h); exact h)
            refine hK.out _ _ trivial (fun _ => ?_)
            clear hK K
            go_simp
            refine wpAnyH_ready (rs := [11]) (by kernel_rfl) (by simp) (AllReadyH.cons rfl (fun K hK => ?_) AllReadyH.nil)
            · skip
              refine step_app (base := wd.heap.size) (.tmp 71) (.tmp 73) 23 (by rfl) (by rfl) (by rfl) (by rfl) slB own329 (Rd.blk (n := 1) (size := 1) nl336 rfl) (by simp [Value.oneCell', Bv]) (by omega) (by omega) (by (try simp only [World.size_alloc]); omega) ?_
              intro A338 c339 v340 own341 fr342 hat343
              have nq344 := nq332.fr fr342 (fun j hj e => (by have r2 := hrq j hj; rcases hat331 with h | h; (have r1 : wd.heap.size + 1 = j := Option.some.inj (h.symm.trans e); omega); (have r1 := Option.some.inj (h.symm.trans e); (try simp only [World.size_alloc] at r1); omega)))
              have np345 := np333.fr fr342 (fun j hj e => (by have r2 := hrp j hj; rcases hat331 with h | h; (have r1 : wd.heap.size + 1 = j := Option.some.inj (h.symm.trans e); omega); (have r1 := Option.some.inj (h.symm.trans e); (try simp only [World.size_alloc] at r1); omega)))
              have nw346 := nw334.fr fr342 (fun j hj e => (by have r2 := own317.row j hj; rcases hat331 with h | h; (have r1 : wd.heap.size + 1 = j := Option.some.inj (h.symm.trans e); omega); (have r1 := Option.some.inj (h.symm.trans e); (try simp only [World.size_alloc] at r1); omega)))
              have nf347 := nf335.trans fr342 (fun j hj e => (by have r3 := (own329.row j e).1; omega))
              have ns348 : v328.heap.size ≤ v340.heap.size := (by have h := fr342.size; (try simp only [World.size_alloc] at h); exact h)
              refine hK.out _ _ trivial (fun _ => ?_)
              clear hK K
              go_simp
              refine wpAnyH_ready (rs := [12]) (by kernel_rfl) (by simp) (AllReadyH.cons rfl (fun K hK => ?_) AllReadyH.nil)
              · skip
                refine want_pos (by kernel_rfl) ?_
                go_simp
                have nt349 := fun cs => Blk.new v340 23 cs
                have nq350 := fun o => nq344.alloc o
                have np351 := fun o => np345.alloc o
                have nfew352 := fun o => nw346.alloc o
                have nown353 := fun o => own341.alloc o
                have nf354 := fun o => nf347.alloc o
                refine hK.out _ _ trivial (fun _ => ?_)
                clear hK K
                try simp only [put_lit, List.set]
                refine wpAnyH_take (i := 13) (v := ?_) rfl (by kernel_rfl) (by kernel_rfl) (by kernel_rfl) (fun _ _ _ h => h) (Or.inl ⟨by kernel_rfl, ?_⟩) (by exact True.intro) ?_
                rotate_left
                focus (intro w' _; go_simp; (try with_reducible rfl))
                try simp only [put_lit, List.set]
                refine wpAnyH_done (by kernel_rfl) ?_ _
                go_wp2_with (fail)
                go_meet
                exact ⟨_, _, _, _, _, rfl, nt349 _, (nq350 _).rd, (np351 _).rd.take (by omega), (by rw [← List.length_take]; exact (nfew352 _).rd), (nown353 _).rd, (by rw [← List.length_take]; exact fc325), (nf354 _)⟩
  case rest =>
  obtain ⟨kt, c11, c13, A11, A13, rfl, htab, r0, r1, r2, r3, hcap11, frt⟩ := hcut
  clear own10' own10p hrr10 frn10 hgob hrp8
  generalize wc = wt at *
  have hP500 : P.length ≤ 500000 := by rw [hnp.out]; exact hpl
  have rows : ∀ i, i < 4 → ∃ (A : Option Addr) (m c : Nat) (bs : List UInt8), wt.cell? ⟨kt, i, none⟩ = some (.slice A m c) ∧ Rd wt wt.heap.size 1 A m (bs.map Bv) ∧ Hid (bs.length = m) ∧ m ≤ 500001 := by
    intro i hi
    have hi4 : i = 0 ∨ i = 1 ∨ i = 2 ∨ i = 3 := by omega
    rcases hi4 with rfl | rfl | rfl | rfl
    · exact ⟨_, _, _, Q, htab.cell 0, r0, hlQ, by omega⟩
    · exact ⟨_, _, _, P.take kn, htab.cell 1, by rw [List.map_take]; exact r1, by show _ = _; rw [List.length_take, hnp.out]; omega, by omega⟩
    · exact ⟨_, _, _, raw.take 40, htab.cell 2, r2, by show _ = _; rw [List.length_take], by omega⟩
    · exact ⟨_, _, _, P ++ [ch], htab.cell 3, by rw [List.map_append]; exact r3, by show _ = _; rw [List.length_append, hnp.out]; rfl, by omega⟩
  have hrows := Lib.hid rows
  have hkt := htab.lt
  clear rows r0 r1 r2 r3 htab hcap11 hlQ hnp hget hP500 hrr hrc hrc' hnr
  have hkw := hk.fr frt
  go_wp2_with (fail)
  go_loopw [20] (fun v wr => ∃ i : Nat, v = .int .i64 (i : Int) ∧ i ≤ 4 ∧ Fr Non wt wr) (fun v _ => 4 - (intOf v).toNat)
  case atStart => exact ⟨0, rfl, by omega, Fr.refl _ _⟩
  case round =>
  obtain ⟨i, rfl, hi4, hf⟩ := hrel
  by_cases hlt : i < 4
  · have ti : decide ((i : Int) < 4) = true := decide_eq_true (by omega)
    obtain ⟨A, m, c, bs, hcell, hrd, hbs, hm⟩ := hrows.out i hlt
    have hcr := hf.cell hcell (fun e => e)
    go_wp2_with (fail)
    refine (opGet_any _ m c A bs _ hbs (hrd.fr hf (fun _ _ e => e)) (by omega)).mono ?_
    rintro _ wa ⟨z, hz, rfl, zown, fa⟩
    obtain ⟨E, hE⟩ := hid_ex (get bs).2
    rw [hE.out]
    have hgood : Hid (E = 0 → z.op.put = bs ∧ z.op.ok) := fun e0 => by
      obtain ⟨o1, o2⟩ := get_inv (bs := bs) (o := z.op) (Prod.ext hz.symm (hE.out.trans e0))
      exact ⟨o2, ok_of_put o1 (by rw [o2, hbs.out]; omega)⟩
    have hbad : Hid (E ≠ 0 → z.op = Op.zero) := fun e => hz.trans (get_bad (by rw [hE.out]; exact e))
    have zat := zown.at
    have honez := one_cells z
    have hz3 := Blk.new wa 35 OpL.zero.cells
    clear hz hE zown
    go_upto_region 15 with (first | (refine wpList_store_new rfl 35 (.tmp 21) (.tmp 86) rfl rfl rfl rfl hz3 hi rfl honez ?_; intro wb hbb hfb hsb))
    have fxb : Fr Non wa wb := ((Fr.refl Non wa).alloc (.cells OpL.zero.cells 35)).trans hfb (fun k hk e => by have e' : k = wa.heap.size := e; omega)
    have fb := (hf.trans fa (fun _ _ e => e)).trans fxb (fun _ _ e => e)
    have zatb := OpL.frame zat fxb
    clear hf fa hz3 hfb hsb fxb zat hcr honez
    generalize wa.heap.size = gz at *
    have hlz := ldS_blk (P := Tryd.prog) gz 35 Tryd.underlying35 rfl (cs := z.cells) hi
    go_cut [100] from 88 to 100 (fun s wc => s = .bool false ∧ Fr Non wt wc ∧ Blk wc gz 35 z.cells ∧ z.at wc wc.heap.size)
    case first =>
      by_cases hE0 : E = 0
      · subst hE0
        obtain ⟨hput, zok⟩ := hgood.out rfl
        have kz := Lib.hid (fun w' (h : z.at w' w'.heap.size) => put11_any z w' h zok)
        rw [hput] at kz
        clear hgood hbad zok hput
        have hcb : wb.drew.cell? ⟨kt, i, none⟩ = some (.slice A m c) := fb.cell hcell (fun e => e)
        have hbd : Blk wb.drew gz 35 z.cells := hbb
        have zatd := OpL.frame zatb ((Fr.refl Non wb).drew)
        have e1i : (0 : Int) ≤ i := by omega
        have e2i : (i : Int) < 4 := by omega
        have e3i : (i : Int).toNat = i := by omega
        have q0 := str_rd (c := c) (hrd.fr fb.drew (fun _ _ e => e))
        go_region_held (fun w' => Blk w' gz 35 z.cells ∧ w'.cell? ⟨kt, i, none⟩ = some (.slice A m c)) ((and_intros <;> assumption)) (first
          | (go_at_call 15; (with_reducible refine (kz.out _ zatd).mono ?_); rintro _ w5 ⟨A6, c6, rfl, own6, f6⟩; have hb6 := hbd.fr f6 (fun e => e); have hc6 := f6.cell hcb (fun e => e); have q1 := str_own own6; have q2 := str_rd (c := c) ((hrd.fr fb.drew (fun _ _ e => e)).fr f6 (fun _ _ e => e))))
        all_goals
          go_wp2_with (fail)
          go_meet
          exact ⟨by simp, (fb.drew.trans f6 (fun _ _ e => e)), hb6, OpL.frame zatd f6⟩
      · have tE : (E == 0) = false := beq_f hE0
        refine wp_region_held_drew (S := (fun _ => True)) (by kernel_rfl) (by exact True.intro) (fun hHeld => ?_)
        refine wpAnyH_tail 0 _ (by kernel_rfl) (by rfl) (by rfl) (by kernel_rfl) (fun _ => hHeld) ?_
        go_simp
        repeat (go_big_quiet_step ((fail)))
        refine wpQuiet_nil ?_
        (first | (intro _ hw'; obtain ⟨nq, hw''⟩ := hw'; subst hw'') | intro nq)
        go_wp2_with (fail)
        go_meet
        exact ⟨rfl, fb.drewN _, hbb, OpL.frame zatb ((Fr.refl Non wb).drewN _)⟩
    case rest =>
      obtain ⟨rfl, fc, hbc, zatc⟩ := hcut
      clear fb hbb hrd hcell hbs zatb
      generalize wc = wd at *
      by_cases hE0 : E = 0
      · have tE : (E == 0) = true := beq_t hE0
        go_wp2_with (fail)
        go_roundw
        case rel => exact ⟨i + 1, by go_num, by omega, fc⟩
        case measure => first | (simp [intOf]; done) | (simp [intOf]; omega)
      · have tE : (E == 0) = false := beq_f hE0
        have zop := hbad.out hE0
        have zok : z.op.ok := by rw [zop]; exact zero_ok
        have zo : OpL.zero.op.ok := zero_ok
        go_wp2_with (fail)
        refine (sameop_any z OpL.zero _ zatc zok (OpL.zero_own _ 0).at zo).mono ?_
        rintro _ wf ⟨rfl, ff⟩
        rw [zop, show OpL.zero.op = Op.zero from rfl, beq_self_eq_true]
        go_wp2_with (fail)
        go_roundw
        case rel => exact ⟨i + 1, by go_num, by omega, fc.trans ff (fun _ _ e => e)⟩
        case measure => first | (simp [intOf]; done) | (simp [intOf]; omega)
  · obtain rfl : i = 4 := by omega
    have hkr := hkw.fr hf
    go_wp2_with (fail)
    refine (lives11_any _ hkr).mono ?_
    rintro _ w9 ⟨rfl, f9⟩
    go_wp2_with (fail)
    go_ret
    exact ⟨rfl, (frt.trans hf (fun _ _ e => e)).trans f9 (fun _ _ e => e)⟩
end Oq
end Go.Proofs.YthmlaigpdpdpjaaDoor
