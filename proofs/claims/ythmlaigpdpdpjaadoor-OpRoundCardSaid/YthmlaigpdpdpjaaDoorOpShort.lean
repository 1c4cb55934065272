/-
  OpShort: bytes that are cut off anywhere, or have some more behind them, are told so.
  Conditions: as the slices of a law are; the package variable op.kinds as its text lays it.
-/
import Derived.Test.YthmlaigpdpdpjaaDoorOpLives
namespace Go.Proofs.YthmlaigpdpdpjaaDoor
open Go.RowKit
attribute [local go_sem ↓] Go.wp_at_zero Go.wp_at_succ
namespace Oq
attribute [local go_sem] Bool.not_false Bool.not_true

theorem Own.lit (w : World) (t : TypeId) {size n : Nat} (l : List Value) (hl : l.length = n * size) (hn : n ≤ 9223372036854775807) : Own (w.alloc (.cells l.toArray t)) w.heap.size t size (some ⟨w.heap.size, 0, none⟩) n n l :=
  ⟨hl, .inr ⟨w.heap.size, n, l.toArray, rfl, Nat.le_refl _, heap_alloc_new w _, Nat.le_refl _, hn, by simpa using hl, by rw [← hl]; simp⟩⟩
theorem put_pos (o : Op) : 0 < o.put.length := by
  have h := Pk.num_pos o.s
  unfold Op.put
  rw [List.length_append]
  omega
theorem put_len {o : Op} (h : o.ok) : o.put.length ≤ 1100000020 := by
  have h1 := Op.bare_len o h
  have h2 := Pk.num_len o.r
  have h3 := Pk.num_len o.s
  unfold Op.put
  rw [List.length_append, List.length_append]
  omega
/-- The first two numbers are what they were. -/
theorem put_two (o : Op) : ∃ r, o.put = Pk.int o.by_ ++ (Pk.int o.sq ++ r) := by
  rw [put_eq]
  simp only [List.append_assoc]
  exact ⟨_, rfl⟩

set_option maxRecDepth 100000 in
set_option maxHeartbeats 8000000 in
theorem opShort_law (Al : Option Addr) (cl : Nat) (l : List Int) (at_ : Int) (Am : Option Addr) (cm : Nat) (more : List UInt8) (w : World) (hk : KindsAt w) (hrl : Rd w w.heap.size 1 Al l.length (l.map Iv)) (hlc : l.length ≤ cl) (hlc' : cl ≤ 9223372036854775807) (hok : ∀ x ∈ l, I64 x)
    (a0 : -9223372036854775808 ≤ at_) (a1 : at_ ≤ 9223372036854775807) (hrm : Rd w w.heap.size 1 Am more.length (more.map Bv)) (hmc : more.length ≤ cm) (hmc' : cm ≤ 9223372036854775807) :
    Calls Tryd.prog 4 #[.slice Al l.length cl, .int .i64 at_, .slice Am more.length cm] w (BoolPost true w) := by
  have hi : (Tryd.prog.info? 35).map (·.size) = some 27 := by kernel_rfl
  have hok' := Lib.hid hok
  clear hok
  obtain ⟨nl, hnl⟩ := hid_ex l.length
  rw [hnl.out] at hrl hlc ⊢
  obtain ⟨nm, hnm⟩ := hid_ex more.length
  rw [hnm.out] at hrm hmc ⊢
  go_enter Tryd.func4, Tryd.ntmps4
  go_wp2_with (fail)
  refine (gen_any _ nl cl Al l _ hnl hrl hlc hlc' hok').mono ?_
  rintro _ w1 ⟨x, rfl, xby, xsq, xchk, xr, xs, xown, f1⟩
  have xok := gen_ok xchk xr xs
  have xat := xown.at
  have Xb := Lib.hid xby
  have Xs := Lib.hid xsq
  clear xby xsq xchk xr xs xown
  go_wp2_with (fail)
  refine (put_any x _ xat xok).mono ?_
  rintro _ w2 ⟨A2, c2, rfl, own2, f2⟩
  have hcut : Hid (∀ j, j < x.op.put.length → get (x.op.put.take j) = (Op.zero, 9)) := fun j hj => get_cut xok.okR hj
  have hmore : Hid (∀ r : List UInt8, 0 < r.length → get (x.op.put ++ r) = (Op.zero, 2)) := fun r hr => get_more xok.okR r hr
  obtain ⟨r2, htwo⟩ := put_two x.op
  have h2 := Lib.hid htwo
  have hlen := put_len xok
  have hpos := put_pos x.op
  have hby := xok.by_
  have hsq := xok.sq
  clear htwo xat xok
  generalize x.op.put = P at *
  obtain ⟨np, hnp⟩ := hid_ex P.length
  rw [hnp.out] at own2 hlen hpos hcut ⊢
  have fr2 := f1.trans f2 (fun _ _ e => e)
  clear f1 f2
  have e0 : ((np : Int) == 0) = false := beq_f (by omega)
  have hcap2 := own2.cap
  go_wp2_with (fail)
  refine (around_any at_ (np : Int) _ a0 a1 (by omega) (by omega)).mono ?_
  have hab := around_bd (n := at_) (m := (np : Int)) (by omega)
  obtain ⟨kn, hkn⟩ : ∃ kn : Nat, around at_ (np : Int) = (kn : Int) := ⟨(around at_ (np : Int)).toNat, by omega⟩
  rw [hkn] at hab ⊢
  clear hkn e0
  rintro _ _ ⟨rfl, rfl⟩
  have hkl : Hid ((P.take kn).length = kn) := by show _ = _; rw [List.length_take, hnp.out]; omega
  have hr3 : Rd w2 w2.heap.size 1 A2 kn ((P.take kn).map Bv) := by rw [List.map_take]; exact own2.rd.take (by omega)
  go_wp2_with (fail)
  refine (opGet_any _ kn c2 A2 (P.take kn) _ hkl hr3 (by omega)).mono ?_
  rintro _ w3 ⟨y, _, rfl, _, f3⟩
  rw [hcut.out kn (by omega)]
  have hone := one_cells y
  have hz3 := Blk.new w3 35 OpL.zero.cells
  have own3 := own2.fr f3 (fun _ _ e => e)
  have fr3 := fr2.trans f3 (fun _ _ e => e)
  clear hr3 own2 fr2 f3 hcut hkl hab
  go_upto_region 5 with (first | (refine wpList_store_new rfl 35 (.tmp 8) (.tmp 31) rfl rfl rfl rfl hz3 hi rfl hone ?_; intro w4 hb4 hf4 hs4))
  have fx4 : Fr Non w3 w4 := ((Fr.refl Non w3).alloc (.cells OpL.zero.cells 35)).trans hf4 (fun k hk e => by have e' : k = w3.heap.size := e; omega)
  have own4 := own3.fr fx4 (fun _ _ e => e)
  have fr4 := fr3.trans fx4 (fun _ _ e => e)
  clear hz3 hf4 hs4 hb4 own3 fr3 fx4
  generalize w3.heap.size = g8 at *
  have hrm4 := hrm.fr fr4 (fun _ _ e => e)
  have hsz4 := fr4.size
  rw [← hnm.out] at hrm4 hmc ⊢
  go_wp2_with (fail)
  refine (few_any Am cm more 9 _ (hrm4.mono hsz4) hmc hmc' (by omega)).mono ?_
  rintro _ w5 ⟨A5, c5, rfl, own5, f5⟩
  have hq9 : (more.take 9).length ≤ 9 := List.length_take_le _ _
  generalize more.take 9 = q at *
  obtain ⟨nq, hnq⟩ := hid_ex q.length
  rw [hnq.out] at own5 hq9 ⊢
  have fr5 := fr4.trans f5 (fun _ _ e => e)
  have own5p := own4.fr f5 (fun _ _ e => e)
  have h4row : ∀ k, rowOf A2 = some k → k < w4.heap.size := fun k hk => (own4.row k hk).2
  have hs45 := f5.size
  clear hrm4 own4 fr4 f5
  have hz5 := Own.lit w5 5 (size := 1) (n := 1) [.int .u8 0] rfl (by omega)
  have hs5 := fr5.size
  have hnc5 := own5.cap
  go_upto_region 6 with (first | (at_builtin; go_loud (refine wpList_app (base := w4.heap.size) (.tmp 34) (.tmp 35) 23 rfl rfl rfl rfl slB (own5.alloc (.cells #[.int .u8 0] 5)) hz5.rd (by simp [Value.oneCell']) (by omega) (by omega) (by rw [World.size_alloc]; omega) ?_); intro A6 c6 w6 own6 fr6 hat6))
  have own6p := (own5p.alloc (.cells #[.int .u8 0] 5)).fr fr6 (fun k hk e => by have h1 := (own5.row k e).1; have h2 := h4row k hk; omega)
  have frn6 := (fr5.alloc (.cells #[.int .u8 0] 5)).trans fr6 (fun k hk e => by have h1 := (own5.row k e).1; omega)
  have hs6 := frn6.size
  have h6row : ∀ k, rowOf A6 = some k → k < w6.heap.size := fun k hk => (own6.row k hk).2
  have hp6row : ∀ k, rowOf A2 = some k → k < w6.heap.size := fun k hk => (own6p.row k hk).2
  have hz6 := Own.lit w6 5 (size := 1) (n := 0) [] rfl (by omega)
  clear own5 own5p fr5 fr6 hat6 hz5
  go_wp2_with (first
    | (at_builtin; go_loud (refine wpList_app (base := w6.heap.size) (.tmp 38) (.tmp 39) 23 rfl rfl rfl rfl slB hz6 (own6p.alloc (.cells #[] 5)).rd (Bv_one _) (by omega) (by omega) (by rw [World.size_alloc]; omega) ?_); intro A7 c7 w7 own7 fr7 hat7; rw [Nat.zero_add, List.nil_append] at own7; have hr7 : ∀ k, rowOf (some (⟨w6.heap.size, 0, none⟩ : Addr)) = some k → k = w6.heap.size := (fun k hk => by injection hk with hk; exact hk.symm); have own7t := (own6.alloc (.cells #[] 5)).fr fr7 (fun k hk e => by have := hr7 k e; have := h6row k hk; omega); have own7p := (own6p.alloc (.cells #[] 5)).fr fr7 (fun k hk e => by have := hr7 k e; have := hp6row k hk; omega); have frn7 := (frn6.alloc (.cells #[] 5)).trans fr7 (fun k hk e => by have := hr7 k e; omega); have hs7 := fr7.size; rw [World.size_alloc] at hs7)
    | (at_builtin; go_loud (refine wpList_app (base := w6.heap.size) (.tmp 40) (.tmp 41) 23 rfl rfl rfl rfl slB own7 own7t.rd (by intro u hu; rcases List.mem_append.1 hu with hu | hu; exact Bv_one _ u hu; rw [List.mem_singleton.1 hu]; rfl) (by omega) (by omega) (by omega) ?_); intro A8 c8 w8 own8 fr8 hat8))
  have own8p := own7p.fr fr8 (fun k hk e => by have h1 := (own7.row k e).1; have := hp6row k hk; omega)
  have frn8 := frn7.trans fr8 (fun k hk e => by have h1 := (own7.row k e).1; omega)
  have e8 : P.map Bv ++ (q.map Bv ++ [Value.int .u8 0]) = (P ++ (q ++ [0])).map Bv := by rw [List.map_append, List.map_append]; rfl
  rw [e8] at own8
  have hl8 : Hid ((P ++ (q ++ [0])).length = np + (nq + 1)) := by show _ = _; rw [List.length_append, List.length_append, hnp.out, hnq.out]; rfl
  clear own6 own6p own7 own7t own7p fr7 fr8 hat7 hat8 hz6 frn6 frn7 e8
  refine (opGet_any _ _ c8 A8 (P ++ (q ++ [0])) _ hl8 own8.rd (by omega)).mono ?_
  rintro _ w9 ⟨z, _, rfl, _, f9⟩
  rw [hmore.out (q ++ [0]) (by simp)]
  have honez := one_cells z
  have hz9 := Blk.new w9 35 OpL.zero.cells
  have own9 := own8p.fr f9 (fun _ _ e => e)
  have fr9 := frn8.trans f9 (fun _ _ e => e)
  clear own8 own8p frn8 f9 hmore hl8
  go_upto_region 7 with (first | (refine wpList_store_new rfl 35 (.tmp 11) (.tmp 44) rfl rfl rfl rfl hz9 hi rfl honez ?_; intro wa hba hfa hsa))
  have fxa : Fr Non w9 wa := ((Fr.refl Non w9).alloc (.cells OpL.zero.cells 35)).trans hfa (fun k hk e => by have e' : k = w9.heap.size := e; omega)
  have owna := own9.fr fxa (fun _ _ e => e)
  have fra := fr9.trans fxa (fun _ _ e => e)
  clear hz9 hfa hsa hba own9 fr9 fxa
  generalize w9.heap.size = g11 at *
  go_wp2_with (fail)
  refine (opened_any _ np c2 A2 P _ hnp owna.rd (by omega)).mono ?_
  rintro _ wb ⟨g, Ab, cb, rfl, hbb, ownb, fb, hgb1, hgb2, hlb⟩
  have hin0 := inAt_of hbb ownb hgb2 hlb
  have frb := fra.trans fb (fun _ _ e => e)
  have i1 : Hid (Pk.rdInt P 0 0 = (x.by_, 0 + (Pk.int x.by_).length, 0)) := Pk.back_int hby.1 hby.2 (by rw [List.drop_zero]; exact h2.out)
  have i2 : Hid (Pk.rdInt P (0 + (Pk.int x.by_).length) 0 = (x.sq, 0 + (Pk.int x.by_).length + (Pk.int x.sq).length, 0)) := Pk.back_int (r := r2) hsq.1 hsq.2 (Pk.drop_more (a := 0) (by rw [List.drop_zero]; exact h2.out))
  have hsz := fra.size
  clear hbb ownb fb hgb2 hlb owna fra h2
  generalize 0 + (Pk.int x.by_).length = a1 at *
  generalize a1 + (Pk.int x.sq).length = a2 at *
  go_wp2_with (fail)
  refine (inInt_any g g P 0 0 x.by_ a1 0 _ hin0 i1).mono ?_
  rintro _ wc ⟨rfl, hin1, fc⟩
  go_wp2_with (fail)
  refine (inInt_any g g P a1 0 x.sq a2 0 _ hin1 i2).mono ?_
  rintro _ wd ⟨rfl, _, fd⟩
  have frd := (frb.trans fc (fun k hk e => by have e' : k = g := e; omega)).trans fd (fun k hk e => by have e' : k = g := e; omega)
  clear hin0 hin1 fc fd frb i1 i2
  have hrld := hrl.fr frd (fun _ _ e => e)
  go_wp2_with (fail)
  refine (gen_any _ nl cl Al l _ hnl hrld hlc hlc' hok').mono ?_
  rintro _ we ⟨x2, rfl, x2by, x2sq, _, _, _, _, fe⟩
  have hbe : (x.by_ == x2.by_) = true := by rw [Xb.out, x2by]; simp
  have hse : (x.sq == x2.sq) = true := by rw [Xs.out, x2sq]; simp
  have fre := frd.trans fe (fun _ _ e => e)
  have honee := one_cells x2
  have hze := Blk.new we 35 OpL.zero.cells
  clear x2by x2sq frd fe hrld
  go_upto_region 13 with (first | (refine wpList_store_new rfl 35 (.tmp 16) (.tmp 55) rfl rfl rfl rfl hze hi rfl honee ?_; intro wf hbf hff hsf))
  have frf := (fre.alloc (.cells OpL.zero.cells 35)).trans hff (fun k hk e => by have := fre.size; have e' : k = we.heap.size := e; omega)
  have d0 : wf.cell? ⟨we.heap.size, 0, none⟩ = some (.int .i64 x2.by_) := hbf.cell 0
  have d1 : wf.cell? ⟨we.heap.size, 1, none⟩ = some (.int .i64 x2.sq) := hbf.cell 1
  clear hze hff hsf fre hbf
  go_wp2_with (fail)
  refine (lives11_any _ (hk.fr frf)).mono ?_
  rintro _ wg ⟨rfl, fg⟩
  go_wp2
  go_ret
  exact ⟨rfl, frf.trans fg (fun _ _ e => e)⟩
end Oq
end Go.Proofs.YthmlaigpdpdpjaaDoor
