/-
  huddlelaw11.lives: the document's example.
  Conditions: the package variable op.kinds lies as its text lays it.
-/
import Derived.Test.YtahcddlgghipjaaGreatDoorGen6
import Derived.Test.YtahcddlgghipjaaGreatDoorOpOk
import Derived.Test.YtahcddlgghipjaaGreatDoorKinds
import Derived.Test.YtahcddlgghipjaaGreatDoorOpGet4
namespace Go.Proofs.YtahcddlgghipjaaGreatDoor
open Go.RowKit
attribute [local go_sem ↓] Go.wp_at_zero Go.wp_at_succ
namespace Oq
attribute [local go_sem ↓] loadAt_op
attribute [local go_sem] Bool.not_false Bool.not_true

theorem zero_U64 : U64 0 := by show (0 : Nat) < _; decide
theorem gen_ok {x : OpL} (h : x.op.chk = 0) (hr : x.r = 0) (hs : x.s = 0) : x.op.ok :=
  ok_of_chk h (by show U64 x.r; rw [hr]; exact zero_U64) (by show U64 x.s; rw [hs]; exact zero_U64)
theorem wpList_store_new {P : Program} {ops : Array Oper} {rest : List Oper} {o : Oper} {a : Act} {Q : Exit → Act → World → Prop} {w : World} (hg : o.guard = none) (t : TypeId) (p v : Operand) (hop : o.op = Op.store t p v) (hdst : o.dst = none) {g : Nat} {t' : TypeId} {old cs : Array Value}
    (hp : a.eval p = .pointer (some ⟨g, 0, none⟩)) (hv : a.eval v = .agg cs) (hb : Blk w g t' old) (hi : (P.info? t).map (·.size) = some cs.size) (ho : old.size = cs.size) (h1 : cs.all (·.oneCell') = true)
    (hK : ∀ w2, Blk w2 g t' cs → Fr (One g) w w2 → w2.heap.size = w.heap.size → wpList P ops Q rest a w2) : wpList P ops Q (o :: rest) a w :=
  wpList_store_row hg t p v hop hdst hp hv hb hi ho h1 (hK _ hb.setRow ((Fr.refl (One g) w).setRow (fun _ => rfl) cs) (setRow_size w g cs))
theorem one_cells (x : OpL) : x.cells.all (·.oneCell') = true := by unfold OpL.cells; simp [Value.oneCell']

set_option maxRecDepth 100000 in
set_option maxHeartbeats 4000000 in
theorem lives11_any (w : World) (hk : KindsAt w) : Calls Tryz.prog 11 #[] w (BoolPost true w) := by
  have hi : (Tryz.prog.info? 35).map (·.size) = some 27 := by kernel_rfl
  go_enter Tryz.func11, Tryz.ntmps11
  go_wp2_with (fail)
  have hr0 : Rd (w.alloc (.cells #[.int .i64 7, .int .i64 1, .int .i64 2, .int .i64 3] 3)) (w.alloc (.cells #[.int .i64 7, .int .i64 1, .int .i64 2, .int .i64 3] 3)).heap.size 1 (some ⟨w.heap.size, 0, none⟩) 4 ([7, 1, 2, 3].map Iv) :=
    Rd.blk (Blk.new w 3 #[.int .i64 7, .int .i64 1, .int .i64 2, .int .i64 3]) rfl
  refine (gen_any _ 4 4 _ [7, 1, 2, 3] _ rfl hr0 (by omega) (by omega) (by intro x hx; simp at hx; rcases hx with rfl | rfl | rfl | rfl <;> exact ⟨by decide, by decide⟩)).mono ?_
  rintro _ w1 ⟨x, rfl, -, -, xchk, xr, xs, xown, f1⟩
  have xok := gen_ok xchk xr xs
  have fr1 : Fr Non w w1 := ((Fr.refl Non w).alloc (.cells #[.int .i64 7, .int .i64 1, .int .i64 2, .int .i64 3] 3)).trans f1 (fun _ _ e => e)
  have xat := xown.at
  have hone := one_cells x
  clear xchk xr xs xown f1 hr0
  have hb1 := Blk.new w1 35 OpL.zero.cells
  have hlx := ldS_blk (P := Tryz.prog) (cs := x.cells) w1.heap.size 35 Tryz.underlying35 rfl hi
  have hplen : x.op.put.length ≤ 1099511627776 := by
    have h1 := Op.bare_len x.op xok
    have h2 := Pk.num_len x.op.r
    have h3 := Pk.num_len x.op.s
    unfold Op.put
    rw [List.length_append, List.length_append]
    omega
  have hg := Lib.hid (get_put xok.okR)
  go_upto_region 2 with (first | (refine wpList_store_new rfl 35 (.tmp 1) (.tmp 6) rfl rfl rfl rfl hb1 hi rfl hone ?_; intro w2 hb2 hf2 hs2))
  have fr2 := (fr1.alloc (.cells OpL.zero.cells 35)).trans hf2 (fun k hk e => by have := fr1.size; have e' : k = w1.heap.size := e; omega)
  have fx2 : Fr Non w1 w2 := ((Fr.refl Non w1).alloc (.cells OpL.zero.cells 35)).trans hf2 (fun k hk e => by have e' : k = w1.heap.size := e; omega)
  have xat2 := OpL.frame xat fx2
  clear hb1 hf2 hs2 fr1 xat
  generalize w1.heap.size = g1 at *
  have tok1 : True := trivial
  go_wp2_with (first | (have _t := tok1; refine wpList_load_row rfl 35 (.tmp 1) rfl rfl hb2 Tryz.underlying35 rfl hi ?_; clear tok1 _t))
  refine (put_any x _ xat2 xok).mono ?_
  rintro _ w3 ⟨A3, c3, rfl, own3, f3⟩
  go_wp2_with (fail)
  refine (opGet_any _ _ c3 A3 x.op.put _ rfl own3.rd hplen).mono ?_
  rintro _ w4 ⟨y, hy, rfl, yown, f4⟩
  rw [hg.out] at hy ⊢
  have yat := yown.at
  have yok : y.op.ok := by rw [hy]; exact xok
  have hyx := Lib.hid hy
  have hone2 := one_cells y
  have f24 := f3.trans f4 (fun _ _ e => e)
  have fr4 := fr2.trans f24 (fun _ _ e => e)
  have xat4 := OpL.frame xat2 f24
  have hb4 := hb2.fr f24 (fun e => e)
  clear hy yown own3 f3 f4 fr2 xat2 hb2 fx2 f24
  have hn4 := Blk.new w4 35 OpL.zero.cells
  have hg1 := hb4.lt
  go_upto_region 3 with (first | (refine wpList_store_new rfl 35 (.tmp 2) (.tmp 11) rfl rfl rfl rfl hn4 hi rfl hone2 ?_; intro w5 hb5 hf5 hs5))
  have fx5 : Fr Non w4 w5 := ((Fr.refl Non w4).alloc (.cells OpL.zero.cells 35)).trans hf5 (fun k hk e => by have e' : k = w4.heap.size := e; omega)
  have fr5 := fr4.trans fx5 (fun _ _ e => e)
  have xat5 := OpL.frame xat4 fx5
  have yat5 := OpL.frame yat fx5
  have hx5 := hb4.fr fx5 (fun e => e)
  have hly := ldS_blk (P := Tryz.prog) (cs := y.cells) w4.heap.size 35 Tryz.underlying35 rfl hi
  clear hn4 hf5 hs5 hb4 xat4 yat fr4 fx5
  generalize w4.heap.size = g2 at *
  go_upto_region 4 with (fail)
  have fr6 := fr5.alloc (.cells #[.int .i64 1, .int .i64 5, .int .u64 9] 27)
  have xat6 := OpL.frame xat5 ((Fr.refl Non w5).alloc (.cells #[.int .i64 1, .int .i64 5, .int .u64 9] 27))
  have yat6 := OpL.frame yat5 ((Fr.refl Non w5).alloc (.cells #[.int .i64 1, .int .i64 5, .int .u64 9] 27))
  have hx6 := hx5.alloc (.cells #[.int .i64 1, .int .i64 5, .int .u64 9] 27)
  have hy6 := hb5.alloc (.cells #[.int .i64 1, .int .i64 5, .int .u64 9] 27)
  have hi6 := Blk.new w5 27 #[.int .i64 1, .int .i64 5, .int .u64 9]
  clear fr5 xat5 yat5 hx5 hb5
  generalize w5.alloc (.cells #[.int .i64 1, .int .i64 5, .int .u64 9] 27) = w6 at *
  generalize w5.heap.size = gi at *
  have hs : (y.op.put == x.op.put) = true := by rw [hyx.out]; simp
  have hs' := Lib.hid hs
  clear hs
  have l1 : Hid (Id.less ⟨1, 5, 9⟩ ⟨2, 1, 1⟩ = true) := by show _ = _; decide
  have l2 : Hid (Id.less ⟨1, 5, 9⟩ ⟨1, 5, 10⟩ = true) := by show _ = _; decide
  have m1 : Hid (commit ((4 : Nat) : Int) = true) := by show _ = _; decide
  have m2 : Hid (commit ((6 : Nat) : Int) = false) := by show _ = _; decide
  go_wp2_with (fail)
  refine (same_any y x _ yat6 yok xat6 xok).mono ?_
  rw [hs'.out]
  rintro _ w7 ⟨rfl, f7⟩
  have hi7 := hi6.fr f7 (fun e => e)
  have i0 := hi7.cell 0
  have i1 := hi7.cell 1
  have i2 := hi7.cell 2
  have fr7 := fr6.trans f7 (fun _ _ e => e)
  clear hlx hly hx6 hy6 xat6 yat6 hi6 fr6 f7
  go_wp2_with (fail)
  refine (opless_any ⟨1, 5, 9⟩ ⟨2, 1, 1⟩ _).mono ?_
  rw [l1.out]
  rintro _ w8 ⟨rfl, f8⟩
  have hi8 := hi7.fr f8 (fun e => e)
  have i0 := hi8.cell 0
  have i1 := hi8.cell 1
  have i2 := hi8.cell 2
  have fr8 := fr7.trans f8 (fun _ _ e => e)
  go_wp2_with (fail)
  refine (opless_any ⟨1, 5, 9⟩ ⟨1, 5, 10⟩ _).mono ?_
  rw [l2.out]
  rintro _ w9 ⟨rfl, f9⟩
  have fr9 := fr8.trans f9 (fun _ _ e => e)
  go_wp2_with (fail)
  refine (opcommit_in 4 _ (hk.fr fr9) (by omega) (by omega)).mono ?_
  rw [m1.out]
  rintro _ _ ⟨rfl, rfl⟩
  go_wp2_with (fail)
  refine (opcommit_in 6 _ (hk.fr fr9) (by omega) (by omega)).mono ?_
  rw [m2.out]
  rintro _ _ ⟨rfl, rfl⟩
  go_wp2
  go_ret
  exact ⟨rfl, fr9⟩
end Oq
end Go.Proofs.YtahcddlgghipjaaGreatDoor
