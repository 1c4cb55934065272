/-
  op.Same; bytes.Equal; what a right form says of an operation's numbers.
  Conditions: as each theorem says.
-/
import Derived.Test.YtahcddlgghipjaaGreatDoorOpChk
import Derived.Test.YtahcddlgghipjaaGreatDoorOpPutB
import Derived.Test.YtahcddlgghipjaaGreatDoorRefPut2
namespace Go.Proofs.YtahcddlgghipjaaGreatDoor
open Go.RowKit
attribute [local go_sem ↓] Go.wp_at_zero Go.wp_at_succ
namespace Oq
attribute [local go_sem ↓] loadAt_op

theorem inR_of {n lo hi : Int} (h : inR n lo hi = true) : lo ≤ n ∧ n ≤ hi := by unfold inR at h; simpa using h
theorem pub_of {n : Nat} (h : pubOk n = true) : 1 ≤ n ∧ n < FP := by unfold pubOk at h; simpa using h
theorem f_of {n : Nat} (h : fOk n = true) : n < FP := by unfold fOk at h; simpa using h
theorem FP_lt : FP < 18446744073709551616 := by unfold FP; decide
theorem U64.of {n : Nat} (h : n < FP) : U64 n := Nat.lt_trans h FP_lt
theorem Id.named_of {x : Id} (h : x.named = true) : (1 ≤ x.b ∧ x.b ≤ 12) ∧ (1 ≤ x.s ∧ x.s ≤ 2147483647) ∧ x.u < FP := by
  unfold Id.named at h
  rw [Bool.and_eq_true, Bool.and_eq_true] at h
  exact ⟨inR_of h.1.1, inR_of h.1.2, f_of h.2⟩
theorem Id.named_ok {x : Id} (h : x.named = true) : x.ok := by
  obtain ⟨h1, h2, h3⟩ := Id.named_of h
  exact ⟨⟨by omega, by omega⟩, ⟨by omega, by omega⟩, U64.of h3⟩
theorem Bx.may_ok {x : Bx} (h : x.may = true) : x.ok := by
  unfold Bx.may at h
  rw [Bool.and_eq_true, Bool.and_eq_true, Bool.and_eq_true] at h
  exact ⟨U64.of (pub_of h.1.1.1).2, U64.of (pub_of h.1.1.2).2, U64.of (f_of h.1.2), U64.of (f_of h.2)⟩
theorem Id.zero_of {x : Id} (h : Id.eq x Id.zero = true) : x.ok := by
  rw [(Id.eq_iff _ _).1 h]
  exact ⟨⟨by decide, by decide⟩, ⟨by decide, by decide⟩, by show (0 : Nat) < _; decide⟩

/-- bytes.Equal. -/
theorem bytesEq_any (B n c B' n' c' : Nat) (A A' : Option Addr) (X Y : List UInt8) (w : World) (hx : Rd w B 1 A n (X.map Bv)) (hy : Rd w B' 1 A' n' (Y.map Bv)) :
    Calls Tryz.prog 74 #[.slice A n c, .slice A' n' c'] w fun e w' => e = .returned (.bool (X == Y)) ∧ w = w' := by
  have q1 := run_str 28 5 9 Tryz.underlying28 Tryz.underlying5 Tryz.underlying9 w B A n c X hx
  have q2 := run_str 28 5 9 Tryz.underlying28 Tryz.underlying5 Tryz.underlying9 w B' A' n' c' Y hy
  go_enter Tryz.func74, Tryz.ntmps74
  go_wp2
  go_ret
  refine ⟨congrArg (fun z => Ending.returned (.bool z)) ?_, rfl⟩
  rw [str_toList, str_toList]

set_option maxRecDepth 100000 in
set_option maxHeartbeats 2000000 in
theorem same_any (x y : OpL) (w : World) (hx : x.at w w.heap.size) (hxo : x.op.ok) (hy : y.at w w.heap.size) (hyo : y.op.ok) : Calls Tryz.prog 30 #[.agg x.cells, .agg y.cells] w (BoolPost (x.op.put == y.op.put) w) := by
  have hsx : x.cells.size = 27 := rfl
  have hsy : y.cells.size = 27 := rfl
  have hf0 : Fr Non w ((w.alloc (.cells x.cells 35)).alloc (.cells y.cells 35)).drew := (((Fr.refl Non w).alloc _).alloc _).drew
  have hb0 : Blk ((w.alloc (.cells x.cells 35)).alloc (.cells y.cells 35)).drew w.heap.size 35 x.cells := ((Blk.new w 35 x.cells).alloc _).drew
  have hb1 : Blk ((w.alloc (.cells x.cells 35)).alloc (.cells y.cells 35)).drew (w.heap.size + 1) 35 y.cells := by
    have := (Blk.new (w.alloc (.cells x.cells 35)) 35 y.cells).drew
    rwa [World.size_alloc] at this
  have hx0 := OpL.frame hx hf0
  have hy0 := OpL.frame hy hf0
  have kx := Lib.hid (fun w' (h : x.at w' w'.heap.size) => put_any x w' h hxo)
  have ky := Lib.hid (fun w' (h : y.at w' w'.heap.size) => put_any y w' h hyo)
  obtain ⟨CX, hCX⟩ := hid_ex x.cells
  obtain ⟨CY, hCY⟩ := hid_ex y.cells
  rw [hCX.out, hCY.out] at hf0 hb0 hb1 hx0 hy0
  rw [hCX.out] at kx hsx
  rw [hCY.out] at ky hsy
  rw [hCX.out, hCY.out]
  obtain ⟨X, hX⟩ := hid_ex x.op.put
  obtain ⟨Y, hY⟩ := hid_ex y.op.put
  rw [hX.out] at kx
  rw [hY.out] at ky
  rw [hX.out, hY.out]
  clear hx hy hxo hyo
  have hix : (Tryz.prog.info? 35).map (·.size) = some CX.size := by rw [hsx]; kernel_rfl
  have hiy : (Tryz.prog.info? 35).map (·.size) = some CY.size := by rw [hsy]; kernel_rfl
  have hlx := ldS_blk (P := Tryz.prog) w.heap.size 35 Tryz.underlying35 rfl hix
  have hly := ldS_blk (P := Tryz.prog) (w.heap.size + 1) 35 Tryz.underlying35 rfl hiy
  go_enter Tryz.func30, Tryz.ntmps30
  go_upto_region 1 with (fail)
  generalize (w.alloc (.cells CX 35)).alloc (.cells CY 35) = w0 at *
  go_region_held (fun w' => Blk w' w.heap.size 35 CX ∧ Blk w' (w.heap.size + 1) 35 CY) ((and_intros <;> assumption)) (first
    | (go_at_call 29; (with_reducible refine (kx.out _ hx0).mono ?_); rintro _ w1 ⟨A1, c1, rfl, hown1, hf1⟩; have hbx1 := hb0.fr hf1 (fun e => e); have hby1 := hb1.fr hf1 (fun e => e); have hy1 := OpL.frame hy0 hf1)
    | (go_at_call 29; (with_reducible refine (ky.out _ hy1).mono ?_); rintro _ w2 ⟨A2, c2, rfl, hown2, hf2⟩; have hbx2 := hbx1.fr hf2 (fun e => e); have hby2 := hby1.fr hf2 (fun e => e); have r1 := (hown1.fr hf2 (fun _ _ e => e)).rd; have r2 := hown2.rd)
    | (go_at_call 74; (with_reducible refine (bytesEq_any _ _ _ _ _ _ _ _ X Y _ r1 r2).mono ?_); rintro _ _ ⟨rfl, rfl⟩))
  all_goals
    go_wp2
    go_ret
    exact ⟨rfl, (hf0.trans hf1 (fun _ _ e => e)).trans hf2 (fun _ _ e => e)⟩
end Oq
end Go.Proofs.YtahcddlgghipjaaGreatDoor
