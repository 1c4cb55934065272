/-
  The reference of layer 11: Put, SameOp.
  Conditions: the operation reads below the heap's size; numbers are of their kinds; lists are not too long.
-/
import Derived.Test.YthmlaigpdpdpjaaGreatDoorRefBytes
import Derived.Test.YthmlaigpdpdpjaaGreatDoorRowOps
import Derived.Deep.RegionHeld3
namespace Go.Proofs.YthmlaigpdpdpjaaGreatDoor
open Go.RowKit
attribute [local go_sem ↓] Go.wp_at_zero Go.wp_at_succ
namespace Oq
attribute [local go_sem ↓] loadAt_op

theorem two_flat (a b : Nat) : [a, b].flatMap Pk.num = Pk.num a ++ Pk.num b := by simp [List.flatMap_cons]
theorem two_nums (a b : Nat) (ha : U64 a) (hb : U64 b) (w : World) (k : Nat) (h : Blk w k 25 #[.int .u64 (a : Int), .int .u64 (b : Int)]) : Calls Tryz.prog 43 #[.slice (some ⟨k, 0, none⟩) 2 2] w (NewB w (Pk.num a ++ Pk.num b)) := by
  rw [← two_flat]
  exact nums11_any w.heap.size 2 2 _ [a, b] _ rfl (Uv_blk h 2 rfl) (all2 ha hb) (by omega)

set_option maxRecDepth 100000 in
set_option maxHeartbeats 2000000 in
theorem put11_any (x : OpL) (w : World) (hat : x.at w w.heap.size) (hok : x.op.ok) : Calls Tryz.prog 14 #[.agg x.cells] w (NewB w x.op.put) := by
  have hsz : x.cells.size = 27 := rfl
  have hb0 := Blk.new w 35 x.cells
  have hat0 := (hat.fr ((Fr.refl Non w).alloc (.cells x.cells 35)) (fun _ _ e => e)).mono (B' := (w.alloc (.cells x.cells 35)).heap.size) (by simp)
  have hf0 := (Fr.refl Non w).alloc (.cells x.cells 35)
  have hatd := hat0
  have k1 := Lib.hid (fun w' (h : x.at w' w'.heap.size) => bytes11_any x w' h hok)
  have lb := Op.bare_len x.op hok
  have okr : U64 x.r := hok.r
  have oks : U64 x.s := hok.s
  have eput : Hid (x.op.put = x.op.bare ++ (Pk.num x.r ++ Pk.num x.s)) := by show _ = _; rw [← List.append_assoc]; rfl
  obtain ⟨CS, hCS⟩ := hid_ex x.cells
  have e25 : Hid (CS[25]? = some (.int .u64 (x.r : Int))) := by show _ = _; rw [← hCS.out]; rfl
  have e26 : Hid (CS[26]? = some (.int .u64 (x.s : Int))) := by show _ = _; rw [← hCS.out]; rfl
  rw [hCS.out] at hsz hb0 k1 hf0 hatd
  rw [hCS.out]
  obtain ⟨D, hD⟩ := hid_ex x.op.bare
  obtain ⟨E, hE⟩ := hid_ex x.op.put
  rw [hD.out] at k1 lb eput
  rw [hE.out] at eput
  rw [hE.out]
  have lr := Pk.num_len x.r
  have ls := Pk.num_len x.s
  have k2 := Lib.hid (fun w k h => two_nums x.r x.s okr oks w k h)
  have lX : (Pk.num x.r ++ Pk.num x.s).length ≤ 20 := by rw [List.length_append]; omega
  obtain ⟨X, hX⟩ := hid_ex (Pk.num x.r ++ Pk.num x.s)
  rw [hX.out] at k2 lX eput
  clear hD hE hok hat hat0
  have hi : (Tryz.prog.info? 35).map (·.size) = some CS.size := by rw [hsz]; kernel_rfl
  go_enter Tryz.func14, Tryz.ntmps14
  go_upto_region 1 with (fail)
  generalize w.alloc (.cells CS 35) = w0 at *
  have hbd : Blk w0.drew w.heap.size 35 CS := hb0
  have c25 : w0.drew.cell? ⟨w.heap.size, 25, none⟩ = some (.int .u64 (x.r : Int)) := (hbd.cell 25).trans e25.out
  have c26 : w0.drew.cell? ⟨w.heap.size, 26, none⟩ = some (.int .u64 (x.s : Int)) := (hbd.cell 26).trans e26.out
  have hl := ldS_blk (P := Tryz.prog) w.heap.size 35 Tryz.underlying35 rfl hi
  have n25 := World.new_ne w0 ⟨w.heap.size, 25, none⟩ (show w0.cell? _ = _ from c25)
  have n26 := World.new_ne w0 ⟨w.heap.size, 26, none⟩ (show w0.cell? _ = _ from c26)
  have hfB : Fr Non w0.drew (w0.alloc (.cells #[.int .u64 (x.r : Int), .int .u64 (x.s : Int)] 25)).drew := (Fr.refl Non w0.drew).alloc (.cells #[.int .u64 (x.r : Int), .int .u64 (x.s : Int)] 25)
  have cB25 := hfB.cell c25 (fun e => e)
  have cB26 := hfB.cell c26 (fun e => e)
  have hatA : x.at w0.drew w0.drew.heap.size := hatd.fr (S := Non) (Fr.drew (Fr.refl _ _)) (fun _ _ e => e)
  have hatB : x.at (w0.alloc (.cells #[.int .u64 (x.r : Int), .int .u64 (x.s : Int)] 25)).drew (w0.alloc (.cells #[.int .u64 (x.r : Int), .int .u64 (x.s : Int)] 25)).drew.heap.size := (hatA.fr hfB (fun _ _ e => e)).mono hfB.size
  have hsB : Blk (w0.alloc (.cells #[.int .u64 (x.r : Int), .int .u64 (x.s : Int)] 25)).drew w0.heap.size 25 #[.int .u64 (x.r : Int), .int .u64 (x.s : Int)] := (Blk.new w0 25 _).drew
  go_region_held3 (fun w' => Blk w' w.heap.size 35 CS ∧ w'.cell? ⟨w.heap.size, 25, none⟩ = some (.int .u64 (x.r : Int)) ∧ w'.cell? ⟨w.heap.size, 26, none⟩ = some (.int .u64 (x.s : Int))) ((and_intros <;> first | assumption | exact Blk.alloc (by assumption) _ | go_keep)) (first
    | (go_at_call 25; (with_reducible refine (k1.out w0.drew hatA).mono ?_); rintro _ w1 ⟨A1, c1, rfl, hown1, hf1⟩; have d25 := hf1.cell c25 (fun e => e); have d26 := hf1.cell c26 (fun e => e); have hb1 := hbd.fr hf1 (fun e => e); have n25' := World.new_ne w1 ⟨w.heap.size, 25, none⟩ d25; have n26' := World.new_ne w1 ⟨w.heap.size, 26, none⟩ d26; have hac1 := Acc.of_new hown1 hf1 lb; have fin := Fr.refl Non w0.drew)
    | (go_at_call 25; (with_reducible refine (k1.out _ hatB).mono ?_); rintro _ w1 ⟨A1, c1, rfl, hown1, hf1⟩; have d25 := (hfB.trans hf1 (fun _ _ e => e)).cell c25 (fun e => e); have d26 := (hfB.trans hf1 (fun _ _ e => e)).cell c26 (fun e => e); have hb1 := hbd.fr (hfB.trans hf1 (fun _ _ e => e)) (fun e => e); have hs1 := hsB.fr hf1 (fun e => e); have hac1 := Acc.of_new hown1 hf1 lb; have fin := hfB)
    | (go_at_call 43; (with_reducible refine (k2.out _ _ hs1).mono ?_); rintro _ w2 ⟨A2, c2, rfl, hown2, hf2⟩; have hac2 := hac1.step hf2; have hb2 := hb1.fr hf2 (fun e => e); have m25 := hf2.cell d25 (fun e => e); have m26 := hf2.cell d26 (fun e => e); have z := (Fr.refl Non w0.drew))
    | (go_at_call 43; (with_reducible refine (k2.out _ _ (Blk.new w1 25 _)).mono ?_); rintro _ w2 ⟨A2, c2, rfl, hown2, hf2⟩; have hac2 := (hac1.step ((Fr.refl _ _).alloc _)).step hf2; have hg2 := ((Fr.refl Non w1).alloc (.cells #[.int .u64 (x.r : Int), .int .u64 (x.s : Int)] 25)).trans hf2 (fun _ _ e => e); have hb2 := hb1.fr hg2 (fun e => e); have m25 := hg2.cell d25 (fun e => e); have m26 := hg2.cell d26 (fun e => e))
    | ((refine step_acc (.tmp 4) (.tmp 12) 28 (by rfl) (by rfl) 20 (by rfl) (by rfl) slB hac2 hown2 lX (by omega) ?_; intro A3 c3 L3 w3 hac3 hf3; have hff3 := fin.trans hf3 (fun _ _ e => e); have hb3 := hbd.fr hff3 (fun e => e); have z25 := hff3.cell c25 (fun e => e); have z26 := hff3.cell c26 (fun e => e))))
  all_goals
    go_wp2
    go_ret
    exact hac3.post ((hf0.drew).trans fin (fun _ _ e => e)) eput.out

theorem ba_loop (bs : ByteArray) : ∀ (n i : Nat) (r : List UInt8), bs.size - i = n → ByteArray.toList.loop bs i r = r.reverse ++ bs.data.toList.drop i := by
  intro n
  induction n with
  | zero =>
    intro i r h
    rw [ByteArray.toList.loop, if_neg (by omega), List.drop_of_length_le (by show bs.data.size ≤ i; have : bs.size = bs.data.size := rfl; omega), List.append_nil]
  | succ n ih =>
    intro i r h
    have hs : bs.size = bs.data.size := rfl
    have hi : i < bs.data.toList.length := by rw [Array.length_toList]; omega
    rw [ByteArray.toList.loop, if_pos (by omega), ih (i + 1) _ (by omega), List.drop_eq_getElem_cons hi]
    have : bs.get! i = bs.data.toList[i] := by
      show bs.data[i]! = _
      rw [getElem!_pos bs.data i (by omega)]
      simp
    rw [this]
    simp
theorem ba_list (bs : ByteArray) : bs.toList = bs.data.toList := by
  unfold ByteArray.toList
  rw [ba_loop bs _ 0 [] rfl]
  simp
theorem str_toList (bs : List UInt8) : (str bs).toList = bs := by rw [ba_list]; rfl
theorem OpL.frame {x : OpL} {w w' : World} (h : x.at w w.heap.size) (hf : Fr Non w w') : x.at w' w'.heap.size := (h.fr hf (fun _ _ e => e)).mono hf.size

set_option maxRecDepth 100000 in
set_option maxHeartbeats 2000000 in
theorem sameop_any (x y : OpL) (w : World) (hx : x.at w w.heap.size) (hxo : x.op.ok) (hy : y.at w w.heap.size) (hyo : y.op.ok) : Calls Tryz.prog 20 #[.agg x.cells, .agg y.cells] w (BoolPost (x.op.put == y.op.put) w) := by
  have hsx : x.cells.size = 27 := rfl
  have hsy : y.cells.size = 27 := rfl
  have hf0 : Fr Non w ((w.alloc (.cells x.cells 35)).alloc (.cells y.cells 35)).drew := (((Fr.refl Non w).alloc _).alloc _).drew
  have hb0 : Blk ((w.alloc (.cells x.cells 35)).alloc (.cells y.cells 35)).drew w.heap.size 35 x.cells := ((Blk.new w 35 x.cells).alloc _).drew
  have hb1 : Blk ((w.alloc (.cells x.cells 35)).alloc (.cells y.cells 35)).drew (w.heap.size + 1) 35 y.cells := by
    have := (Blk.new (w.alloc (.cells x.cells 35)) 35 y.cells).drew
    rwa [World.size_alloc] at this
  have hx0 := OpL.frame hx hf0
  have hy0 := OpL.frame hy hf0
  have kx := Lib.hid (fun w' (h : x.at w' w'.heap.size) => put11_any x w' h hxo)
  have ky := Lib.hid (fun w' (h : y.at w' w'.heap.size) => put11_any y w' h hyo)
  obtain ⟨CX, hCX⟩ := hid_ex x.cells
  obtain ⟨CY, hCY⟩ := hid_ex y.cells
  rw [hCX.out, hCY.out] at hf0 hb0 hb1 hx0 hy0
  rw [hCX.out] at kx hsx
  rw [hCY.out] at ky hsy
  rw [hCX.out, hCY.out]
  obtain ⟨X, hX⟩ := hid_ex x.op.put
  obtain ⟨Y, hY⟩ := hid_ex y.op.put
  rw [hX.out] at kx
  rw [hY.out] at ky
  rw [hX.out, hY.out]
  clear hx hy hxo hyo
  have hix : (Tryz.prog.info? 35).map (·.size) = some CX.size := by rw [hsx]; kernel_rfl
  have hiy : (Tryz.prog.info? 35).map (·.size) = some CY.size := by rw [hsy]; kernel_rfl
  have hlx := ldS_blk (P := Tryz.prog) w.heap.size 35 Tryz.underlying35 rfl hix
  have hly := ldS_blk (P := Tryz.prog) (w.heap.size + 1) 35 Tryz.underlying35 rfl hiy
  go_enter Tryz.func20, Tryz.ntmps20
  go_upto_region 1 with (fail)
  generalize (w.alloc (.cells CX 35)).alloc (.cells CY 35) = w0 at *
  go_region_held (fun w' => Blk w' w.heap.size 35 CX ∧ Blk w' (w.heap.size + 1) 35 CY) ((and_intros <;> assumption)) (first
    | (go_at_call 14; (with_reducible refine (kx.out _ hx0).mono ?_); rintro _ w1 ⟨A1, c1, rfl, hown1, hf1⟩; have hbx1 := hb0.fr hf1 (fun e => e); have hby1 := hb1.fr hf1 (fun e => e); have q1 := str_own hown1; have hy1 := OpL.frame hy0 hf1)
    | (go_at_call 14; (with_reducible refine (ky.out _ hy1).mono ?_); rintro _ w2 ⟨A2, c2, rfl, hown2, hf2⟩; have hbx2 := hbx1.fr hf2 (fun e => e); have hby2 := hby1.fr hf2 (fun e => e); have q1 := str_own (hown1.fr hf2 (fun _ _ e => e)); have q2 := str_own hown2))
  all_goals
    go_wp2
    go_ret
    refine ⟨congrArg (fun z => Ending.returned (.bool z)) ?_, (hf0.trans hf1 (fun _ _ e => e)).trans hf2 (fun _ _ e => e)⟩
    rw [str_toList, str_toList]
end Oq
end Go.Proofs.YthmlaigpdpdpjaaGreatDoor
