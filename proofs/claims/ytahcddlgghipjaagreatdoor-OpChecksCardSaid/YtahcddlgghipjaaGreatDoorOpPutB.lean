/-
  op.Put.
-/
import Derived.Test.YtahcddlgghipjaaGreatDoorOpBare
import Derived.Test.YtahcddlgghipjaaGreatDoorRowOps
namespace Go.Proofs.YtahcddlgghipjaaGreatDoor
open Go.RowKit
attribute [local go_sem ↓] Go.wp_at_zero Go.wp_at_succ
namespace Oq
theorem Op.bare_len (o : Op) (h : o.ok) : o.bare.length ≤ 1100000000 := by
  have h1 := lst_le o.past (fun y _ => Id.bytes_len y)
  have h2 := lst_le o.path (fun y hy => Nd.bytes_len y (h.path.2 y hy))
  have h3 := lst_le o.refs (fun y _ => Pk.num_len y)
  have h4 := lst_le o.guards (fun y _ => Pk.int_len y)
  have h5 := lst_le o.boxes (fun y _ => Bx.bytes_len y)
  have h6 := lst_le o.hist (fun y hy => Sl.bytes_len y (h.hist.2 y hy).2)
  have h7 := Pk.text_len o.body
  have g1 := h.past.1
  have g2 := h.path.1
  have g3 := h.refs.1
  have g4 := h.guards.1
  have g5 := h.boxes.1
  have g6 := h.hist.1
  have g7 := h.body
  have i1 := Pk.int_len o.by_
  have i2 := Pk.int_len o.sq
  have i3 := Pk.int_len o.kind
  have i4 := Pk.int_len o.at_
  have i5 := Pk.int_len o.dev
  have i6 := Pk.int_len o.old
  have i7 := Pk.int_len o.mem
  have i8 := Pk.int_len o.role
  have i9 := Pk.int_len o.n
  have i10 := Pk.int_len o.need
  have i11 := Pk.int_len o.wait
  have i12 := Pk.num_len o.pub
  have i13 := Id.bytes_len o.epoch
  have i14 := Id.bytes_len o.of
  unfold Op.bare
  simp only [List.length_append]
  omega

set_option maxRecDepth 100000 in
set_option maxHeartbeats 1000000 in
theorem put_any (x : OpL) (w : World) (hat : x.at w w.heap.size) (hok : x.op.ok) : Calls Tryz.prog 29 #[.agg x.cells] w (NewB w x.op.put) := by
  have hsz : x.cells.size = 27 := rfl
  have hb0 := Blk.new w 35 x.cells
  have hat0 := (hat.fr ((Fr.refl Non w).alloc (.cells x.cells 35)) (fun _ _ e => e)).mono (B' := (w.alloc (.cells x.cells 35)).heap.size) (by simp)
  have hf0 := (Fr.refl Non w).alloc (.cells x.cells 35)
  have k1 := Lib.hid (bare_any x _ hat0 hok)
  have lb := Op.bare_len x.op hok
  have okr : U64 x.r := hok.r
  have oks : U64 x.s := hok.s
  have eput : Hid (x.op.put = x.op.bare ++ Pk.num x.r ++ Pk.num x.s) := rfl
  obtain ⟨D, hD⟩ := hid_ex x.op.bare
  obtain ⟨E, hE⟩ := hid_ex x.op.put
  rw [hD.out] at k1 lb eput
  rw [hE.out] at eput
  rw [hE.out]
  clear hD hE hok hat
  obtain ⟨CS, hCS⟩ := hid_ex x.cells
  have e25 : Hid (CS[25]? = some (.int .u64 (x.r : Int))) := by show _ = _; rw [← hCS.out]; rfl
  have e26 : Hid (CS[26]? = some (.int .u64 (x.s : Int))) := by show _ = _; rw [← hCS.out]; rfl
  rw [hCS.out] at hsz hb0 hat0 k1 hf0
  rw [hCS.out]
  go_enter Tryz.func29, Tryz.ntmps29
  have hi : (Tryz.prog.info? 35).map (·.size) = some CS.size := by rw [hsz]; kernel_rfl
  go_wp2_with (refine wpList_load_row rfl 35 (.tmp 1) rfl rfl hb0 Tryz.underlying35 rfl hi ?_)
  refine k1.out.mono ?_
  rintro _ w1 ⟨A1, c1, rfl, ho1, hf1⟩
  rw [World.size_alloc] at ho1
  rw [World.size_alloc]
  have hb1 := hb0.fr hf1 (fun e => e)
  have r25 := (hb1.cell 25).trans e25.out
  go_wp2_with (fail)
  refine (outNum_any _ _ A1 c1 _ x.r _ ho1 okr (by omega)).mono ?_
  rintro _ w2 ⟨rfl, A2, c2, ho2, hs2⟩
  have hb2 := hb1.fr hs2.fr (ho1.far hb1 (by decide) (by decide))
  have r26 := (hb2.cell 26).trans e26.out
  have lr := Pk.num_len x.r
  have ls := Pk.num_len x.s
  go_wp2_with (fail)
  refine (outNum_any _ _ A2 c2 _ x.s _ ho2 oks (by rw [List.length_append]; omega)).mono ?_
  rintro _ w3 ⟨rfl, A3, c3, ho3, hs3⟩
  have lE : E.length ≤ 1200000000 := by rw [eput.out]; simp only [List.length_append]; omega
  rw [← eput.out] at ho3
  go_wp2_with (fail)
  refine (outBytes_any _ _ A3 c3 _ _ ho3 (by omega)).mono ?_
  rintro _ w4 ⟨A4, c4, rfl, hown4, hf4⟩
  go_wp2
  go_ret
  have hff : Fr Non w w3 := ((hf0.trans hf1 (fun _ _ e => e)).trans (hs2.trans hs3).fr (fun k hk e => by
    rcases e with e | e
    · omega
    · have := (ho1.2.1.row k e).1; omega))
  have hz3 := hff.size
  exact ⟨A4, c4, rfl, hown4.lower hz3, hff.trans hf4 (fun _ _ e => e)⟩
end Oq
end Go.Proofs.YtahcddlgghipjaaGreatDoor
