/-
  op.Sign, op.Verify; huddleref11.Secret, huddleref11.Signed: what is signed, and whether it is.
  Conditions: the operation reads by its form.
-/
import Derived.Test.YthmlaigpdpdpjaaGreatDoorOpPutB
import Derived.Test.YthmlaigpdpdpjaaGreatDoorRefPut2
import Derived.Test.YthmlaigpdpdpjaaGreatDoorOpGet4
import Derived.Test.YthmlaigpdpdpjaaGreatDoorOpFew
import Derived.Test.YthmlaigpdpdpjaaGreatDoorOpLives
import Derived.Test.YthmlaigpdpdpjaaGreatDoorSignAll
import Derived.Deep.RegionHeld3
import Derived.Deep.DeepCutAuto
namespace Go.Proofs.YthmlaigpdpdpjaaGreatDoor
open Go.RowKit
attribute [local go_sem ↓] Go.wp_at_zero Go.wp_at_succ
namespace Oq
attribute [local go_sem ↓] loadAt_op
attribute [local go_sem] Bool.not_false Bool.not_true

theorem put_lit2 (l : List Value) (ds : List Deferred) (i : Nat) (v : Value) : (⟨l.toArray, ds⟩ : Act).put (some i) v = ⟨(l.set i v).toArray, ds⟩ := by simp [Act.put]
theorem wpAnyH_only2 {P : Program} {Q : Exit → Act → World → Prop} {ops : Array Oper} {md : Region.Mode} {S : World → Prop} {fuel : Nat} {listed : Array Bool} {a : Act} {w : World} (i : Nat) {o : Oper} (hr : Region.ready md ops listed = [i]) (ho : ops[i]? = some o)
    (hw : Region.wanted o (yielded ops a.tmps) = true)
    (h : ∀ K' : Act → World → Prop, Shut (∀ a w, S w → (S w → wpAnyH P md ops Q S fuel (listed.setIfInBounds i true) a w) → K' a w) → Oper.wp P o a w K' Q) :
    wpAnyH P md ops Q S (fuel + 1) listed a w :=
  wpAnyH_ready hr (by simp) (AllReadyH.cons ho (fun K' hK => by rw [if_pos hw]; exact h K' hK) AllReadyH.nil)

/-- A device's secret. -/
def sec (kind : List UInt8) (u : Nat) : Nat := Hs.secret kind [u]
theorem sec_lt (kind : List UInt8) (u : Nat) : sec kind u < 2305843009213693950 := Hs.secret_lt _ _
theorem secret11_any (kind : List UInt8) (d : Int) (u : Nat) (w : World) (hu : IntKind.u64.wrap d = (u : Int)) (hu' : u < 18446744073709551616) (hk : kind.length ≤ 1000) :
    Calls Tryz.prog 16 #[.string (str kind), .int .i64 d] w (PowPost (sec kind u) w) := by
  have hb := Blk.new w 25 #[.int .u64 (u : Int)]
  have hr : Rd (w.alloc (.cells #[.int .u64 (u : Int)] 25)) (w.alloc (.cells #[.int .u64 (u : Int)] 25)).heap.size 1 (some ⟨w.heap.size, 0, none⟩) 1 ([u].map Wv) := Rd.blk (n := 1) (size := 1) (l := [.int .u64 (u : Int)]) hb rfl
  have hf : Fr Non w (w.alloc (.cells #[.int .u64 (u : Int)] 25)) := (Fr.refl Non w).alloc _
  obtain ⟨st, hst⟩ := hid_ex (str kind)
  have k := Lib.hid (secret02_any kind [u] (some ⟨w.heap.size, 0, none⟩) 1 1 _ _ rfl (by omega) (by omega) hr (by simp; omega))
  rw [hst.out] at k ⊢
  go_enter Tryz.func16, Tryz.ntmps16
  go_wp2_with (fail)
  refine k.out.mono ?_
  rintro _ w1 ⟨rfl, f1⟩
  go_wp2
  go_ret
  exact ⟨rfl, hf.trans f1 (fun _ _ e => e)⟩

set_option maxRecDepth 100000 in
set_option maxHeartbeats 4000000 in
theorem verify_any (d m : Int) (ld kp sg : Nat) (x : OpL) (w : World) (hat : x.at w w.heap.size) (hok : x.op.ok) (hsg : sg < 18446744073709551616) :
    Calls Tryz.prog 23 #[.agg #[.int .i64 d, .int .i64 m, .int .u64 (ld : Int), .int .u64 (kp : Int), .int .u64 (sg : Int)], .agg x.cells] w (BoolPost ((x.by_ == d) && Sg.check sg x.op.bare x.r x.s) w) := by
  have hsz : x.cells.size = 27 := rfl
  obtain ⟨CS, hCS⟩ := hid_ex x.cells
  have e0 : Hid (CS[0]? = some (.int .i64 x.by_)) := by show _ = _; rw [← hCS.out]; rfl
  have e25 : Hid (CS[25]? = some (.int .u64 (x.r : Int))) := by show _ = _; rw [← hCS.out]; rfl
  have e26 : Hid (CS[26]? = some (.int .u64 (x.s : Int))) := by show _ = _; rw [← hCS.out]; rfl
  have bc0 : Blk ((w.alloc (.cells #[.int .i64 d, .int .i64 m, .int .u64 (ld : Int), .int .u64 (kp : Int), .int .u64 (sg : Int)] 62)).alloc (.cells x.cells 35)).drew w.heap.size 62 #[.int .i64 d, .int .i64 m, .int .u64 (ld : Int), .int .u64 (kp : Int), .int .u64 (sg : Int)] := ((Blk.new w 62 _).alloc _).drew
  have bx0 : Blk ((w.alloc (.cells #[.int .i64 d, .int .i64 m, .int .u64 (ld : Int), .int .u64 (kp : Int), .int .u64 (sg : Int)] 62)).alloc (.cells x.cells 35)).drew (w.heap.size + 1) 35 x.cells := by
    have := (Blk.new (w.alloc (.cells #[.int .i64 d, .int .i64 m, .int .u64 (ld : Int), .int .u64 (kp : Int), .int .u64 (sg : Int)] 62)) 35 x.cells).drew
    rwa [World.size_alloc] at this
  have fr0 : Fr Non w ((w.alloc (.cells #[.int .i64 d, .int .i64 m, .int .u64 (ld : Int), .int .u64 (kp : Int), .int .u64 (sg : Int)] 62)).alloc (.cells x.cells 35)).drew := (((Fr.refl Non w).alloc _).alloc _).drew
  have xd0 := OpL.frame hat fr0
  have kb := Lib.hid (fun w' (h : x.at w' w'.heap.size) => bare_any x w' h hok)
  have lb := Op.bare_len x.op hok
  have hr := hok.r
  have hs := hok.s
  have kc := Lib.hid (fun (A : Option Addr) (c : Nat) (w' : World) (B : Nat) (h : Own w' B 5 1 A x.op.bare.length c (x.op.bare.map Bv)) => check_any sg x.r x.s w'.heap.size x.op.bare.length c A x.op.bare w' hsg hr hs rfl h.cap.1 (by omega) (Nat.le_refl _) h.rd)
  obtain ⟨D, hD⟩ := hid_ex x.op.bare
  rw [hD.out] at kb lb kc
  rw [hD.out]
  rw [hCS.out] at hsz bx0 bc0 kb xd0 fr0
  rw [hCS.out]
  have hi : (Tryz.prog.info? 35).map (·.size) = some CS.size := by rw [hsz]; kernel_rfl
  have hl := ldS_blk (P := Tryz.prog) (w.heap.size + 1) 35 Tryz.underlying35 rfl hi
  obtain ⟨V, hV⟩ := hid_ex (Sg.check sg D x.r x.s)
  rw [hV.out] at kc ⊢
  unfold SigV at kc
  clear hat hok hr hs hD
  by_cases hd : x.by_ = d
  · have hb : (x.by_ == d) = true := by simp [hd]
    have hfin : Hid (((x.by_ == d) && V) = V) := by show _ = _; rw [hb]; simp
    rw [hfin.out]
    clear hd hfin
    go_enter Tryz.func23, Tryz.ntmps23
    go_upto_region 1 with (fail)
    generalize (w.alloc (.cells #[.int .i64 d, .int .i64 m, .int .u64 (ld : Int), .int .u64 (kp : Int), .int .u64 (sg : Int)] 62)).alloc (.cells CS 35) = w0 at *
    refine wp_region_held_drew (S := fun w' => Blk w' w.heap.size 62 #[.int .i64 d, .int .i64 m, .int .u64 (ld : Int), .int .u64 (kp : Int), .int .u64 (sg : Int)] ∧ Blk w' (w.heap.size + 1) 35 CS) (by kernel_rfl) ⟨bc0, bx0⟩ (fun _ => ?_)
    refine wpAnyH_take (i := 0) (v := ?_) rfl (by kernel_rfl) (by kernel_rfl) (by kernel_rfl) (fun _ _ _ h => h) (Or.inl ⟨by kernel_rfl, ?_⟩) ⟨bc0, bx0⟩ ?_
    rotate_left
    focus (intro w' hSw; have b1 := hSw.1; have b2 := hSw.2; go_simp; (try with_reducible rfl))
    try simp only [put_lit2, List.set]
    refine wpAnyH_take (i := 1) (v := ?_) rfl (by kernel_rfl) (by kernel_rfl) (by kernel_rfl) (fun _ _ _ h => h) (Or.inl ⟨by kernel_rfl, ?_⟩) ⟨bc0, bx0⟩ ?_
    rotate_left
    focus (intro w' hSw; have b1 := hSw.1; have b2 := hSw.2; have q : w'.cell? ⟨w.heap.size + 1, 0, none⟩ = some (.int .i64 x.by_) := (b2.cell 0).trans e0.out; go_simp; (try with_reducible rfl))
    try simp only [put_lit2, List.set]
    refine wpAnyH_take (i := 2) (v := ?_) rfl (by kernel_rfl) (by kernel_rfl) (by kernel_rfl) (fun _ _ _ h => h) (Or.inl ⟨by kernel_rfl, ?_⟩) ⟨bc0, bx0⟩ ?_
    rotate_left
    focus (intro w' hSw; have b1 := hSw.1; have b2 := hSw.2; go_simp; (try with_reducible rfl))
    try simp only [put_lit2, List.set]
    refine wpAnyH_take (i := 3) (v := ?_) rfl (by kernel_rfl) (by kernel_rfl) (by kernel_rfl) (fun _ _ _ h => h) (Or.inl ⟨by kernel_rfl, ?_⟩) ⟨bc0, bx0⟩ ?_
    rotate_left
    focus (intro w' hSw; have b1 := hSw.1; have b2 := hSw.2; have q : w'.cell? ⟨w.heap.size, 0, none⟩ = some (.int .i64 d) := b1.cell 0; go_simp; (try with_reducible rfl))
    try simp only [put_lit2, List.set]
    refine wpAnyH_take (i := 4) (v := ?_) rfl (by kernel_rfl) (by kernel_rfl) (by kernel_rfl) (fun _ _ _ h => h) (Or.inl ⟨by kernel_rfl, ?_⟩) ⟨bc0, bx0⟩ ?_
    rotate_left
    focus (intro w' hSw; have b1 := hSw.1; have b2 := hSw.2; go_simp; (try with_reducible rfl))
    try simp only [put_lit2, List.set]
    refine wpAnyH_take (i := 5) (v := ?_) rfl (by kernel_rfl) (by kernel_rfl) (by kernel_rfl) (fun _ _ _ h => h) (Or.inl ⟨by kernel_rfl, ?_⟩) ⟨bc0, bx0⟩ ?_
    rotate_left
    focus (intro w' hSw; have b1 := hSw.1; have b2 := hSw.2; go_simp; (try with_reducible rfl))
    try simp only [put_lit2, List.set]
    refine wpAnyH_take (i := 6) (v := ?_) rfl (by kernel_rfl) (by kernel_rfl) (by kernel_rfl) (fun _ _ _ h => h) (Or.inl ⟨by kernel_rfl, ?_⟩) ⟨bc0, bx0⟩ ?_
    rotate_left
    focus (intro w' hSw; have b1 := hSw.1; have b2 := hSw.2; go_simp; (try with_reducible rfl))
    try simp only [put_lit2, List.set]
    refine wpAnyH_take (i := 7) (v := ?_) rfl (by kernel_rfl) (by kernel_rfl) (by kernel_rfl) (fun _ _ _ h => h) (Or.inl ⟨by kernel_rfl, ?_⟩) ⟨bc0, bx0⟩ ?_
    rotate_left
    focus (intro w' hSw; have b1 := hSw.1; have b2 := hSw.2; have q : w'.cell? ⟨w.heap.size, 4, none⟩ = some (.int .u64 (sg : Int)) := b1.cell 4; go_simp; (try with_reducible rfl))
    try simp only [put_lit2, List.set]
    refine wpAnyH_take (i := 8) (v := ?_) rfl (by kernel_rfl) (by kernel_rfl) (by kernel_rfl) (fun _ _ _ h => h) (Or.inl ⟨by kernel_rfl, ?_⟩) ⟨bc0, bx0⟩ ?_
    rotate_left
    focus (intro w' hSw; have b1 := hSw.1; have b2 := hSw.2; go_simp; (try with_reducible rfl))
    try simp only [put_lit2, List.set]
    refine wpAnyH_take (i := 11) (v := ?_) rfl (by kernel_rfl) (by kernel_rfl) (by kernel_rfl) (fun _ _ _ h => h) (Or.inl ⟨by kernel_rfl, ?_⟩) ⟨bc0, bx0⟩ ?_
    rotate_left
    focus (intro w' hSw; have b1 := hSw.1; have b2 := hSw.2; go_simp; (try with_reducible rfl))
    try simp only [put_lit2, List.set]
    refine wpAnyH_take (i := 12) (v := ?_) rfl (by kernel_rfl) (by kernel_rfl) (by kernel_rfl) (fun _ _ _ h => h) (Or.inl ⟨by kernel_rfl, ?_⟩) ⟨bc0, bx0⟩ ?_
    rotate_left
    focus (intro w' hSw; have b1 := hSw.1; have b2 := hSw.2; have q1 : w'.cell? ⟨w.heap.size + 1, 25, none⟩ = some (.int .u64 (x.r : Int)) := (b2.cell 25).trans e25.out; have q2 : w'.cell? ⟨w.heap.size + 1, 26, none⟩ = some (.int .u64 (x.s : Int)) := (b2.cell 26).trans e26.out; go_simp; (try with_reducible rfl))
    try simp only [put_lit2, List.set]
    refine wpAnyH_only2 9 (by kernel_rfl) rfl (by kernel_rfl) (fun K hK => ?_)
    go_simp
    go_wp2_with (go_at_call 44; (with_reducible refine (kb.out _ xd0).mono ?_); rintro _ v1 ⟨A1, c1, rfl, o1, f1⟩; have bc1 := bc0.fr f1 (fun e => e); have bx1 := bx0.fr f1 (fun e => e); have xd1 := OpL.frame xd0 f1; have fr1 := fr0.trans f1 (fun _ _ e => e); have o1x : OutAt v1 w0.heap.size (w0.heap.size + 1) A1 c1 D := o1)
    refine hK.out _ _ ⟨bc1, bx1⟩ (fun _ => ?_)
    clear hK K
    try simp only [put_lit2, List.set]
    refine wpAnyH_only2 10 (by kernel_rfl) rfl (by kernel_rfl) (fun K hK => ?_)
    go_simp
    go_wp2_with (go_at_call 45; (with_reducible refine (outBytes_any _ _ A1 c1 _ _ o1x (by omega)).mono ?_); rintro _ v2 ⟨A2, c2, rfl, o2, f2⟩; have bc2 := bc1.fr f2 (fun e => e); have bx2 := bx1.fr f2 (fun e => e); have xd2 := OpL.frame xd1 f2; have fr2 := fr1.trans f2 (fun _ _ e => e))
    refine hK.out _ _ ⟨bc2, bx2⟩ (fun _ => ?_)
    clear hK K
    try simp only [put_lit2, List.set]
    refine wpAnyH_only2 13 (by kernel_rfl) rfl (by kernel_rfl) (fun K hK => ?_)
    go_simp
    go_wp2_with (go_at_call 24; (with_reducible refine (kc.out _ _ _ _ o2).mono ?_); rintro _ v3 ⟨rfl, f3⟩; have bc3 := bc2.fr f3 (fun e => e); have bx3 := bx2.fr f3 (fun e => e); have xd3 := OpL.frame xd2 f3; have fr3 := fr2.trans f3 (fun _ _ e => e))
    refine hK.out _ _ ⟨bc3, bx3⟩ (fun _ => ?_)
    clear hK K
    try simp only [put_lit2, List.set]
    refine wpAnyH_take (i := 14) (v := ?_) rfl (by kernel_rfl) (by kernel_rfl) (by kernel_rfl) (fun _ _ _ h => h) (Or.inl ⟨by kernel_rfl, ?_⟩) ⟨bc3, bx3⟩ ?_
    rotate_left
    focus (intro w' hSw; have b1 := hSw.1; have b2 := hSw.2; go_simp; (try with_reducible rfl))
    try simp only [put_lit2, List.set]
    refine wpAnyH_take (i := 15) (v := ?_) rfl (by kernel_rfl) (by kernel_rfl) (by kernel_rfl) (fun _ _ _ h => h) (Or.inl ⟨by kernel_rfl, ?_⟩) ⟨bc3, bx3⟩ ?_
    rotate_left
    focus (intro w' hSw; have b1 := hSw.1; have b2 := hSw.2; go_simp; (try with_reducible rfl))
    try simp only [put_lit2, List.set]
    refine wpAnyH_done (by kernel_rfl) ?_ _
    go_wp2
    go_ret
    exact ⟨rfl, fr3⟩
  · have hb : (x.by_ == d) = false := by simp [hd]
    have hfin : Hid (((x.by_ == d) && V) = false) := by show _ = _; rw [hb]; simp
    rw [hfin.out]
    clear hd hfin
    go_enter Tryz.func23, Tryz.ntmps23
    go_upto_region 1 with (fail)
    generalize (w.alloc (.cells #[.int .i64 d, .int .i64 m, .int .u64 (ld : Int), .int .u64 (kp : Int), .int .u64 (sg : Int)] 62)).alloc (.cells CS 35) = w0 at *
    refine wp_region_held_drew (S := fun w' => Blk w' w.heap.size 62 #[.int .i64 d, .int .i64 m, .int .u64 (ld : Int), .int .u64 (kp : Int), .int .u64 (sg : Int)] ∧ Blk w' (w.heap.size + 1) 35 CS) (by kernel_rfl) ⟨bc0, bx0⟩ (fun _ => ?_)
    refine wpAnyH_take (i := 0) (v := ?_) rfl (by kernel_rfl) (by kernel_rfl) (by kernel_rfl) (fun _ _ _ h => h) (Or.inl ⟨by kernel_rfl, ?_⟩) ⟨bc0, bx0⟩ ?_
    rotate_left
    focus (intro w' hSw; have b1 := hSw.1; have b2 := hSw.2; go_simp; (try with_reducible rfl))
    try simp only [put_lit2, List.set]
    refine wpAnyH_take (i := 1) (v := ?_) rfl (by kernel_rfl) (by kernel_rfl) (by kernel_rfl) (fun _ _ _ h => h) (Or.inl ⟨by kernel_rfl, ?_⟩) ⟨bc0, bx0⟩ ?_
    rotate_left
    focus (intro w' hSw; have b1 := hSw.1; have b2 := hSw.2; have q : w'.cell? ⟨w.heap.size + 1, 0, none⟩ = some (.int .i64 x.by_) := (b2.cell 0).trans e0.out; go_simp; (try with_reducible rfl))
    try simp only [put_lit2, List.set]
    refine wpAnyH_take (i := 2) (v := ?_) rfl (by kernel_rfl) (by kernel_rfl) (by kernel_rfl) (fun _ _ _ h => h) (Or.inl ⟨by kernel_rfl, ?_⟩) ⟨bc0, bx0⟩ ?_
    rotate_left
    focus (intro w' hSw; have b1 := hSw.1; have b2 := hSw.2; go_simp; (try with_reducible rfl))
    try simp only [put_lit2, List.set]
    refine wpAnyH_take (i := 3) (v := ?_) rfl (by kernel_rfl) (by kernel_rfl) (by kernel_rfl) (fun _ _ _ h => h) (Or.inl ⟨by kernel_rfl, ?_⟩) ⟨bc0, bx0⟩ ?_
    rotate_left
    focus (intro w' hSw; have b1 := hSw.1; have b2 := hSw.2; have q : w'.cell? ⟨w.heap.size, 0, none⟩ = some (.int .i64 d) := b1.cell 0; go_simp; (try with_reducible rfl))
    try simp only [put_lit2, List.set]
    refine wpAnyH_take (i := 4) (v := ?_) rfl (by kernel_rfl) (by kernel_rfl) (by kernel_rfl) (fun _ _ _ h => h) (Or.inl ⟨by kernel_rfl, ?_⟩) ⟨bc0, bx0⟩ ?_
    rotate_left
    focus (intro w' hSw; have b1 := hSw.1; have b2 := hSw.2; go_simp; (try with_reducible rfl))
    try simp only [put_lit2, List.set]
    refine wpAnyH_take (i := 5) (v := ?_) rfl (by kernel_rfl) (by kernel_rfl) (by kernel_rfl) (fun _ _ _ h => h) (Or.inl ⟨by kernel_rfl, ?_⟩) ⟨bc0, bx0⟩ ?_
    rotate_left
    focus (intro w' hSw; have b1 := hSw.1; have b2 := hSw.2; go_simp; (try with_reducible rfl))
    try simp only [put_lit2, List.set]
    refine wpAnyH_take (i := 6) (v := undef) rfl (by kernel_rfl) (by kernel_rfl) (by kernel_rfl) (fun _ _ _ h => h) (Or.inr ⟨by kernel_rfl, rfl⟩) ⟨bc0, bx0⟩ ?_
    try simp only [put_lit2, List.set]
    refine wpAnyH_take (i := 7) (v := undef) rfl (by kernel_rfl) (by kernel_rfl) (by kernel_rfl) (fun _ _ _ h => h) (Or.inr ⟨by kernel_rfl, rfl⟩) ⟨bc0, bx0⟩ ?_
    try simp only [put_lit2, List.set]
    refine wpAnyH_take (i := 8) (v := undef) rfl (by kernel_rfl) (by kernel_rfl) (by kernel_rfl) (fun _ _ _ h => h) (Or.inr ⟨by kernel_rfl, rfl⟩) ⟨bc0, bx0⟩ ?_
    try simp only [put_lit2, List.set]
    refine wpAnyH_take (i := 9) (v := undef) rfl (by kernel_rfl) (by kernel_rfl) (by kernel_rfl) (fun _ _ _ h => h) (Or.inr ⟨by kernel_rfl, rfl⟩) ⟨bc0, bx0⟩ ?_
    try simp only [put_lit2, List.set]
    refine wpAnyH_take (i := 10) (v := undef) rfl (by kernel_rfl) (by kernel_rfl) (by kernel_rfl) (fun _ _ _ h => h) (Or.inr ⟨by kernel_rfl, rfl⟩) ⟨bc0, bx0⟩ ?_
    try simp only [put_lit2, List.set]
    refine wpAnyH_take (i := 11) (v := undef) rfl (by kernel_rfl) (by kernel_rfl) (by kernel_rfl) (fun _ _ _ h => h) (Or.inr ⟨by kernel_rfl, rfl⟩) ⟨bc0, bx0⟩ ?_
    try simp only [put_lit2, List.set]
    refine wpAnyH_take (i := 12) (v := undef) rfl (by kernel_rfl) (by kernel_rfl) (by kernel_rfl) (fun _ _ _ h => h) (Or.inr ⟨by kernel_rfl, rfl⟩) ⟨bc0, bx0⟩ ?_
    try simp only [put_lit2, List.set]
    refine wpAnyH_take (i := 13) (v := undef) rfl (by kernel_rfl) (by kernel_rfl) (by kernel_rfl) (fun _ _ _ h => h) (Or.inr ⟨by kernel_rfl, rfl⟩) ⟨bc0, bx0⟩ ?_
    try simp only [put_lit2, List.set]
    refine wpAnyH_take (i := 14) (v := ?_) rfl (by kernel_rfl) (by kernel_rfl) (by kernel_rfl) (fun _ _ _ h => h) (Or.inl ⟨by kernel_rfl, ?_⟩) ⟨bc0, bx0⟩ ?_
    rotate_left
    focus (intro w' hSw; have b1 := hSw.1; have b2 := hSw.2; go_simp; (try with_reducible rfl))
    try simp only [put_lit2, List.set]
    refine wpAnyH_take (i := 15) (v := ?_) rfl (by kernel_rfl) (by kernel_rfl) (by kernel_rfl) (fun _ _ _ h => h) (Or.inl ⟨by kernel_rfl, ?_⟩) ⟨bc0, bx0⟩ ?_
    rotate_left
    focus (intro w' hSw; have b1 := hSw.1; have b2 := hSw.2; go_simp; (try with_reducible rfl))
    try simp only [put_lit2, List.set]
    refine wpAnyH_done (by kernel_rfl) ?_ _
    go_wp2
    go_ret
    exact ⟨by go_simp, fr0⟩

def SignedP (o : Op) (secret : Nat) (w : World) (r : Ending) (w' : World) : Prop :=
  ∃ y : OpL, r = .returned (.agg y.cells) ∧ y.op = { o with r := Sg.r secret o.bare, s := Sg.s secret o.bare } ∧ y.own w' w.heap.size ∧ Fr Non w w'

set_option maxRecDepth 100000 in
set_option maxHeartbeats 8000000 in
theorem opsign_any (secret : Nat) (x : OpL) (w : World) (hs : secret < 18446744073709551616) (hat : x.at w w.heap.size) (hok : x.op.ok) (hlen : x.op.put.length ≤ 1099511627775) :
    Calls Tryz.prog 15 #[.int .u64 (secret : Int), .agg x.cells] w (SignedP x.op secret w) := by
  have hi : (Tryz.prog.info? 35).map (·.size) = some 27 := by kernel_rfl
  have bx0 : Blk ((w.alloc (.cells x.cells 35)).alloc (.cells #[.int .i64 0, .int .i64 0, .int .i64 0, .int .i64 0, .slice none 0 0, .int .i64 0, .int .i64 0, .int .i64 0, .int .i64 0, .slice none 0 0, .int .i64 0, .int .i64 0, .int .u64 0, .int .i64 0, .slice none 0 0, .slice none 0 0, .int .i64 0, .int .i64 0, .int .u64 0, .slice none 0 0, .int .i64 0, .int .i64 0, .slice none 0 0, .int .u64 0, .slice none 0 0, .int .u64 0, .int .u64 0] 35)) w.heap.size 35 x.cells := (Blk.new w 35 _).alloc _
  have br0 : Blk ((w.alloc (.cells x.cells 35)).alloc (.cells #[.int .i64 0, .int .i64 0, .int .i64 0, .int .i64 0, .slice none 0 0, .int .i64 0, .int .i64 0, .int .i64 0, .int .i64 0, .slice none 0 0, .int .i64 0, .int .i64 0, .int .u64 0, .int .i64 0, .slice none 0 0, .slice none 0 0, .int .i64 0, .int .i64 0, .int .u64 0, .slice none 0 0, .int .i64 0, .int .i64 0, .slice none 0 0, .int .u64 0, .slice none 0 0, .int .u64 0, .int .u64 0] 35)) (w.heap.size + 1) 35 #[.int .i64 0, .int .i64 0, .int .i64 0, .int .i64 0, .slice none 0 0, .int .i64 0, .int .i64 0, .int .i64 0, .int .i64 0, .slice none 0 0, .int .i64 0, .int .i64 0, .int .u64 0, .int .i64 0, .slice none 0 0, .slice none 0 0, .int .i64 0, .int .i64 0, .int .u64 0, .slice none 0 0, .int .i64 0, .int .i64 0, .slice none 0 0, .int .u64 0, .slice none 0 0, .int .u64 0, .int .u64 0] := by
    have := Blk.new (w.alloc (.cells x.cells 35)) 35 #[.int .i64 0, .int .i64 0, .int .i64 0, .int .i64 0, .slice none 0 0, .int .i64 0, .int .i64 0, .int .i64 0, .int .i64 0, .slice none 0 0, .int .i64 0, .int .i64 0, .int .u64 0, .int .i64 0, .slice none 0 0, .slice none 0 0, .int .i64 0, .int .i64 0, .int .u64 0, .slice none 0 0, .int .i64 0, .int .i64 0, .slice none 0 0, .int .u64 0, .slice none 0 0, .int .u64 0, .int .u64 0]
    rwa [World.size_alloc] at this
  have fr0 : Fr Non w ((w.alloc (.cells x.cells 35)).alloc (.cells #[.int .i64 0, .int .i64 0, .int .i64 0, .int .i64 0, .slice none 0 0, .int .i64 0, .int .i64 0, .int .i64 0, .int .i64 0, .slice none 0 0, .int .i64 0, .int .i64 0, .int .u64 0, .int .i64 0, .slice none 0 0, .slice none 0 0, .int .i64 0, .int .i64 0, .int .u64 0, .slice none 0 0, .int .i64 0, .int .i64 0, .slice none 0 0, .int .u64 0, .slice none 0 0, .int .u64 0, .int .u64 0] 35)) := ((Fr.refl Non w).alloc _).alloc _
  have xd0 := OpL.frame hat fr0
  have kb := Lib.hid (fun w' (h : x.at w' w'.heap.size) => bare_any x w' h hok)
  have kp := Lib.hid (fun w' (h : x.at w' w'.heap.size) => put_any x w' h hok)
  have hget := Lib.hid (get_put hok.okR)
  have lb := Op.bare_len x.op hok
  have ks := Lib.hid (fun (A : Option Addr) (c : Nat) (w' : World) (B : Nat) (h : Own w' B 5 1 A x.op.bare.length c (x.op.bare.map Bv)) => sign_any secret w'.heap.size x.op.bare.length c A x.op.bare w' hs rfl h.cap.1 (by omega) (Nat.le_refl _) h.rd)
  have hpost : ∀ (y : OpL) (r' : Ending) (w' : World), r' = .returned (.agg y.cells) → y.op = { x.op with r := Sg.r secret x.op.bare, s := Sg.s secret x.op.bare } → y.own w' w.heap.size → Fr Non w w' → SignedP x.op secret w r' w' := fun y r' w' h1 h2 h3 h4 => ⟨y, h1, h2, h3, h4⟩
  have hpost' := Lib.hid hpost
  clear hpost
  obtain ⟨D, hD⟩ := hid_ex x.op.bare
  obtain ⟨PP, hPP⟩ := hid_ex x.op.put
  rw [hPP.out] at kp hget hlen
  obtain ⟨np, hnp⟩ := hid_ex PP.length
  rw [hnp.out] at hlen
  rw [hD.out] at kb lb ks hpost'
  obtain ⟨R, hR⟩ := hid_ex (Sg.r secret D)
  obtain ⟨S, hS⟩ := hid_ex (Sg.s secret D)
  unfold SignPost SigV at ks
  rw [hR.out, hS.out] at ks hpost'
  generalize SignedP x.op secret w = POST at hpost' ⊢
  clear hat hok hs hD hR hS hPP
  obtain ⟨X, hX⟩ := hid_ex x.op
  rw [hX.out] at hget hpost'
  obtain ⟨CS, hCS⟩ := hid_ex x.cells
  have hi' : (Tryz.prog.info? 35).map (·.size) = some CS.size := by rw [← hCS.out]; exact hi
  rw [hCS.out] at bx0 br0 fr0 xd0 kb kp ⊢
  go_enter Tryz.func15, Tryz.ntmps15
  go_upto_region 1 with (fail)
  have es : Hid (((w.alloc (.cells CS 35)).alloc (.cells #[.int .i64 0, .int .i64 0, .int .i64 0, .int .i64 0, .slice none 0 0, .int .i64 0, .int .i64 0, .int .i64 0, .int .i64 0, .slice none 0 0, .int .i64 0, .int .i64 0, .int .u64 0, .int .i64 0, .slice none 0 0, .slice none 0 0, .int .i64 0, .int .i64 0, .int .u64 0, .slice none 0 0, .int .i64 0, .int .i64 0, .slice none 0 0, .int .u64 0, .slice none 0 0, .int .u64 0, .int .u64 0] 35)).heap.size = w.heap.size + 2) := by show _ = _; simp
  generalize (w.alloc (.cells CS 35)).alloc (.cells #[.int .i64 0, .int .i64 0, .int .i64 0, .int .i64 0, .slice none 0 0, .int .i64 0, .int .i64 0, .int .i64 0, .int .i64 0, .slice none 0 0, .int .i64 0, .int .i64 0, .int .u64 0, .int .i64 0, .slice none 0 0, .slice none 0 0, .int .i64 0, .int .i64 0, .int .u64 0, .slice none 0 0, .int .i64 0, .int .i64 0, .slice none 0 0, .int .u64 0, .slice none 0 0, .int .u64 0, .int .u64 0] 35) = w0 at *
  go_wp2_with (first | (refine wpList_load_row rfl 35 (.tmp 3) rfl rfl bx0 Tryz.underlying35 rfl hi' ?_))
  refine (kb.out _ xd0).mono ?_
  rintro _ w1 ⟨A1, c1, rfl, o1, f1⟩
  have bx1 := bx0.fr f1 (fun e => e)
  have xd1 := OpL.frame xd0 f1
  have br1 := br0.fr f1 (fun e => e)
  have fr1 := fr0.trans f1 (fun _ _ e => e)
  go_wp2_with (fail)
  refine (outBytes_any _ _ A1 c1 _ _ o1 (by omega)).mono ?_
  rintro _ w2 ⟨A2, c2, rfl, o2, f2⟩
  have bx2 := bx1.fr f2 (fun e => e)
  have xd2 := OpL.frame xd1 f2
  have br2 := br1.fr f2 (fun e => e)
  have fr2 := fr1.trans f2 (fun _ _ e => e)
  have f12 := f1.trans f2 (fun _ _ e => e)
  clear o1 f1 f2
  go_wp2_with (first | (refine wpList_load_row rfl 35 (.tmp 3) rfl rfl bx2 Tryz.underlying35 rfl hi' ?_))
  refine (kp.out _ xd2).mono ?_
  rintro _ w3 ⟨A3, c3, rfl, o3, f3⟩
  rw [hnp.out] at o3 ⊢
  go_wp2_with (fail)
  refine (opGet_any _ np c3 A3 PP _ hnp o3.rd (by omega)).mono ?_
  rintro _ w4 ⟨y, hy, rfl, yown, f4⟩
  rw [hget.out] at hy ⊢
  have hy' : y.op = X := hy
  have br4 := (br2.fr f3 (fun e => e)).fr f4 (fun e => e)
  have fr4 := (fr2.trans f3 (fun _ _ e => e)).trans f4 (fun _ _ e => e)
  have o4 := (o2.fr f3 (fun _ _ e => e)).fr f4 (fun _ _ e => e)
  have h34 : w.heap.size + 2 ≤ w3.heap.size := by
    have h1 := es.out
    have h2 := (f12.trans f3 (fun _ _ e => e)).size
    omega
  have h4s := f4.size
  clear f12 es
  have honey := one_cells y
  have hz4 := Blk.new w4 35 OpL.zero.cells
  clear o3 f3 f4 bx2 xd2 br2 fr2 hy hget kp kb bx0 bx1 br0 br1 fr0 fr1 xd0 xd1 o2
  go_upto_region 3 with (first | (refine wpList_store_new rfl 35 (.tmp 6) (.tmp 15) rfl rfl rfl rfl hz4 hi rfl honey ?_; intro w5 hb5 hf5 hs5))
  have fx5 : Fr Non w4 w5 := ((Fr.refl Non w4).alloc (.cells OpL.zero.cells 35)).trans hf5 (fun k hk e => by have e' : k = w4.heap.size := e; omega)
  have br5 := br4.fr fx5 (fun e => e)
  have o5 := o4.fr fx5 (fun _ _ e => e)
  go_wp2_with (fail)
  refine (ks.out _ _ _ _ o5).mono ?_
  rintro _ w6 ⟨rfl, f6⟩
  have hb6 := hb5.fr f6 (fun e => e)
  have br6 := br5.fr f6 (fun e => e)
  have c25 : w6.cell? ⟨w4.heap.size, 25, none⟩ = some _ := hb6.cell 25
  have c26 : w6.cell? ⟨w4.heap.size, 26, none⟩ = some _ := hb6.cell 26
  have z25 := hb6.frozen 25
  have z26 := hb6.frozen 26
  have fx7 := ((fx5.trans f6 (fun _ _ e => e)).setNew (Nat.le_refl _) 25 (.int .u64 (R : Int))).setNew (Nat.le_refl _) 26 (.int .u64 (S : Int))
  have hb7 : Blk _ w4.heap.size 35 ({ y with r := R, s := S } : OpL).cells := (hb6.set 25 (.int .u64 (R : Int))).set 26 (.int .u64 (S : Int))
  have br7 := br4.fr fx7 (fun e => e)
  have yown7 := yown.keep fx7 (fun _ _ _ _ _ e => e.elim)
  have fr7 := fr4.trans fx7 (fun _ _ e => e)
  clear o4 o5 hz4 hf5 hs5 br4 br5 br6 fx5 f6 hb5 honey fr4 fx7
  go_upto_region 4 with (fail)
  clear c25 c26 z25 z26 hb6
  generalize (w6.setCell ⟨w4.heap.size, 25, none⟩ (.int .u64 (R : Int))).setCell ⟨w4.heap.size, 26, none⟩ (.int .u64 (S : Int)) = w7 at *
  have vop : ({ y with r := R, s := S } : OpL).op = { X with r := R, s := S } := by
    rw [← hy']
    rfl
  have vown : ({ y with r := R, s := S } : OpL).own w7 w3.heap.size := ⟨yown7.past, yown7.path, yown7.nodes, yown7.body, yown7.refs, yown7.guards, yown7.boxes, yown7.hist, yown7.seals⟩
  generalize ({ y with r := R, s := S } : OpL) = v at hb7 vop vown
  have honev := one_cells v
  have fin : Hid (∀ wz, Fr (One (w.heap.size + 1)) w7 wz → POST (.returned (.agg v.cells)) wz) := by
    intro wz hf
    exact hpost'.out v _ wz rfl vop ((vown.keep hf ((Types.one br7).mono (fun t e => .inl e))).lower (by omega)) (fr7.trans hf (fun k hk e => absurd hk (by have e' : k = w.heap.size + 1 := e; omega)))
  clear vop vown hpost' hy' yown yown7 fr7
  have tok1 : True := trivial
  go_wp2_with (first
    | (have _t := tok1; refine wpList_load_row rfl 35 (.tmp 6) rfl rfl hb7 Tryz.underlying35 rfl hi ?_; clear tok1 _t)
    | (refine wpList_store_row rfl 35 (.tmp 4) (.tmp 21) rfl rfl rfl rfl br7 hi rfl honev ?_; have hfz := (Fr.refl (One (w.heap.size + 1)) w7).setRow (g := w.heap.size + 1) (fun _ => rfl) v.cells; have hz2 := br7.setRow (cs := v.cells); generalize w7.setRow (w.heap.size + 1) v.cells = wz at hfz hz2 ⊢; (repeat (first | go_values | go_skip | go_guarded | go_step)); exact ret_blk (t := 35) rfl rfl hz2 rfl Tryz.underlying35 (by kernel_rfl) rfl (fin.out wz hfz)))

theorem at_sig {x : OpL} {w : World} {B : Nat} (o : x.at w B) (r s : Nat) : ({ x with r := r, s := s } : OpL).at w B := ⟨o.past, o.path, o.nodes, o.body, o.refs, o.guards, o.boxes, o.hist, o.seals⟩
theorem resig_op (x : OpL) (R S : Nat) : ({ x with r := R, s := S } : OpL).op = { x.op with r := R, s := S } := rfl
def lSign : List UInt8 := [115, 105, 103, 110]
def SignedAt (o : Op) (secret : Nat) (w : World) (r : Ending) (w' : World) : Prop :=
  ∃ y : OpL, r = .returned (.agg y.cells) ∧ y.op = { o with r := Sg.r secret o.bare, s := Sg.s secret o.bare } ∧ y.at w' w'.heap.size ∧ Fr Non w w'

set_option maxRecDepth 100000 in
set_option maxHeartbeats 8000000 in
theorem signed11_any (x : OpL) (u : Nat) (w : World) (hu : IntKind.u64.wrap x.by_ = (u : Int)) (hu' : u < 18446744073709551616) (hat : x.at w w.heap.size) (hok : x.op.ok) :
    Calls Tryz.prog 21 #[.agg x.cells] w (SignedAt x.op (sec lSign u) w) := by
  have hi : (Tryz.prog.info? 35).map (·.size) = some 27 := by kernel_rfl
  have bx0 : Blk ((w.alloc (.cells x.cells 35)).alloc (.cells #[.int .i64 0, .int .i64 0, .int .i64 0, .int .i64 0, .slice none 0 0, .int .i64 0, .int .i64 0, .int .i64 0, .int .i64 0, .slice none 0 0, .int .i64 0, .int .i64 0, .int .u64 0, .int .i64 0, .slice none 0 0, .slice none 0 0, .int .i64 0, .int .i64 0, .int .u64 0, .slice none 0 0, .int .i64 0, .int .i64 0, .slice none 0 0, .int .u64 0, .slice none 0 0, .int .u64 0, .int .u64 0] 35)).drew w.heap.size 35 x.cells := ((Blk.new w 35 _).alloc _).drew
  have br0 : Blk ((w.alloc (.cells x.cells 35)).alloc (.cells #[.int .i64 0, .int .i64 0, .int .i64 0, .int .i64 0, .slice none 0 0, .int .i64 0, .int .i64 0, .int .i64 0, .int .i64 0, .slice none 0 0, .int .i64 0, .int .i64 0, .int .u64 0, .int .i64 0, .slice none 0 0, .slice none 0 0, .int .i64 0, .int .i64 0, .int .u64 0, .slice none 0 0, .int .i64 0, .int .i64 0, .slice none 0 0, .int .u64 0, .slice none 0 0, .int .u64 0, .int .u64 0] 35)).drew (w.heap.size + 1) 35 #[.int .i64 0, .int .i64 0, .int .i64 0, .int .i64 0, .slice none 0 0, .int .i64 0, .int .i64 0, .int .i64 0, .int .i64 0, .slice none 0 0, .int .i64 0, .int .i64 0, .int .u64 0, .int .i64 0, .slice none 0 0, .slice none 0 0, .int .i64 0, .int .i64 0, .int .u64 0, .slice none 0 0, .int .i64 0, .int .i64 0, .slice none 0 0, .int .u64 0, .slice none 0 0, .int .u64 0, .int .u64 0] := by
    have := (Blk.new (w.alloc (.cells x.cells 35)) 35 #[.int .i64 0, .int .i64 0, .int .i64 0, .int .i64 0, .slice none 0 0, .int .i64 0, .int .i64 0, .int .i64 0, .int .i64 0, .slice none 0 0, .int .i64 0, .int .i64 0, .int .u64 0, .int .i64 0, .slice none 0 0, .slice none 0 0, .int .i64 0, .int .i64 0, .int .u64 0, .slice none 0 0, .int .i64 0, .int .i64 0, .slice none 0 0, .int .u64 0, .slice none 0 0, .int .u64 0, .int .u64 0]).drew
    rwa [World.size_alloc] at this
  have fr0 : Fr Non w ((w.alloc (.cells x.cells 35)).alloc (.cells #[.int .i64 0, .int .i64 0, .int .i64 0, .int .i64 0, .slice none 0 0, .int .i64 0, .int .i64 0, .int .i64 0, .int .i64 0, .slice none 0 0, .int .i64 0, .int .i64 0, .int .u64 0, .int .i64 0, .slice none 0 0, .slice none 0 0, .int .i64 0, .int .i64 0, .int .u64 0, .slice none 0 0, .int .i64 0, .int .i64 0, .slice none 0 0, .int .u64 0, .slice none 0 0, .int .u64 0, .int .u64 0] 35)).drew := (((Fr.refl Non w).alloc _).alloc _).drew
  have xd0 := OpL.frame hat fr0
  have hs := sec_lt lSign u
  have k1 : Hid (∀ w' : World, Calls Tryz.prog 16 #[.string ⟨#[115, 105, 103, 110]⟩, .int .i64 x.by_] w' (PowPost (sec lSign u) w')) := fun w' => secret11_any lSign x.by_ u w' hu hu' (by decide)
  have kb := Lib.hid (fun w' (h : x.at w' w'.heap.size) => bytes11_any x w' h hok)
  have lb := Op.bare_len x.op hok
  have ks := Lib.hid (fun (A : Option Addr) (c : Nat) (w' : World) (B : Nat) (h : Own w' B 5 1 A x.op.bare.length c (x.op.bare.map Bv)) => sign08_any (sec lSign u) w'.heap.size x.op.bare.length c A x.op.bare w' (by omega) rfl (by omega) (Nat.le_refl _) h.rd)
  have hpost : ∀ (R S : Nat) (w' : World), Sg.r (sec lSign u) x.op.bare = R → Sg.s (sec lSign u) x.op.bare = S → ({ x with r := R, s := S } : OpL).at w' w'.heap.size → Fr Non w w' → SignedAt x.op (sec lSign u) w (.returned (.agg ({ x with r := R, s := S } : OpL).cells)) w' := fun R S w' h1 h2 h3 h4 => ⟨{ x with r := R, s := S }, rfl, by rw [h1, h2]; exact resig_op x R S, h3, h4⟩
  obtain ⟨D, hD⟩ := hid_ex x.op.bare
  rw [hD.out] at kb lb ks hpost
  generalize sec lSign u = V at *
  obtain ⟨R, hR⟩ := hid_ex (Sg.r V D)
  obtain ⟨S, hS⟩ := hid_ex (Sg.s V D)
  unfold SignPost SigV at ks
  rw [hR.out, hS.out] at ks
  have hpost' := Lib.hid (fun w' => hpost R S w' hR.out hS.out)
  generalize SignedAt x.op V w = POST at hpost' ⊢
  have hlx := ldS_blk (P := Tryz.prog) w.heap.size 35 Tryz.underlying35 rfl (cs := x.cells) hi
  have hat0 := Lib.hid hat
  clear hpost hat hok hs hD hR hS hu hu'
  go_enter Tryz.func21, Tryz.ntmps21
  go_upto_region 1 with (fail)
  generalize (w.alloc (.cells x.cells 35)).alloc (.cells #[.int .i64 0, .int .i64 0, .int .i64 0, .int .i64 0, .slice none 0 0, .int .i64 0, .int .i64 0, .int .i64 0, .int .i64 0, .slice none 0 0, .int .i64 0, .int .i64 0, .int .u64 0, .int .i64 0, .slice none 0 0, .slice none 0 0, .int .i64 0, .int .i64 0, .int .u64 0, .slice none 0 0, .int .i64 0, .int .i64 0, .slice none 0 0, .int .u64 0, .slice none 0 0, .int .u64 0, .int .u64 0] 35) = w0 at *
  have c0 : w0.drew.cell? ⟨w.heap.size, 0, none⟩ = some (.int .i64 x.by_) := bx0.cell 0
  have f0 : Fr Non w0.drew w0.drew := Fr.refl _ _
  go_region_with (first
    | (go_at_call 16; (with_reducible refine (k1.out _).mono ?_); rintro _ v1 ⟨rfl, f1⟩; have bx1 := bx0.fr f1 (fun e => e); have xd1 := OpL.frame xd0 f1; have br1 := br0.fr f1 (fun e => e); have fr1 := fr0.trans f1 (fun _ _ e => e))
    | (go_at_call 25; (with_reducible refine (kb.out _ xd1).mono ?_); rintro _ v2 ⟨A2, c2, rfl, o2, f2⟩; have bx2 := bx1.fr f2 (fun e => e); have xd2 := OpL.frame xd1 f2; have br2 := br1.fr f2 (fun e => e); have fr2 := fr1.trans f2 (fun _ _ e => e))
    | (go_at_call 66; (with_reducible refine (ks.out _ _ _ _ o2).mono ?_); rintro _ v3 ⟨rfl, f3⟩; have bx3 := bx2.fr f3 (fun e => e); have xd3 := OpL.frame xd2 f3; have br3 := br2.fr f3 (fun e => e); have fr3 := fr2.trans f3 (fun _ _ e => e); have z25 : v3.cell? ⟨w.heap.size, 25, none⟩ = some _ := bx3.cell 25; have z26 : v3.cell? ⟨w.heap.size, 26, none⟩ = some _ := bx3.cell 26; have q25 := bx3.frozen 25; have q26 := bx3.frozen 26))
  all_goals
    have hb4 : Blk _ w.heap.size 35 ({ x with r := R, s := S } : OpL).cells := (bx3.set 25 (.int .u64 (R : Int))).set 26 (.int .u64 (S : Int))
    have hg4 := ((Fr.refl (One w.heap.size) v3).setOne 25 (.int .u64 (R : Int))).setOne 26 (.int .u64 (S : Int))
    have br4 := br3.fr hg4 (fun e => by have e' : w.heap.size + 1 = w.heap.size := e; omega)
    have fr4 := (fr3.setNew (Nat.le_refl _) 25 (.int .u64 (R : Int))).setNew (Nat.le_refl _) 26 (.int .u64 (S : Int))
    have xat4 := at_sig (OpL.frame hat0.out fr4) R S
    generalize (v3.setCell ⟨w.heap.size, 25, none⟩ (.int .u64 (R : Int))).setCell ⟨w.heap.size, 26, none⟩ (.int .u64 (S : Int)) = w4 at *
    have honev := one_cells ({ x with r := R, s := S } : OpL)
    have fin : Hid (∀ wz, Fr (One (w.heap.size + 1)) w4 wz → POST (.returned (.agg ({ x with r := R, s := S } : OpL).cells)) wz) := by
      intro wz hf
      have frz := fr4.trans hf (fun k hk e => absurd hk (by have e' : k = w.heap.size + 1 := e; omega))
      exact hpost'.out wz (at_sig (OpL.frame hat0.out frz) R S) frz
    clear xat4 hpost' hat0 fr4 bx0 bx1 bx2 bx3 br0 br1 br2 br3 xd0 xd1 xd2 xd3 fr0 fr1 fr2 fr3 z25 z26 q25 q26 hg4 hlx o2 f1 f2 f3 c0 f0
    generalize ({ x with r := R, s := S } : OpL) = v at hb4 honev fin
    have tok1 : True := trivial
    go_wp2_with (first
      | (have _t := tok1; refine wpList_load_row rfl 35 (.tmp 1) rfl rfl hb4 Tryz.underlying35 rfl hi ?_; clear tok1 _t)
      | (refine wpList_store_row rfl 35 (.tmp 2) (.tmp 10) rfl rfl rfl rfl br4 hi rfl honev ?_; have hfz := (Fr.refl (One (w.heap.size + 1)) w4).setRow (g := w.heap.size + 1) (fun _ => rfl) v.cells; have hz2 := br4.setRow (cs := v.cells); generalize w4.setRow (w.heap.size + 1) v.cells = wz at hfz hz2 ⊢; (repeat (first | go_values | go_skip | go_guarded | go_step)); exact ret_blk (t := 35) rfl rfl hz2 rfl Tryz.underlying35 (by kernel_rfl) rfl (fin.out wz hfz)))

def lLead : List UInt8 := [108, 101, 97, 100]
def lKeep : List UInt8 := [107, 101, 101, 112]
/-- A card. -/
structure Cd where
  d : Int
  m : Int
  l : Nat
  k : Nat
  s : Nat
def Cd.cells (c : Cd) : List Value := [.int .i64 c.d, .int .i64 c.m, .int .u64 (c.l : Int), .int .u64 (c.k : Int), .int .u64 (c.s : Int)]
theorem cd_cells (d m : Int) (l k s : Nat) : (Cd.mk d m l k s).cells = [.int .i64 d, .int .i64 m, .int .u64 (l : Int), .int .u64 (k : Int), .int .u64 (s : Int)] := rfl
/-- The card of device i + 1, of this owner. -/
def cardOf (i : Nat) (m : Int) : Cd := ⟨(i : Int) + 1, m, Sg.pub (sec lLead (i + 1)), Sg.pub (sec lKeep (i + 1)), Sg.pub (sec lSign (i + 1))⟩
def cardsFrom (i : Nat) : List Int → List Cd
  | [] => []
  | m :: r => cardOf i m :: cardsFrom (i + 1) r
theorem cardsFrom_len (l : List Int) : ∀ i, (cardsFrom i l).length = l.length := by
  induction l with
  | nil => intro i; rfl
  | cons m r ih => intro i; simp [cardsFrom, ih]
theorem cardsFrom_snoc (l : List Int) (m : Int) : ∀ i, cardsFrom i (l ++ [m]) = cardsFrom i l ++ [cardOf (i + l.length) m] := by
  induction l with
  | nil => intro i; rfl
  | cons x r ih =>
    intro i
    show cardOf i x :: cardsFrom (i + 1) (r ++ [m]) = _
    rw [ih, List.length_cons, show i + 1 + r.length = i + (r.length + 1) by omega]
    rfl
theorem slCd : SlT Tryz.prog 55 62 (.agg #[.int .i64 0, .int .i64 0, .int .u64 0, .int .u64 0, .int .u64 0]) 5 40 := ⟨Tryz.underlying55, by kernel_rfl, rfl, by decide⟩
def CardsPost (l : List Int) (n : Nat) (w : World) (r : Ending) (w' : World) : Prop :=
  ∃ A c, r = .returned (.slice A n c) ∧ Own w' w.heap.size 62 5 A n c ((cardsFrom 0 l).flatMap Cd.cells) ∧ Fr Non w w'

set_option maxRecDepth 100000 in
set_option maxHeartbeats 8000000 in
theorem cards_any (n c : Nat) (A : Option Addr) (l : List Int) (w : World) (hn : Hid (l.length = n)) (hl : n ≤ 1000) (hr : Rd w w.heap.size 1 A n (l.map Iv)) :
    Calls Tryz.prog 19 #[.slice A n c] w (CardsPost l n w) := by
  have hk1 : ∀ (kind : List UInt8) (k : Nat) (w' : World), k < n → kind.length ≤ 1000 → Calls Tryz.prog 16 #[.string (str kind), .int .i64 ((k : Int) + 1)] w' (PowPost (sec kind (k + 1)) w') := fun kind k w' hkn hkl => secret11_any kind _ (k + 1) w' (by rw [IntKind.wrap_u64]; omega) (by omega) hkl
  go_enter Tryz.func19, Tryz.ntmps19
  go_wp2
  go_loopw [3, 4] (fun s v wr => ∃ (k : Nat) (A' : Option Addr) (c' : Nat), v = .int .i64 (k : Int) ∧ s = .slice A' k c' ∧ k ≤ n ∧ Own wr w.heap.size 62 5 A' k c' ((cardsFrom 0 (l.take k)).flatMap Cd.cells) ∧ Fr Non w wr) (fun _ v _ => n - (intOf v).toNat)
  case atStart => exact ⟨0, none, 0, rfl, rfl, by omega, Own.nil _ _ _ _, Fr.refl _ _⟩
  case round =>
    obtain ⟨k, A', c', rfl, rfl, hk, hown, hf⟩ := hrel
    by_cases hlt : k < n
    · obtain ⟨b, off, v, rfl, hb, hu, hc⟩ := (hr.fr hf (fun _ _ e => e)).at hlt
      rw [List.getElem?_map] at hu
      obtain ⟨mm, hmm, rfl⟩ := Option.map_eq_some_iff.1 hu
      have hsn : l.take (k + 1) = l.take k ++ [mm] := by
        obtain ⟨hx, rfl⟩ := List.getElem?_eq_some_iff.1 hmm
        exact List.take_succ_eq_append_getElem hx
      have hlk : (l.take k).length = k := by rw [List.length_take, hn.out]; omega
      have ecd : Hid (((cardsFrom 0 (l.take (k + 1))).flatMap Cd.cells) = (cardsFrom 0 (l.take k)).flatMap Cd.cells ++ (cardOf k mm).cells) := by
        show _ = _
        rw [hsn, cardsFrom_snoc, hlk, Nat.zero_add, List.flatMap_append, List.flatMap_cons, List.flatMap_nil, List.append_nil]
      obtain ⟨V1, hV1⟩ := hid_ex (sec lLead (k + 1))
      obtain ⟨V2, hV2⟩ := hid_ex (sec lKeep (k + 1))
      obtain ⟨V3, hV3⟩ := hid_ex (sec lSign (k + 1))
      have l1 := sec_lt lLead (k + 1)
      have l2 := sec_lt lKeep (k + 1)
      have l3 := sec_lt lSign (k + 1)
      have k1 : Hid (∀ w' : World, Calls Tryz.prog 16 #[.string ⟨#[108, 101, 97, 100]⟩, .int .i64 ((k : Int) + 1)] w' (PowPost (sec lLead (k + 1)) w')) := fun w' => hk1 lLead k w' hlt (by decide)
      have k2 : Hid (∀ w' : World, Calls Tryz.prog 16 #[.string ⟨#[107, 101, 101, 112]⟩, .int .i64 ((k : Int) + 1)] w' (PowPost (sec lKeep (k + 1)) w')) := fun w' => hk1 lKeep k w' hlt (by decide)
      have k3 : Hid (∀ w' : World, Calls Tryz.prog 16 #[.string ⟨#[115, 105, 103, 110]⟩, .int .i64 ((k : Int) + 1)] w' (PowPost (sec lSign (k + 1)) w')) := fun w' => hk1 lSign k w' hlt (by decide)
      have p1 := Lib.hid (fun w' => pub08_any (sec lLead (k + 1)) w' (by omega))
      have p2 := Lib.hid (fun w' => pub08_any (sec lKeep (k + 1)) w' (by omega))
      have p3 := Lib.hid (fun w' => pub08_any (sec lSign (k + 1)) w' (by omega))
      have ecc : Hid ((cardOf k mm).cells = [.int .i64 ((k : Int) + 1), .int .i64 mm, .int .u64 (Sg.pub (sec lLead (k + 1)) : Int), .int .u64 (Sg.pub (sec lKeep (k + 1)) : Int), .int .u64 (Sg.pub (sec lSign (k + 1)) : Int)]) := by
        show _ = _
        unfold cardOf
        exact cd_cells _ _ _ _ _
      rw [hV1.out] at k1 p1 ecc l1
      rw [hV2.out] at k2 p2 ecc l2
      rw [hV3.out] at k3 p3 ecc l3
      obtain ⟨Q1, hQ1⟩ := hid_ex (Sg.pub V1)
      obtain ⟨Q2, hQ2⟩ := hid_ex (Sg.pub V2)
      obtain ⟨Q3, hQ3⟩ := hid_ex (Sg.pub V3)
      rw [hQ1.out] at p1 ecc
      rw [hQ2.out] at p2 ecc
      rw [hQ3.out] at p3 ecc
      have hfin : Hid (∀ (A2 : Option Addr) (c2 : Nat) (w2 : World), Own w2 w.heap.size 62 5 A2 (k + 1) c2 ((cardsFrom 0 (l.take k)).flatMap Cd.cells ++ [.int .i64 ((k : Int) + 1), .int .i64 mm, .int .u64 (Q1 : Int), .int .u64 (Q2 : Int), .int .u64 (Q3 : Int)]) → Own w2 w.heap.size 62 5 A2 (k + 1) c2 ((cardsFrom 0 (l.take (k + 1))).flatMap Cd.cells)) := fun A2 c2 w2 h => by rw [ecd.out, ecc.out]; exact h
      clear hV1 hV2 hV3 hQ1 hQ2 hQ3 ecd ecc hsn hlk hmm hu hn hk1
      obtain ⟨XS, hXS⟩ := hid_ex ((cardsFrom 0 (l.take k)).flatMap Cd.cells)
      rw [hXS.out] at hown hfin
      have hbw : b < w.heap.size := hb
      have cc0 : wr.drew.cell? ⟨b, off + k, none⟩ = some (.int .i64 mm) := hc
      have hown0 : Own wr.drew w.heap.size 62 5 A' k c' XS := hown
      have fr0 := hf.drew
      go_upto_region 6 with (fail)
      refine wp_region_held_drew (S := fun w' => w'.cell? ⟨b, off + k, none⟩ = some (.int .i64 mm)) (by kernel_rfl) cc0 (fun _ => ?_)
      refine wpAnyH_take (i := 0) (v := ?_) rfl (by kernel_rfl) (by kernel_rfl) (by kernel_rfl) (fun _ _ _ h => h) (Or.inl ⟨by kernel_rfl, ?_⟩) cc0 ?_
      rotate_left
      focus (intro w' hSw; have b1 := hSw; (try dsimp only at b1); go_simp; (try with_reducible rfl))
      try simp only [put_lit2, List.set]
      refine wpAnyH_take (i := 1) (v := ?_) rfl (by kernel_rfl) (by kernel_rfl) (by kernel_rfl) (fun _ _ _ h => h) (Or.inl ⟨by kernel_rfl, ?_⟩) cc0 ?_
      rotate_left
      focus (intro w' hSw; have b1 := hSw; (try dsimp only at b1); go_simp; (try with_reducible rfl))
      try simp only [put_lit2, List.set]
      refine wpAnyH_take (i := 2) (v := ?_) rfl (by kernel_rfl) (by kernel_rfl) (by kernel_rfl) (fun _ _ _ h => h) (Or.inl ⟨by kernel_rfl, ?_⟩) cc0 ?_
      rotate_left
      focus (intro w' hSw; have b1 := hSw; (try dsimp only at b1); go_simp; (try with_reducible rfl))
      try simp only [put_lit2, List.set]
      refine wpAnyH_take (i := 3) (v := ?_) rfl (by kernel_rfl) (by kernel_rfl) (by kernel_rfl) (fun _ _ _ h => h) (Or.inl ⟨by kernel_rfl, ?_⟩) cc0 ?_
      rotate_left
      focus (intro w' hSw; have b1 := hSw; (try dsimp only at b1); go_simp; (try with_reducible rfl))
      try simp only [put_lit2, List.set]
      refine wpAnyH_take (i := 4) (v := ?_) rfl (by kernel_rfl) (by kernel_rfl) (by kernel_rfl) (fun _ _ _ h => h) (Or.inl ⟨by kernel_rfl, ?_⟩) cc0 ?_
      rotate_left
      focus (intro w' hSw; have b1 := hSw; (try dsimp only at b1); go_simp; (try with_reducible rfl))
      try simp only [put_lit2, List.set]
      refine wpAnyH_take (i := 5) (v := ?_) rfl (by kernel_rfl) (by kernel_rfl) (by kernel_rfl) (fun _ _ _ h => h) (Or.inl ⟨by kernel_rfl, ?_⟩) cc0 ?_
      rotate_left
      focus (intro w' hSw; have b1 := hSw; (try dsimp only at b1); go_simp; (try with_reducible rfl))
      try simp only [put_lit2, List.set]
      refine wpAnyH_take (i := 6) (v := ?_) rfl (by kernel_rfl) (by kernel_rfl) (by kernel_rfl) (fun _ _ _ h => h) (Or.inl ⟨by kernel_rfl, ?_⟩) cc0 ?_
      rotate_left
      focus (intro w' hSw; have b1 := hSw; (try dsimp only at b1); go_simp; (try with_reducible rfl))
      try simp only [put_lit2, List.set]
      refine wpAnyH_take (i := 9) (v := ?_) rfl (by kernel_rfl) (by kernel_rfl) (by kernel_rfl) (fun _ _ _ h => h) (Or.inl ⟨by kernel_rfl, ?_⟩) cc0 ?_
      rotate_left
      focus (intro w' hSw; have b1 := hSw; (try dsimp only at b1); go_simp; (try with_reducible rfl))
      try simp only [put_lit2, List.set]
      refine wpAnyH_take (i := 12) (v := ?_) rfl (by kernel_rfl) (by kernel_rfl) (by kernel_rfl) (fun _ _ _ h => h) (Or.inl ⟨by kernel_rfl, ?_⟩) cc0 ?_
      rotate_left
      focus (intro w' hSw; have b1 := hSw; (try dsimp only at b1); go_simp; (try with_reducible rfl))
      try simp only [put_lit2, List.set]
      refine wpAnyH_only2 7 (by kernel_rfl) rfl (by kernel_rfl) (fun K hK => ?_)
      go_simp
      go_wp2_with (go_at_call 16; (with_reducible refine (k1.out _).mono ?_); rintro _ v1 ⟨rfl, f1⟩; have cc1 := f1.cell cc0 (fun e => e); have hown1 := hown0.fr f1 (fun _ _ e => e); have fr1 := fr0.trans f1 (fun _ _ e => e))
      refine hK.out _ _ cc1 (fun _ => ?_)
      clear hK K
      try simp only [put_lit2, List.set]
      refine wpAnyH_only2 8 (by kernel_rfl) rfl (by kernel_rfl) (fun K hK => ?_)
      go_simp
      go_wp2_with (go_at_call 65; (with_reducible refine (p1.out _).mono ?_); rintro _ v2 ⟨rfl, f2⟩; have cc2 := f2.cell cc1 (fun e => e); have hown2 := hown1.fr f2 (fun _ _ e => e); have fr2 := fr1.trans f2 (fun _ _ e => e))
      refine hK.out _ _ cc2 (fun _ => ?_)
      clear hK K
      try simp only [put_lit2, List.set]
      refine wpAnyH_only2 10 (by kernel_rfl) rfl (by kernel_rfl) (fun K hK => ?_)
      go_simp
      go_wp2_with (go_at_call 16; (with_reducible refine (k2.out _).mono ?_); rintro _ v3 ⟨rfl, f3⟩; have cc3 := f3.cell cc2 (fun e => e); have hown3 := hown2.fr f3 (fun _ _ e => e); have fr3 := fr2.trans f3 (fun _ _ e => e))
      refine hK.out _ _ cc3 (fun _ => ?_)
      clear hK K
      try simp only [put_lit2, List.set]
      refine wpAnyH_only2 11 (by kernel_rfl) rfl (by kernel_rfl) (fun K hK => ?_)
      go_simp
      go_wp2_with (go_at_call 65; (with_reducible refine (p2.out _).mono ?_); rintro _ v4 ⟨rfl, f4⟩; have cc4 := f4.cell cc3 (fun e => e); have hown4 := hown3.fr f4 (fun _ _ e => e); have fr4 := fr3.trans f4 (fun _ _ e => e))
      refine hK.out _ _ cc4 (fun _ => ?_)
      clear hK K
      try simp only [put_lit2, List.set]
      refine wpAnyH_only2 13 (by kernel_rfl) rfl (by kernel_rfl) (fun K hK => ?_)
      go_simp
      go_wp2_with (go_at_call 16; (with_reducible refine (k3.out _).mono ?_); rintro _ v5 ⟨rfl, f5⟩; have cc5 := f5.cell cc4 (fun e => e); have hown5 := hown4.fr f5 (fun _ _ e => e); have fr5 := fr4.trans f5 (fun _ _ e => e))
      refine hK.out _ _ cc5 (fun _ => ?_)
      clear hK K
      try simp only [put_lit2, List.set]
      refine wpAnyH_only2 14 (by kernel_rfl) rfl (by kernel_rfl) (fun K hK => ?_)
      go_simp
      go_wp2_with (go_at_call 65; (with_reducible refine (p3.out _).mono ?_); rintro _ v6 ⟨rfl, f6⟩; have cc6 := f6.cell cc5 (fun e => e); have hown6 := hown5.fr f6 (fun _ _ e => e); have fr6 := fr5.trans f6 (fun _ _ e => e))
      refine hK.out _ _ cc6 (fun _ => ?_)
      clear hK K
      try simp only [put_lit2, List.set]
      refine wpAnyH_take (i := 15) (v := ?_) rfl (by kernel_rfl) (by kernel_rfl) (by kernel_rfl) (fun _ _ _ h => h) (Or.inl ⟨by kernel_rfl, ?_⟩) cc6 ?_
      rotate_left
      focus (intro w' hSw; have b1 := hSw; (try dsimp only at b1); go_simp; (try with_reducible rfl))
      try simp only [put_lit2, List.set]
      refine wpAnyH_only2 16 (by kernel_rfl) rfl (by kernel_rfl) (fun K hK => ?_)
      go_simp
      have cc7 := cell_alloc cc6 (.cells #[.int .i64 ((k : Int) + 1), .int .i64 mm, .int .u64 (Q1 : Int), .int .u64 (Q2 : Int), .int .u64 (Q3 : Int)] 62)
      have hown7 := hown6.alloc (.cells #[.int .i64 ((k : Int) + 1), .int .i64 mm, .int .u64 (Q1 : Int), .int .u64 (Q2 : Int), .int .u64 (Q3 : Int)] 62)
      have hrd7 := Rd.blk (n := 1) (size := 5) (Blk.new v6 62 #[.int .i64 ((k : Int) + 1), .int .i64 mm, .int .u64 (Q1 : Int), .int .u64 (Q2 : Int), .int .u64 (Q3 : Int)]) rfl
      refine hK.out _ _ cc7 (fun _ => ?_)
      clear hK K
      go_simp
      refine wpAnyH_ready (rs := [17]) (by kernel_rfl) (by simp) (AllReadyH.cons rfl (fun K hK => ?_) AllReadyH.nil)
      refine step_app (base := w.heap.size) (.tmp 14) (.tmp 30) 55 (by rfl) (by rfl) (by rfl) (by rfl) slCd hown7 hrd7 (by simp [Value.oneCell']) (by omega) (by omega) (by rw [World.size_alloc]; have := fr6.size; omega) ?_
      intro A2 c2 w9 own9 fr9 hat9
      have cc9 := fr9.cell cc7 (fun e => by have h : w.heap.size ≤ b := (hown.row b e).1; omega)
      refine hK.out _ _ cc9 (fun _ => ?_)
      clear hK K
      go_simp
      refine wpAnyH_take (i := 18) (v := ?_) rfl (by kernel_rfl) (by kernel_rfl) (by kernel_rfl) (fun _ _ _ h => h) (Or.inl ⟨by kernel_rfl, ?_⟩) cc9 ?_
      rotate_left
      focus (intro w' hSw; have b1 := hSw; (try dsimp only at b1); go_simp; (try with_reducible rfl))
      try simp only [put_lit2, List.set]
      refine wpAnyH_done (by kernel_rfl) ?_ _
      go_wp2
      go_roundw
      case rel => exact ⟨k + 1, A2, c2, by go_num, rfl, by omega, hfin.out A2 c2 _ own9, (fr6.alloc _).trans fr9 (fun j hj e => by have := (hown.row j e).1; omega)⟩
      case measure => simp [intOf]; omega
    · obtain rfl : k = n := by omega
      have ht : l.take k = l := List.take_of_length_le (by rw [hn.out]; exact Nat.le_refl _)
      rw [ht] at hown
      go_wp2
      go_ret
      exact ⟨A', c', rfl, hown, hf⟩
end Oq
end Go.Proofs.YthmlaigpdpdpjaaGreatDoor
