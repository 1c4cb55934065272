/-
  The field's power, by squares.
  Conditions: the arguments are of their kind.
-/
import Derived.Test.YtlcomikbmbnddaaFieldPow
namespace Go.Proofs.Ytlcomikbmbnddaa
open Go.RowKit Go.Shelf
attribute [local go_sem ↓] Go.wp_at_zero Go.wp_at_succ
attribute [local go_sem] Oper.semAt_some

def PowPost (v : Nat) (w : World) (r : Ending) (w' : World) : Prop := r = .returned (.int .u64 (v : Int)) ∧ Fr Non w w'

theorem pow_any (a n : Nat) (w : World) (ha : a < 18446744073709551616) (hn : n < 18446744073709551616) :
    Calls Try.prog 20 #[.int .u64 (a : Int), .int .u64 (n : Int)] w (PowPost (Fd.pow a n) w) := by
  refine callsIn_wide.1 (callsIn_of_wp_marks (n := 3) Try.func20 rfl trivial ?_ rfl)
  simp only [Try.ntmps20, List.size_toArray, List.length_cons, List.length_nil, Nat.reduceAdd, Nat.reduceSub, Array.replicate_succ, Array.replicate_zero, List.push_toArray, List.append_toArray, List.nil_append, List.cons_append]
  refine wpIn_wide.2 ?_
  have hb0 := Blk.new w 22 #[.int .u64 1]
  have hf0 : Fr Non w (w.alloc (.cells #[.int .u64 1] 22)) := (Fr.refl _ _).alloc _
  go_wp2_with (fail)
  refine (squares_any a n _).mono ?_
  rintro _ w1 ⟨rfl, hba, hbn, hf1, hz1⟩
  have hb1 := hb0.fr hf1 (fun e => e)
  rw [World.size_alloc] at hba hbn hz1
  go_wp2_with (fail)
  have hw1 : Fr Non w w1 := hf0.trans hf1 (fun _ _ e => e)
  have hz : w1.heap.size = w.heap.size + 3 := by omega
  refine range_any (n := 3) (gf := 43) (lb := #[.pointer (some ⟨w.heap.size + 1, 0, none⟩), .pointer (some ⟨w.heap.size + 1 + 1, 0, none⟩)]) rfl (enters_of Try.func43 (by kernel_rfl) rfl) (encs := encSq) (xs := Fd.sqs 64 (num a) n)
    (S := One (w.heap.size + 1 + 1)) (Tb := One w.heap.size) (C := w1.heap.size + 2) (fun _ => rfl) ?_ ?_ ?_
    (fun i W => ∃ o : Nat, Blk W w.heap.size 22 #[.int .u64 (o : Int)] ∧ o < 2305843009213693951 ∧ Hid (Fd.foldS ((Fd.sqs 64 (num a) n).drop i) o = Fd.pow a n) ∧ Fr Non w W) ?_ ?_ ?_ ?_
  · intro W1 hf hs
    rw [← hs]
    exact squares_seq a n _ _ ha hn _ (by unfold One; omega) W1 (hba.fr hf (fun e => e)) (hbn.fr hf (fun e => e))
  · unfold One; omega
  · unfold One; omega
  · rintro i A B ⟨o, hb, ho, hd, hf⟩ hAB
    exact ⟨o, hb.fr hAB (by unfold One; omega), ho, hd, hf.trans hAB (fun k hk e => by unfold One at e; unfold Non; omega)⟩
  · exact ⟨1, hb1, by omega, rfl, hw1⟩
  · intro i x W hx
    obtain ⟨b, t⟩ := x
    have hbl : b < 2305843009213693951 := Fd.sqs_lt 64 (num a) n (b, t) (num_lt a) (List.mem_of_getElem? hx)
    have hdr : (Fd.sqs 64 (num a) n).drop i = (b, t) :: (Fd.sqs 64 (num a) n).drop (i + 1) := drop_cons hx
    unfold encSq
    simp only []
    gi_wp2
    refine ⟨trivial, ?_⟩
    rintro W2 ⟨o, hb, ho, hd, hf⟩ hC
    rw [hdr] at hd
    have hc := hb.cell 0
    have hfz := hb.frozen 0
    cases t with
    | false =>
      gi_wp2
      exact ⟨⟨o, hb, ho, hd, hf⟩, Fr.refl _ _⟩
    | true =>
      have hml := Fd.mul_bd o b
      have hd' : Hid (Fd.foldS ((Fd.sqs 64 (num a) n).drop (i + 1)) (Fd.mul o b) = Fd.pow a n) := hd
      clear hd
      obtain ⟨m, hm⟩ := hid_ex (Fd.mul o b)
      rw [hm.out] at hd' hml
      gi_wp2_with (first | (refine ⟨trivial, rfl, ?_⟩; gi_at_call 22; refine (callsRound (mul_any o b (by omega) (by omega) _)).mono ?_; rw [hm.out]; rintro _ _ ⟨rfl, rfl⟩))
      exact ⟨⟨m, hb.set 0 _, hml, hd', hf.setNew (Nat.le_refl _) _ _⟩, (Fr.refl (One w.heap.size) W2).setOne _ _⟩
  · rintro W ⟨o, hb, ho, hd, hf⟩ hD
    rw [List.drop_length] at hd
    have hc := hb.cell 0
    have ho' : o = Fd.pow a n := hd.out
    have ho'' := Lib.hid ho'
    clear hd ho'
    go_wp2
    refine ⟨by simp, .inl ⟨_, _, rfl, run_takeDeferred hD, ?_⟩⟩
    exact ⟨_, results_tmp rfl _ _ _, by rw [ho''.out]; rfl, hf.putObj (fun h => by omega) _⟩
end Go.Proofs.Ytlcomikbmbnddaa
