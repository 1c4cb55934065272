/-
  The sum of layer 2, of a label and numbers.
  Conditions: the numbers are of their kind; they, and the label's bytes, are no more than 2^40.
-/
import Derived.Test.YtlcomikbmbnddaaHashWords2
namespace Go.Proofs.Ytlcomikbmbnddaa
open Go.RowKit Go.Shelf
attribute [local go_sem ↓] Go.wp_at_zero Go.wp_at_succ
attribute [local go_sem] Oper.semAt_some

set_option maxHeartbeats 4000000 in
theorem of_any (label : List UInt8) (l : List Nat) (A : Option Addr) (n c B : Nat) (w : World) (hn : Hid (l.length = n)) (hl : label.length ≤ 1099511627776) (hn' : n ≤ 1099511627776) (hr : Rd w B 1 A n (l.map Wv)) (hx : ∀ x ∈ l, x < 18446744073709551616) :
    Calls Try.prog 40 #[.string (str label), .slice A n c] w (PowPost (Hs.of label l) w) := by
  have hsz := str_size label
  refine callsIn_wide.1 (callsIn_of_wp_marks (n := 3) Try.func40 rfl trivial ?_ rfl)
  simp only [Try.ntmps40, List.size_toArray, List.length_cons, List.length_nil, Nat.reduceAdd, Nat.reduceSub, Array.replicate_succ, Array.replicate_zero, List.push_toArray, List.append_toArray, List.nil_append, List.cons_append]
  refine wpIn_wide.2 ?_
  obtain ⟨c1, w1, hrun1, hrd1, hf1, hz1, hc1, _⟩ := run_bytes 9 23 5 Try.underlying9 Try.underlying23 Try.underlying5 label (w.alloc (.cells #[.int .u64 (label.length : Int), .int .u64 0] 63))
  have hb0 := Blk.new w 63 #[.int .u64 (label.length : Int), .int .u64 0]
  have hw1 := ((Fr.refl Non w).alloc (.cells #[.int .u64 (label.length : Int), .int .u64 0] 63)).trans hf1 (fun _ _ e => e)
  have hb1 := hb0.fr hf1 (fun e => e)
  rw [World.size_alloc] at hrun1 hrd1 hz1
  go_wp2_with (fail)
  refine (words_any _ label.length c1 _).mono ?_
  rintro _ w2 ⟨rfl, hbw, hf2, hz2⟩
  go_wp2_with (fail)
  have hw2 := hw1.trans hf2 (fun _ _ e => e)
  have hb2 := hb1.fr hf2 (fun e => e)
  have hrd2 := hrd1.fr hf2 (fun _ _ e => e)
  rw [hz1] at hbw
  obtain ⟨F0, hF0⟩ := hid_ex (Hs.foldT (Hs.words label) 0 label.length)
  have hwl := Hs.words_len label
  refine range_any (n := 3) (gf := 52) (lb := #[.pointer (some ⟨w.heap.size + 1 + 1, 0, none⟩)]) rfl (enters_of Try.func52 (by kernel_rfl) rfl) (encs := encW) (xs := Hs.words label)
    (S := Five (w2.heap.size + 2)) (Tb := One w.heap.size) (C := w2.heap.size + 2 + 5) (fun _ => rfl) ?_ (by unfold Five; omega) (by unfold One; omega)
    (fun i W => ∃ s : Nat, Blk W w.heap.size 63 #[.int .u64 (s : Int), .int .u64 (i : Int)] ∧ s < 9223372036854775808 ∧ Hid (Hs.foldT ((Hs.words label).drop i) i s = F0) ∧ Fr Non w W) ?_ ?_ ?_ ?_
  · intro W1 hf hs
    rw [← hs]
    exact words_seq _ _ _ c1 _ label rfl hc1 hl _ W1 (by omega) (hbw.fr hf (fun e => e)) (hrd2.fr hf (fun _ _ e => e)) (fun _ k hk e => by unfold One at e; simp [rowOf] at hk; omega) (fun k hk e => by unfold One at e; unfold Five at hk; omega)
  · rintro i X Y ⟨s, hb, hs, hd, hf⟩ hXY
    refine ⟨s, hb.fr hXY (by unfold Five; omega), hs, hd, hf.trans hXY (fun k hk e => by unfold Five at e; unfold Non; omega)⟩
  · exact ⟨label.length, hb2, by omega, hF0, hw2⟩
  · intro i x W hx
    have hdr : (Hs.words label).drop i = x :: (Hs.words label).drop (i + 1) := drop_cons hx
    have hxl : x < 72057594037927936 := Hs.words_lt _ label x (List.mem_of_getElem? hx)
    have hil : i < (Hs.words label).length := (List.getElem?_eq_some_iff.1 hx).1
    unfold encW
    simp only []
    gi_wp2
    refine ⟨trivial, ?_⟩
    rintro W2 ⟨s, hb, hs, hd, hf⟩ hC
    rw [hdr] at hd
    have hd' : Hid (Hs.foldT ((Hs.words label).drop (i + 1)) (i + 1) (Hs.tk s x (i + 1)) = F0) := hd
    clear hd hdr
    have htk := Hs.tk_lt s x (i + 1)
    have hblt := hb.lt
    gi_wp2_with (first | (refine ⟨trivial, rfl, ?_⟩; gi_at_call 47; refine (callsRound (take_any (W2.heap.size + 1) w.heap.size 1 1 _ [x] s i _ rfl (hb.alloc _) (Rd.one _ _ _) (by simp [rowOf]; omega) (by simp; omega) (by omega) hs)).mono ?_; rintro _ w3 ⟨rfl, hb3, hf3⟩))
    have htk' : Hs.foldT [x] i s < 9223372036854775808 := by show Hs.tk s x (i + 1) < _; omega
    exact ⟨⟨_, hb3, htk', hd', (hf.alloc _).trans hf3 (fun k hk e => by unfold One at e; unfold Non; omega)⟩, ((Fr.refl (One w.heap.size) W2).alloc _).trans hf3 (fun _ _ e => e)⟩
  · rintro W ⟨s, hb, hs, hd, hf⟩ hD
    rw [List.drop_length] at hd
    rw [hz2, hz1] at hD
    have hd' : s = F0 := hd.out
    subst hd'
    clear hd
    obtain ⟨m, hm⟩ := hid_ex (Hs.words label).length
    rw [hm.out] at hb hwl
    have hblt := hb.lt
    have hDlt := (Array.getElem?_eq_some_iff.1 hD).1
    have hof : Hid (Hs.of label l = Hs.tk (Hs.foldT (l.map num) (m + 1) (Hs.tk s n (m + 1))) 0 (m + 1 + n + 1)) := by
      show _ = _
      unfold Hs.of
      rw [Hs.foldT_snoc, Hs.foldT_app, Hs.foldT_snoc, hF0.out]
      simp only [List.length_append, List.length_map, hm.out, hn.out, Nat.zero_add, List.length_cons, List.length_nil]
    obtain ⟨F1, hF1⟩ := hid_ex (Hs.tk s n (m + 1))
    have lF1 := Hs.tk_lt s n (m + 1)
    rw [hF1.out] at hof lF1
    obtain ⟨F2, hF2⟩ := hid_ex (Hs.foldT (l.map num) (m + 1) F1)
    have lF2 := Hs.foldT_lt (l.map num) (m + 1) F1 lF1
    rw [hF2.out] at hof lF2
    have hsz1 := hf.size
    go_wp2_with (fail)
    refine (take_any (W.heap.size + 1) w.heap.size 1 1 _ [n] s m _ rfl (hb.alloc _) (Rd.one _ _ _) (by simp [rowOf]; omega) (by simp; omega) (by omega) hs).mono ?_
    rintro _ w3 ⟨rfl, hb3, hf3⟩
    have hb3' : Blk w3 w.heap.size 63 #[.int .u64 (F1 : Int), .int .u64 ((m + 1 + 0 : Nat) : Int)] := by rw [← hF1.out]; exact hb3
    have hw3 := (hf.alloc _).trans hf3 (fun k hk e => by unfold One at e; unfold Non; omega)
    have hD3 := (((Fr.refl (One w.heap.size) W).alloc _).trans hf3 (fun _ _ e => e)).obj hD (by unfold One; omega)
    go_wp2
    go_loopw [27] (fun v wr => ∃ (i s' : Nat), v = .int .i64 (i : Int) ∧ i ≤ n ∧ Blk wr w.heap.size 63 #[.int .u64 (s' : Int), .int .u64 ((m + 1 + i : Nat) : Int)] ∧ s' < 9223372036854775808 ∧ Hid (Hs.foldT ((l.map num).drop i) (m + 1 + i) s' = F2) ∧ Fr Non w wr ∧ wr.heap[w.heap.size + 1 + 1 + 1]? = some (.deferred (some []))) (fun v _ => n - (intOf v).toNat)
    case atStart => exact ⟨0, F1, rfl, Nat.zero_le _, hb3', by omega, hF2, hw3, hD3⟩
    case round =>
      obtain ⟨i, s', rfl, hi, hbi, hs', hdi, hfi, hDi⟩ := hrel
      have hDl := (Array.getElem?_eq_some_iff.1 hDi).1
      have hbl := hbi.lt
      by_cases hlt : i < n
      · obtain ⟨b, off, u, rfl, hb', hxu, hcu⟩ := (hr.fr hfi (fun _ _ e => e)).at hlt
        obtain ⟨x, hx0, rfl⟩ := word_of hxu
        have hxl := hx x (List.mem_of_getElem? hx0)
        have hdr : (l.map num).drop i = num x :: (l.map num).drop (i + 1) := drop_cons (by rw [List.getElem?_map, hx0]; rfl)
        rw [hdr] at hdi
        have hd' : Hid (Hs.foldT ((l.map num).drop (i + 1)) (m + 1 + i + 1) (Hs.tk s' (num x) (m + 1 + i + 1)) = F2) := hdi
        have htk := Hs.tk_lt s' (num x) (m + 1 + i + 1)
        clear hdi hdr hxu hx0
        go_wp2_with (fail)
        refine (num_any x _ hxl).mono ?_
        rintro _ _ ⟨rfl, rfl⟩
        have lnx := num_lt x
        obtain ⟨y, hy⟩ := hid_ex (num x)
        rw [hy.out] at lnx hd' htk
        rw [hy.out]
        go_wp2_with (fail)
        refine (take_any (wr.heap.size + 1) w.heap.size 1 1 _ [y] s' (m + 1 + i) _ rfl (hbi.alloc _) (Rd.one _ _ _) (by simp [rowOf]; omega) (by simp; omega) (by omega) hs').mono ?_
        rintro _ w4 ⟨rfl, hb4, hf4⟩
        have hb4' : Blk w4 w.heap.size 63 #[.int .u64 (Hs.tk s' y (m + 1 + i + 1) : Int), .int .u64 ((m + 1 + (i + 1) : Nat) : Int)] := hb4
        have hw4 := (hfi.alloc _).trans hf4 (fun k hk e => by unfold One at e; unfold Non; omega)
        have hD4 := (((Fr.refl (One w.heap.size) wr).alloc _).trans hf4 (fun _ _ e => e)).obj hDi (by unfold One; omega)
        obtain ⟨t, ht⟩ := hid_ex (Hs.tk s' y (m + 1 + i + 1))
        rw [ht.out] at hb4' hd' htk
        clear hb4 hf4
        go_wp2
        exact ⟨⟨i + 1, t, rfl, by omega, hb4', by omega, hd', hw4, hD4⟩, by simp [intOf]; omega⟩
      · rw [show (l.map num).drop i = [] from List.drop_eq_nil_iff.2 (by rw [List.length_map, hn.out]; omega)] at hdi
        obtain rfl : i = n := by omega
        have e2 : s' = F2 := hdi.out
        subst e2
        clear hdi
        have htk := Hs.tk_lt s' 0 (m + 1 + i + 1)
        go_wp2_with (fail)
        refine (take_any (wr.heap.size + 1) w.heap.size 1 1 _ [0] s' (m + 1 + i) _ rfl (hbi.alloc _) (Rd.one _ _ _) (by simp [rowOf]; omega) (by simp) (by omega) hs').mono ?_
        rintro _ w4 ⟨rfl, hb4, hf4⟩
        have hb4' : Blk w4 w.heap.size 63 #[.int .u64 (Hs.of label l : Int), .int .u64 ((m + 1 + i + 1 : Nat) : Int)] := by rw [hof.out]; exact hb4
        have hw4 := (hfi.alloc _).trans hf4 (fun k hk e => by unfold One at e; unfold Non; omega)
        have hD4 := (((Fr.refl (One w.heap.size) wr).alloc _).trans hf4 (fun _ _ e => e)).obj hDi (by unfold One; omega)
        have hc4 := hb4'.cell 0
        obtain ⟨t, ht⟩ := hid_ex (Hs.of label l)
        rw [ht.out] at hc4
        clear hb4 hf4 hb4' hof
        go_wp2
        refine ⟨by simp, .inl ⟨_, _, rfl, run_takeDeferred hD4, ?_⟩⟩
        exact ⟨_, results_tmp rfl _ _ _, by rw [ht.out]; rfl, hw4.putObj (fun h => by omega) _⟩
end Go.Proofs.Ytlcomikbmbnddaa
