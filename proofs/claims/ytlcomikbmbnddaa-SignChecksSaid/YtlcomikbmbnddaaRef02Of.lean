/-
  The reference of layer 2: Of, Bytes, Secret.
  Conditions: the bytes, and the numbers, are no more than 2^40.
-/
import Derived.Test.YtlcomikbmbnddaaRef02
namespace Go.Proofs.Ytlcomikbmbnddaa
open Go.RowKit
attribute [local go_sem ↓] Go.wp_at_zero Go.wp_at_succ

set_option maxHeartbeats 4000000 in
theorem of02_any (label : List UInt8) (l : List Nat) (A : Option Addr) (n c B : Nat) (w : World) (hn : Hid (l.length = n)) (hl : label.length ≤ 1099511627776) (hn' : n ≤ 1099511627776) (hr : Rd w B 1 A n (l.map Wv)) (hx : ∀ x ∈ l, x < 18446744073709551616) :
    Calls Try.prog 41 #[.string (str label), .slice A n c] w (PowPost (Hs.of label l) w) := by
  have hsz := str_size label
  have hwl := Hs.words_len label
  have hws : ∀ x ∈ Hs.words label, x < 72057594037927936 := Hs.words_lt _ label
  have hof : Hid (Hs.of label l = Hs.foldT (Hs.words label ++ [n] ++ l.map num ++ [0]) 0 label.length) := by show _ = _; unfold Hs.of; rw [hn.out]
  obtain ⟨c1, w1, hrun1, hrd1, hf1, hz1, hc1, _⟩ := run_bytes 9 23 5 Try.underlying9 Try.underlying23 Try.underlying5 label w
  have hz1' := Lib.hid hz1
  clear hz1
  obtain ⟨ws, hW⟩ := hid_ex (Hs.words label)
  have hkw := Lib.hid (fun B hB hrd => words02_any (some ⟨w.heap.size, 0, none⟩) label.length c1 B label w1 rfl hl hB hrd)
  rw [hW.out] at hwl hws hof hkw
  obtain ⟨r, hrr⟩ := hid_ex (Hs.of label l)
  rw [hrr.out] at hof ⊢
  obtain ⟨m, hm⟩ := hid_ex ws.length
  rw [hm.out] at hwl
  go_enter Try.func41, Try.ntmps41
  go_wp2_with (fail)
  refine (hkw.out w1.heap.size (Nat.le_refl _) (hrd1.mono (by rw [hz1'.out]; exact Nat.le_refl _))).mono ?_
  rintro _ w2 ⟨A2, c2, rfl, hown2, hf2⟩
  rw [hm.out] at hown2
  rw [hm.out]
  have hw2 := hf1.trans hf2 (fun _ _ e => e)
  have hown2' : Own w2 w.heap.size 22 1 A2 m c2 (ws.map Wv) := hown2.lower (by rw [hz1'.out]; omega)
  have hs2 := hw2.size
  go_wp2_with (first | (at_builtin; go_loud (refine wpList_app (.tmp 12) (.tmp 16) 26 rfl rfl rfl rfl slW (hown2'.alloc _) (Rd.one _ _ _) (by simp [Value.oneCell']) (by omega) (by omega) (by simp; omega) ?_); intro A3 c3 w3 hown3 hf3 hat3))
  have hw3 := (hw2.alloc (.cells #[.int .u64 (n : Int)] 22)).trans hf3 (hown2'.notNon (Nat.le_refl _))
  have hown3' : Own w3 w.heap.size 22 1 A3 (m + 1) c3 ((ws ++ [n] ++ (l.map num).take 0).map Wv) := by rw [List.take_zero, List.append_nil, List.map_append]; exact hown3
  have z1 : ¬ (2305843009213693951 : Int) = 0 := by decide
  generalize eP : (2305843009213693951 : Int) = P at *
  have hP := Lib.hid eP
  clear eP hrun1
  go_loopw [5, 6] (fun s v wr => ∃ (i : Nat) (A' : Option Addr) (c' : Nat), v = .int .i64 (i : Int) ∧ s = .slice A' (m + 1 + i) c' ∧ i ≤ n ∧ Own wr w.heap.size 22 1 A' (m + 1 + i) c' ((ws ++ [n] ++ (l.map num).take i).map Wv) ∧ Fr Non w wr) (fun _ v _ => n - (intOf v).toNat)
  case atStart => exact ⟨0, A3, c3, rfl, rfl, Nat.zero_le _, hown3', hw3⟩
  case round =>
    obtain ⟨i, A', c', rfl, rfl, hi, hown, hf⟩ := hrel
    have hs := hf.size
    by_cases hlt : i < n
    · obtain ⟨b, off, u, rfl, hb', hxu, hcu⟩ := (hr.fr hf (fun _ _ e => e)).at hlt
      obtain ⟨x, hx0, rfl⟩ := word_of hxu
      have hxl := hx x (List.mem_of_getElem? hx0)
      have htake : Hid ((l.map num).take (i + 1) = (l.map num).take i ++ [num x]) := by
        have h1 : (l.map num)[i]? = some (num x) := by rw [List.getElem?_map, hx0]; rfl
        obtain ⟨h2, h3⟩ := List.getElem?_eq_some_iff.1 h1
        show _ = _
        rw [List.take_succ_eq_append_getElem h2, h3]
      have ly := num_lt x
      obtain ⟨fa, fa'⟩ := R1.nn (a := x) (c := num x) P hP.out rfl
      obtain ⟨y, hy⟩ := hid_ex (num x)
      rw [hy.out] at htake fa fa' ly
      have wy : IntKind.u64.wrap (y : Int) = (y : Int) := R1.w1 (Nat.lt_trans ly (by decide))
      clear hx0 hxu
      go_wp2_with (first | (at_builtin; go_loud (refine wpList_app (.tmp 24) (.tmp 30) 26 rfl rfl rfl rfl slW (hown.alloc _) (Rd.one _ _ _) (by simp [Value.oneCell']) (by omega) (by omega) (by simp; omega) ?_); intro A4 c4 w4 hown4 hf4 hat4))
      have hown5 : Own w4 w.heap.size 22 1 A4 (m + 1 + (i + 1)) c4 ((ws ++ [n] ++ (l.map num).take (i + 1)).map Wv) := by
        rw [htake.out, ← List.append_assoc, List.map_append]
        exact hown4
      have hf5 := (hf.alloc (.cells #[.int .u64 (y : Int)] 22)).trans hf4 (hown.notNon (Nat.le_refl _))
      exact ⟨⟨i + 1, A4, c4, by go_num, by first | rfl | (simp; omega), by omega, hown5, hf5⟩, by simp [intOf]; omega⟩
    · obtain rfl : i = n := by omega
      rw [List.take_of_length_le (by rw [List.length_map, hn.out]; exact Nat.le_refl _)] at hown
      have hal : ∀ x ∈ ws ++ [i] ++ l.map num ++ [0], x < 2305843009213693952 := by
        intro x hx
        simp only [List.mem_append, List.mem_singleton, List.mem_map] at hx
        rcases hx with ((h | h) | ⟨y, _, h⟩) | h
        · have := hws x h; omega
        · omega
        · have := num_lt y; omega
        · omega
      have hlal : Hid ((ws ++ [i] ++ l.map num ++ [0]).length = m + 1 + i + 1) := by show _ = _; simp only [List.length_append, List.length_map, List.length_cons, List.length_nil, hm.out, hn.out]
      obtain ⟨al, hal0⟩ := hid_ex (ws ++ [i] ++ l.map num ++ [0])
      rw [hal0.out] at hal hlal hof
      go_wp2_with (first | (at_builtin; go_loud (refine wpList_app (.tmp 32) (.tmp 33) 26 rfl rfl rfl rfl slW (hown.alloc _) (Rd.one _ _ _) (by simp [Value.oneCell']) (by omega) (by omega) (by simp; omega) ?_); intro A4 c4 w4 hown4 hf4 hat4))
      have hown5 : Own w4 w.heap.size 22 1 A4 (m + 1 + i + 1) c4 (al.map Wv) := by
        rw [← hal0.out, List.map_append]
        exact hown4
      have hf5 := (hf.alloc (.cells #[.int .u64 0] 22)).trans hf4 (hown.notNon (Nat.le_refl _))
      clear hown hown4 hf4 hat4
      generalize hna0 : m + 1 + i + 1 = na at *
      have hna : na ≤ 4398046511104 := by omega
      go_loopw [7, 8] (fun s v wy => ∃ (k s' : Nat), v = .int .i64 (k : Int) ∧ s = .int .u64 (s' : Int) ∧ k ≤ na ∧ s' < 9223372036854775808 ∧ Hid (Hs.foldT (al.drop k) k s' = r) ∧ Own wy w.heap.size 22 1 A4 na c4 (al.map Wv) ∧ Fr Non w wy) (fun _ v _ => na - (intOf v).toNat)
      case atStart => exact ⟨0, label.length, rfl, rfl, Nat.zero_le _, by omega, hof.out.symm, hown5, hf5⟩
      case round =>
        obtain ⟨k, s', rfl, rfl, hk, ls', hd, howny, hfy⟩ := hrel
        by_cases hlt2 : k < na
        · obtain ⟨b, off, u, hA4, hb', hxu, hcu⟩ := howny.rd.at hlt2
          subst hA4
          obtain ⟨x, hx0, rfl⟩ := word_of hxu
          have hxl := hal x (List.mem_of_getElem? hx0)
          have hdr : al.drop k = x :: al.drop (k + 1) := drop_cons hx0
          rw [hdr] at hd
          have hd' : Hid (Hs.foldT (al.drop (k + 1)) (k + 1) (Hs.tk s' x (k + 1)) = r) := hd
          clear hd hdr hxu hx0
          have hr0 : Hid (Hs.tk s' x (k + 1) = Fd.pow (num (Fd.mul 37 s' + num (x + (k + 1)))) 17) := rfl
          have lmm := Fd.mul_bd 37 s'
          have lpp := num_lt (x + (k + 1))
          have j1 : Hid (∀ w, Calls Try.prog 34 #[.int .u64 37, .int .u64 (s' : Int)] w fun e w' => e = .returned (.int .u64 (Fd.mul 37 s' : Int)) ∧ ∃ n, w' = w.drewN n) := fun w => mul01_any 37 s' w (by omega) (by omega)
          have j2 : Hid (∀ w, Calls Try.prog 49 #[.int .u64 (x : Int), .int .u64 ((k : Int) + 1)] w fun e w' => e = .returned (.int .u64 (num (x + (k + 1)) : Int)) ∧ w' = w) := fun w => (add01_any x (k + 1) w).mono fun _ _ h => ⟨h.1, h.2.symm⟩
          obtain ⟨mm, hmm⟩ := hid_ex (Fd.mul 37 s')
          obtain ⟨pp, hpp⟩ := hid_ex (num (x + (k + 1)))
          rw [hmm.out, hpp.out] at hr0
          rw [hmm.out] at j1 lmm
          rw [hpp.out] at j2 lpp
          have j3 : Hid (∀ w, Calls Try.prog 49 #[.int .u64 (mm : Int), .int .u64 (pp : Int)] w fun e w' => e = .returned (.int .u64 (num (mm + pp) : Int)) ∧ w' = w) := fun w => (add01_any mm pp w).mono fun _ _ h => ⟨h.1, h.2.symm⟩
          have lqq := num_lt (mm + pp)
          obtain ⟨qq, hqq⟩ := hid_ex (num (mm + pp))
          rw [hqq.out] at hr0 j3 lqq
          have lrr := Fd.pow_lt qq 17
          have j4 : Hid (∀ w, Calls Try.prog 24 #[.int .u64 (qq : Int), .int .u64 17] w fun e w' => e = .returned (.int .u64 (Fd.pow qq 17 : Int)) ∧ ∃ k, w' = w.drewN k) := fun w => pow01_any qq 17 w (by omega) (by omega)
          obtain ⟨t, ht⟩ := hid_ex (Fd.pow qq 17)
          rw [ht.out] at hr0 lrr j4
          rw [hr0.out] at hd'
          clear hmm hpp hqq ht hr0
          go_wp2
          go_quiet (first
            | (go_at_call 34; exact Calls.quiet_of (j1.out _))
            | (go_at_call 49; (with_reducible exact Calls.quiet_of_same (j2.out _)))
            | (go_at_call 49; (with_reducible exact Calls.quiet_of_same (j3.out _))))
          go_wp2_with (fail)
          refine (j4.out _).mono ?_
          rintro _ _ ⟨rfl, n2, rfl⟩
          go_wp2
          exact ⟨⟨k + 1, t, by go_num, rfl, by omega, by omega, hd', howny.drewN _, hfy.drewN _⟩, by simp [intOf]; omega⟩
        · rw [show al.drop k = [] from List.drop_eq_nil_iff.2 (by rw [hlal.out]; omega)] at hd
          have e : s' = r := hd.out
          go_wp2
          go_ret
          exact ⟨by rw [← e]; rfl, hfy⟩

theorem ofBytes02_any (label : List UInt8) (B n c : Nat) (A : Option Addr) (bs : List UInt8) (w : World) (hlen : Hid (bs.length = n)) (hn : n ≤ 1099511627775) (hl : label.length ≤ 1099511627776) (hB : B ≤ w.heap.size) (hr : Rd w B 1 A n (bs.map Bv)) :
    Calls Try.prog 42 #[.string (str label), .slice A n c] w (PowPost (Hs.ofBytes label bs) w) := by
  have hwl := Hs.words_len bs
  have hws : ∀ x ∈ Hs.words bs, x < 72057594037927936 := Hs.words_lt _ bs
  rw [hlen.out] at hwl
  have hof : Hid (Hs.ofBytes label bs = Hs.of label (Hs.words bs ++ [n])) := by show _ = _; unfold Hs.ofBytes; rw [hlen.out]
  go_enter Try.func42, Try.ntmps42
  go_wp2_with (fail)
  refine (words02_any A n c B bs _ hlen (by omega) hB hr).mono ?_
  rintro _ w2 ⟨A2, c2, rfl, hown2, hf2⟩
  have hs2 := hf2.size
  obtain ⟨ws, hW⟩ := hid_ex (Hs.words bs)
  rw [hW.out] at hwl hws hown2 hof
  rw [hW.out]
  go_wp2_with (first | (at_builtin; go_loud (refine wpList_app (.tmp 7) (.tmp 11) 26 rfl rfl rfl rfl slW (hown2.alloc _) (Rd.one _ _ _) (by simp [Value.oneCell']) (by omega) (by omega) (by simp; omega) ?_); intro A3 c3 w3 hown3 hf3 hat3))
  have hown3' : Own w3 w.heap.size 22 1 A3 (ws.length + 1) c3 ((ws ++ [n]).map Wv) := by rw [List.map_append]; exact hown3
  have hfw := (hf2.alloc (.cells #[.int .u64 (n : Int)] 22)).trans hf3 (hown2.notNon (Nat.le_refl _))
  refine (of02_any label (ws ++ [n]) A3 (ws.length + 1) c3 w3.heap.size w3 (by show _ = _; simp) hl (by omega) hown3'.rd (fun x hx => ?_)).mono ?_
  · rcases List.mem_append.1 hx with h | h
    · have := hws x h; omega
    · simp at h; omega
  · rintro _ w4 ⟨rfl, hf4⟩
    go_wp2
    go_ret
    exact ⟨by rw [hof.out]; rfl, hfw.trans hf4 (fun _ _ e => e)⟩

theorem secret02_any (label : List UInt8) (l : List Nat) (A : Option Addr) (n c B : Nat) (w : World) (hn : Hid (l.length = n)) (hl : label.length ≤ 1099511627776) (hn' : n ≤ 1099511627776) (hr : Rd w B 1 A n (l.map Wv)) (hx : ∀ x ∈ l, x < 18446744073709551616) :
    Calls Try.prog 29 #[.string (str label), .slice A n c] w (PowPost (Hs.secret label l) w) := by
  have hlt := Hs.of_lt label l
  have he : Hid (Hs.secret label l = 1 + Hs.of label l % 2305843009213693949) := rfl
  obtain ⟨v, hv⟩ := hid_ex (Hs.of label l)
  rw [hv.out] at he hlt
  rw [he.out]
  go_enter Try.func29, Try.ntmps29
  go_wp2_with (fail)
  refine (of02_any label l A n c B _ hn hl hn' hr hx).mono ?_
  rw [hv.out]
  rintro _ w4 ⟨rfl, hf4⟩
  go_wp2
  go_ret
  exact ⟨by simp, hf4⟩
end Go.Proofs.Ytlcomikbmbnddaa
