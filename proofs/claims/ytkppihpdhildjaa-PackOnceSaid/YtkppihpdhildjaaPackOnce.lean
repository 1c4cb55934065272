/-
  Layer 4, PackOnce: what is read without anything wrong, written again, is the same bytes.
  Condition: none.
-/
import Derived.Test.YtkppihpdhildjaaPackOnceLaw
import Derived.Test.YtkppihpdhildjaaOpenAny
import Derived.Test.YtkppihpdhildjaaRef04R2
namespace Go.Proofs.Ytkppihpdhildjaa
open Go.RowKit
attribute [local go_sem ↓] Go.wp_at_zero Go.wp_at_succ

theorem rdMany_bd {bs : List UInt8} {a : Nat} {e M v : Int} {a' : Nat} {e' : Int} (h : Hid (Pk.rdMany bs a e M = (v, a', e'))) : -9223372036854775808 ≤ v ∧ v ≤ 9223372036854775807 := by
  have h := h.out
  unfold Pk.rdMany at h
  split at h
  · injection h with h1 _
    omega
  · exact rdInt_bd h
theorem rdIdent_bd {bs : List UInt8} {a : Nat} {e vb vs : Int} {vu a' : Nat} {e' : Int} (h : Hid (Pk.rdIdent bs a e = ((vb, vs, vu), a', e'))) :
    (-9223372036854775808 ≤ vb ∧ vb ≤ 9223372036854775807) ∧ (-9223372036854775808 ≤ vs ∧ vs ≤ 9223372036854775807) ∧ vu < 18446744073709551616 := by
  have h := h.out
  unfold Pk.rdIdent at h
  split at h
  · injection h with h1 _
    injection h1 with h1 h2; injection h2 with h2 h3
    omega
  · injection h with h1 _
    injection h1 with h1 h2; injection h2 with h2 h3
    subst h1 h2 h3
    exact ⟨Pk.unfold_bd (Pk.rd_lt _ _ _), Pk.unfold_bd (Pk.rd_lt _ _ _), Pk.rd_lt _ _ _⟩
theorem rdText_len {bs s : List UInt8} {a : Nat} {e : Int} {a' : Nat} {e' : Int} (h : Hid (Pk.rdText bs a e = (s, a', e'))) : s.length ≤ bs.length := by
  have h := h.out
  unfold Pk.rdText at h
  repeat' split at h
  all_goals
    injection h with h1 _
    subst h1
    first | exact Nat.zero_le _ | (rw [List.length_take, List.length_drop]; omega)

set_option maxRecDepth 100000 in
set_option maxHeartbeats 8000000 in
theorem once_any (Ab : Option Addr) (cb : Nat) (bb : List UInt8) (A : Option Addr) (c : Nat) (l : List OD) (w : World) (hrb : Rd w w.heap.size 1 Ab bb.length (bb.map Bv)) (hcb : bb.length ≤ cb) (hcb' : cb ≤ 9223372036854775807)
    (hok : ∀ o ∈ l, OD.ok o) (hr : Rd w w.heap.size 3 A l.length (l.flatMap OD.cells)) (_hc : l.length ≤ c) :
    Calls Try.prog 8 #[.slice Ab bb.length cb, .slice A l.length c] w (LivesPost w) := by
  generalize hlen0 : l.length = n at *
  have hlen := Lib.hid hlen0
  clear hlen0
  go_enter Try.func8, Try.ntmps8
  go_wp2_with (fail)
  refine (few_any Ab cb bb 40 w hrb hcb hcb' (by omega)).mono ?_
  rintro _ w1 ⟨A1, c1, rfl, hown1, hf1⟩
  have hl0 : (bb.take 40).length ≤ 40 := List.length_take_le _ _
  obtain ⟨F, hF⟩ := hid_ex (bb.take 40)
  rw [hF.out] at hown1 hl0
  rw [hF.out]
  obtain ⟨m, hFl⟩ := hid_ex F.length
  rw [hFl.out] at hown1 hl0
  rw [hFl.out]
  have hs1 := hf1.size
  have hcap1 := hown1.cap
  have hrow1 := hown1.row
  go_wp2_with (fail)
  refine (opened_any w1.heap.size m c1 A1 F w1 hFl hown1.rd (by omega)).mono ?_
  rintro _ w3 ⟨g, A3, c3, rfl, hin3, hown3, hf3, hg3, hrg3, hF62⟩
  have hs3 := hf3.size
  have hi3 := inAt_of hin3 hown3 hrg3 hF62
  have hgl := hi3.lt
  have hf03 := hf1.trans hf3 (fun _ _ e => e)
  have hown13 := hown1.fr hf3 (fun _ _ e => e)
  clear hin3 hown3 hrg3 hown1 hf1 hf3 hrb
  go_wp2
  go_loopw [7, 8] (fun s v wr => ∃ (i a : Nat) (A' : Option Addr) (c' : Nat), v = .int .i64 (i : Int) ∧ s = .slice A' a c' ∧ i ≤ n ∧ i ≤ 12 ∧ a ≤ m ∧ InAt wr g g F a 0 ∧ Own wr w3.heap.size 5 1 A' a c' ((F.take a).map Bv) ∧ Own wr w.heap.size 5 1 A1 m c1 (F.map Bv) ∧ Fr Non w wr ∧ w3.heap.size ≤ wr.heap.size) (fun _ v _ => n - (intOf v).toNat)
  case atStart => exact ⟨0, 0, none, 0, rfl, rfl, by omega, by omega, by omega, hi3, Own.nil _ _ _ _, hown13, hf03, Nat.le_refl _⟩
  case round =>
    obtain ⟨i, a, A', c', rfl, rfl, hin, hi12, ham, hi, howna, hown1, hf, hsr⟩ := hrel
    have hcapa := howna.cap
    have hrowa := howna.row
    by_cases hlt : i < n ∧ i < 12
    · obtain ⟨h1, h2⟩ := hlt
      obtain ⟨o, hoo⟩ : ∃ o, l[i]? = some o := ⟨_, List.getElem?_eq_getElem (by rw [hlen.out]; exact h1)⟩
      obtain ⟨o0, o1, o2, o3, o4⟩ := hok o (List.mem_of_getElem? hoo)
      obtain ⟨b, off, rfl, hb, k0, k1, k2⟩ := OD.at (hr.fr hf (fun _ _ e => e)) hoo
      clear hoo
      have hbg : b < g := by omega
      obtain ⟨K, hK⟩ := hid_ex (around o.d 7)
      have haF : a ≤ F.length := by rw [hFl.out]; exact ham
      have haF' := Lib.hid haF
      clear haF
      go_wp2_with (fail)
      refine (inLeft_any g g F a 0 _ hi).mono ?_
      rintro _ w4 ⟨rfl, hi4, hf4⟩
      rw [hFl.out]
      have hs4 := hf4.size
      have q0 := hf4.cell k0 (by unfold One; show ¬ b = g; omega)
      have howna4 := howna.fr hf4 (fun k hk => by have := hrowa k hk; unfold One; omega)
      have hown14 := hown1.fr hf4 (fun k hk => by have := hrow1 k hk; unfold One; omega)
      have hff4 := hf.trans hf4 (fun k hk e => by unfold One at e; omega)
      have ho5 : OutAt (w4.alloc (.cells #[.slice none 0 0] 26)) w4.heap.size w4.heap.size none 0 [] := ⟨Blk.new w4 _ _, Own.nil _ _ _ _, Nat.le_refl _⟩
      have hi5 := hi4.alloc (.cells #[.slice none 0 0] 26)
      have howna5 := howna4.alloc (.cells #[.slice none 0 0] 26)
      have hown15 := hown14.alloc (.cells #[.slice none 0 0] 26)
      have hff5 := hff4.alloc (.cells #[.slice none 0 0] 26)
      have q05 := ((Fr.refl Non w4).alloc (.cells #[.slice none 0 0] 26)).cell q0 (fun e => e)
      go_wp2_with (fail)
      refine (around_any o.d 7 _ o0 o1 (by omega) (by omega)).mono ?_
      rw [hK.out]
      rintro _ _ ⟨rfl, rfl⟩
      rcases kinds K with hk | ⟨k1', hk⟩ | ⟨k1', k2', hk⟩ | ⟨k1', k2', k3', hk⟩ | ⟨k1', k2', k3', k4', hk⟩ | ⟨k1', k2', k3', k4', hk⟩
      · obtain ⟨v, a', e', hx⟩ := hid_ex3 (Pk.rd F a 0)
        go_wp2_with (fail)
        refine (inNum_any g g F a 0 v a' e' _ hi5 hx).mono ?_
        rintro _ w6 ⟨rfl, hi6, hf6⟩
        have ho6 := ho5.fr hf6 (by unfold One; omega) (fun k hk => by cases hk)
        have howna6 := howna5.fr hf6 (fun k hk => by have := hrowa k hk; unfold One; omega)
        have hown16 := hown15.fr hf6 (fun k hk => by have := hrow1 k hk; unfold One; omega)
        have hff6 := hff5.trans hf6 (fun k hk e => by unfold One at e; omega)
        go_wp2_with (fail)
        refine (outNum_any _ _ _ _ [] v _ ho6 (rd_bd hx) (by simp)).mono ?_
        rintro _ w7 ⟨rfl, A7, c7, ho7, hst7⟩
        rw [List.nil_append] at ho7
        have hon := Lib.hid (Pk.once_num haF'.out hx.out)
        obtain ⟨W, hW⟩ := hid_ex (Pk.num v)
        rw [hW.out] at hon ho7
        have hs0 := hf.size
        have hs6 := hf6.size
        simp at hs6
        have hs7 := hst7.fr.size
        have ha6 := hi6.le
        rw [hFl.out] at ha6
        have hi7 := hi6.fr hst7.fr (fun k hk e => by
          rcases e with e | e
          · omega
          · cases e) (fun e => by
          rcases e with e | e
          · omega
          · cases e)
        have howna7 := howna6.fr hst7.fr (fun k hk e => by
          have := hrowa k hk
          rcases e with e | e
          · omega
          · cases e)
        have hown17 := hown16.fr hst7.fr (fun k hk e => by
          have := hrow1 k hk
          rcases e with e | e
          · omega
          · cases e)
        have hff7 := hff6.trans hst7.fr (fun k hk e => by
          rcases e with e | e
          · omega
          · cases e)
        by_cases he : e' = 0
        · subst he
          have hW2 := hon.out.1 rfl
          have hWl : a' = a + W.length := by
            have := congrArg List.length hW2
            rw [List.length_append, List.length_take, List.length_take, hFl.out] at this
            omega
          have hW2' := Lib.hid hW2
          clear hW2 hon
          have hWb : a + W.length ≤ m := by omega
          have hWl' := Lib.hid hWl
          clear hWl
          go_wp2_with (fail)
          refine (inErr_any g g F a' 0 _ hi7).mono ?_
          rintro _ _ ⟨rfl, rfl⟩
          go_wp2_with (fail)
          refine (outBytes_any _ _ _ _ _ _ ho7 (by omega)).mono ?_
          rintro _ w8 ⟨A8, c8, rfl, hown8, hf8⟩
          have hs8 := hf8.size
          have howna8 := howna7.fr hf8 (fun _ _ e => e)
          have hown18 := hown17.fr hf8 (fun _ _ e => e)
          have hi8 := hi7.fr hf8 (fun _ _ e => e) (fun e => e)
          have hff8 := hff7.trans hf8 (fun _ _ e => e)
          go_wp2_with (first | (at_builtin; go_loud (refine wpList_app (.tmp 73) (.tmp 74) 24 rfl rfl rfl rfl slB howna8 hown8.rd (Bv_one _) (by omega) (by omega) (by omega) ?_); intro A9 c9 w9 hown9 hf9 hat9))
          have hs9 := hf9.size
          have hi9 := hi8.fr hf9 (fun k hk e => by have := (howna8.row k e).1; omega) (fun e => by have := (howna8.row g e).1; omega)
          have hown19 := hown18.fr hf9 (fun k hk e => by have := (howna8.row k e).1; have := hrow1 k hk; omega)
          have hff9 := hff8.trans hf9 (fun k hk e => by have := (howna8.row k e).1; omega)
          rw [← List.map_append, ← hW2'.out, ← hWl'.out] at hown9
          rw [← hWl'.out]
          go_wp2_with (fail)
          refine (inLeft_any g g F a' 0 _ hi9).mono ?_
          rintro _ w10 ⟨rfl, hi10, hf10⟩
          rw [hFl.out]
          have hown110 := hown19.fr hf10 (fun k hk => by have := hrow1 k hk; unfold One; omega)
          have hown10 := hown9.fr hf10 (fun k hk => by have := (hown9.row k hk).1; unfold One; omega)
          have hff10 := hff9.trans hf10 (fun k hk e => by unfold One at e; omega)
          have hge : (0 : Int) ≤ ((m - a' : Nat) : Int) := by omega
          go_wp2_with (fail)
          refine (inLeft_any g g F a' 0 _ hi10).mono ?_
          rintro _ w11 ⟨rfl, hi11, hf11⟩
          rw [hFl.out]
          have hown111 := hown110.fr hf11 (fun k hk => by have := hrow1 k hk; unfold One; omega)
          have hown11 := hown10.fr hf11 (fun k hk => by have := (hown9.row k hk).1; unfold One; omega)
          have hff11 := hff10.trans hf11 (fun k hk e => by unfold One at e; omega)
          have hle : ((m - a' : Nat) : Int) ≤ (m : Int) := by omega
          go_wp2_with (fail)
          have hLq : ∀ n, Calls Try.prog 25 #[.pointer (some ⟨g, 0, none⟩)] (w11.drewN n) fun r w' => r = .returned (.int .i64 ((m - a' : Nat) : Int)) ∧ ∃ k, w' = (w11.drewN n).drewN k := fun n => by
            have h := inLeft_quiet g g F a' 0 _ (hi11.drewN n)
            rwa [hFl.out] at h
          have ht : (m : Int) - ((m - a' : Nat) : Int) = (a' : Int) := by omega
          have hz : (a' : Int) ≤ (c1 : Int) := by omega
          have qa : ∀ n, Sem.run Try.prog (convert 24 9 (.slice A9 a' c9)) (w11.drewN n) = .ok (.string (str (F.take a'))) (w11.drewN n) := fun n => run_str 24 5 9 Try.underlying24 Try.underlying5 Try.underlying9 _ _ _ _ c9 _ (hown11.drewN n).rd
          have qb : ∀ n, Sem.run Try.prog (convert 24 9 (.slice A1 a' c1)) (w11.drewN n) = .ok (.string (str (F.take a'))) (w11.drewN n) := fun n => run_str 24 5 9 Try.underlying24 Try.underlying5 Try.underlying9 _ _ _ _ c1 _ (by have h := (hown111.drewN n).rd.takeN (m := a') ha6; rw [Nat.mul_one, ← List.map_take] at h; exact h)
          go_quiet ((go_at_call 25; exact Calls.quiet_of (hLq _)))
          go_wp2
          go_roundw
          case rel => exact ⟨i + 1, a', A9, c9, by go_num, rfl, by omega, by omega, ha6, hi11.drewN _, hown11.drewN _, hown111.drewN _, hff11.drewN _, by have := hf10.size; have := hf11.size; simp; omega⟩
          case measure => simp [intOf]; omega
        · have hW2 := hon.out.2 he
          subst hW2
          have heb : (e' != 0) = true := by simp [he]
          have heb' := Lib.hid he
          clear he
          go_wp2_with (fail)
          refine (inErr_any g g F a' e' _ hi7).mono ?_
          rintro _ _ ⟨rfl, rfl⟩
          go_wp2_with (fail)
          refine (inLeft_any g g F a' e' _ hi7).mono ?_
          rintro _ w8 ⟨rfl, hi8, hf8⟩
          rw [hFl.out]
          go_wp2_with (fail)
          refine (lives_any _).mono ?_
          rintro _ w9 ⟨rfl, hf9⟩
          go_wp2
          go_ret
          exact ⟨rfl, (hff7.trans hf8 (fun k hk e => by unfold One at e; omega)).trans hf9 (fun _ _ e => e)⟩
      · obtain ⟨⟨vb, vs, vu⟩, a', e', hx⟩ := hid_ex3 (Pk.rdIdent F a 0)
        go_wp2_with (fail)
        refine (inIdent_any g g F a 0 vb vs vu a' e' _ hi5 hx).mono ?_
        rintro _ w6 ⟨rfl, hi6, hf6⟩
        have ho6 := ho5.fr hf6 (by unfold One; omega) (fun k hk => by cases hk)
        have howna6 := howna5.fr hf6 (fun k hk => by have := hrowa k hk; unfold One; omega)
        have hown16 := hown15.fr hf6 (fun k hk => by have := hrow1 k hk; unfold One; omega)
        have hff6 := hff5.trans hf6 (fun k hk e => by unfold One at e; omega)
        go_wp2_with (fail)
        refine (outIdent_any _ _ _ _ [] vb vs vu _ ho6 (rdIdent_bd hx).1.1 (rdIdent_bd hx).1.2 (rdIdent_bd hx).2.1.1 (rdIdent_bd hx).2.1.2 (rdIdent_bd hx).2.2 (by simp)).mono ?_
        rintro _ w7 ⟨rfl, A7, c7, ho7, hst7⟩
        rw [List.nil_append] at ho7
        have hon := Lib.hid (Pk.once_ident haF'.out hx.out)
        obtain ⟨W, hW⟩ := hid_ex (Pk.ident vb vs vu)
        rw [hW.out] at hon ho7
        have hs0 := hf.size
        have hs6 := hf6.size
        simp at hs6
        have hs7 := hst7.fr.size
        have ha6 := hi6.le
        rw [hFl.out] at ha6
        have hi7 := hi6.fr hst7.fr (fun k hk e => by
          rcases e with e | e
          · omega
          · cases e) (fun e => by
          rcases e with e | e
          · omega
          · cases e)
        have howna7 := howna6.fr hst7.fr (fun k hk e => by
          have := hrowa k hk
          rcases e with e | e
          · omega
          · cases e)
        have hown17 := hown16.fr hst7.fr (fun k hk e => by
          have := hrow1 k hk
          rcases e with e | e
          · omega
          · cases e)
        have hff7 := hff6.trans hst7.fr (fun k hk e => by
          rcases e with e | e
          · omega
          · cases e)
        by_cases he : e' = 0
        · subst he
          have hW2 := hon.out.1 rfl
          have hWl : a' = a + W.length := by
            have := congrArg List.length hW2
            rw [List.length_append, List.length_take, List.length_take, hFl.out] at this
            omega
          have hW2' := Lib.hid hW2
          clear hW2 hon
          have hWb : a + W.length ≤ m := by omega
          have hWl' := Lib.hid hWl
          clear hWl
          go_wp2_with (fail)
          refine (inErr_any g g F a' 0 _ hi7).mono ?_
          rintro _ _ ⟨rfl, rfl⟩
          go_wp2_with (fail)
          refine (outBytes_any _ _ _ _ _ _ ho7 (by omega)).mono ?_
          rintro _ w8 ⟨A8, c8, rfl, hown8, hf8⟩
          have hs8 := hf8.size
          have howna8 := howna7.fr hf8 (fun _ _ e => e)
          have hown18 := hown17.fr hf8 (fun _ _ e => e)
          have hi8 := hi7.fr hf8 (fun _ _ e => e) (fun e => e)
          have hff8 := hff7.trans hf8 (fun _ _ e => e)
          go_wp2_with (first | (at_builtin; go_loud (refine wpList_app (.tmp 73) (.tmp 74) 24 rfl rfl rfl rfl slB howna8 hown8.rd (Bv_one _) (by omega) (by omega) (by omega) ?_); intro A9 c9 w9 hown9 hf9 hat9))
          have hs9 := hf9.size
          have hi9 := hi8.fr hf9 (fun k hk e => by have := (howna8.row k e).1; omega) (fun e => by have := (howna8.row g e).1; omega)
          have hown19 := hown18.fr hf9 (fun k hk e => by have := (howna8.row k e).1; have := hrow1 k hk; omega)
          have hff9 := hff8.trans hf9 (fun k hk e => by have := (howna8.row k e).1; omega)
          rw [← List.map_append, ← hW2'.out, ← hWl'.out] at hown9
          rw [← hWl'.out]
          go_wp2_with (fail)
          refine (inLeft_any g g F a' 0 _ hi9).mono ?_
          rintro _ w10 ⟨rfl, hi10, hf10⟩
          rw [hFl.out]
          have hown110 := hown19.fr hf10 (fun k hk => by have := hrow1 k hk; unfold One; omega)
          have hown10 := hown9.fr hf10 (fun k hk => by have := (hown9.row k hk).1; unfold One; omega)
          have hff10 := hff9.trans hf10 (fun k hk e => by unfold One at e; omega)
          have hge : (0 : Int) ≤ ((m - a' : Nat) : Int) := by omega
          go_wp2_with (fail)
          refine (inLeft_any g g F a' 0 _ hi10).mono ?_
          rintro _ w11 ⟨rfl, hi11, hf11⟩
          rw [hFl.out]
          have hown111 := hown110.fr hf11 (fun k hk => by have := hrow1 k hk; unfold One; omega)
          have hown11 := hown10.fr hf11 (fun k hk => by have := (hown9.row k hk).1; unfold One; omega)
          have hff11 := hff10.trans hf11 (fun k hk e => by unfold One at e; omega)
          have hle : ((m - a' : Nat) : Int) ≤ (m : Int) := by omega
          go_wp2_with (fail)
          have hLq : ∀ n, Calls Try.prog 25 #[.pointer (some ⟨g, 0, none⟩)] (w11.drewN n) fun r w' => r = .returned (.int .i64 ((m - a' : Nat) : Int)) ∧ ∃ k, w' = (w11.drewN n).drewN k := fun n => by
            have h := inLeft_quiet g g F a' 0 _ (hi11.drewN n)
            rwa [hFl.out] at h
          have ht : (m : Int) - ((m - a' : Nat) : Int) = (a' : Int) := by omega
          have hz : (a' : Int) ≤ (c1 : Int) := by omega
          have qa : ∀ n, Sem.run Try.prog (convert 24 9 (.slice A9 a' c9)) (w11.drewN n) = .ok (.string (str (F.take a'))) (w11.drewN n) := fun n => run_str 24 5 9 Try.underlying24 Try.underlying5 Try.underlying9 _ _ _ _ c9 _ (hown11.drewN n).rd
          have qb : ∀ n, Sem.run Try.prog (convert 24 9 (.slice A1 a' c1)) (w11.drewN n) = .ok (.string (str (F.take a'))) (w11.drewN n) := fun n => run_str 24 5 9 Try.underlying24 Try.underlying5 Try.underlying9 _ _ _ _ c1 _ (by have h := (hown111.drewN n).rd.takeN (m := a') ha6; rw [Nat.mul_one, ← List.map_take] at h; exact h)
          go_quiet ((go_at_call 25; exact Calls.quiet_of (hLq _)))
          go_wp2
          go_roundw
          case rel => exact ⟨i + 1, a', A9, c9, by go_num, rfl, by omega, by omega, ha6, hi11.drewN _, hown11.drewN _, hown111.drewN _, hff11.drewN _, by have := hf10.size; have := hf11.size; simp; omega⟩
          case measure => simp [intOf]; omega
        · have hW2 := hon.out.2 he
          subst hW2
          have heb : (e' != 0) = true := by simp [he]
          have heb' := Lib.hid he
          clear he
          go_wp2_with (fail)
          refine (inErr_any g g F a' e' _ hi7).mono ?_
          rintro _ _ ⟨rfl, rfl⟩
          go_wp2_with (fail)
          refine (inLeft_any g g F a' e' _ hi7).mono ?_
          rintro _ w8 ⟨rfl, hi8, hf8⟩
          rw [hFl.out]
          go_wp2_with (fail)
          refine (lives_any _).mono ?_
          rintro _ w9 ⟨rfl, hf9⟩
          go_wp2
          go_ret
          exact ⟨rfl, (hff7.trans hf8 (fun k hk e => by unfold One at e; omega)).trans hf9 (fun _ _ e => e)⟩
      · obtain ⟨v, a', e', hx⟩ := hid_ex3 (Pk.rdMany F a 0 20)
        go_wp2_with (fail)
        refine (inMany_any g g F a 0 20 v a' e' _ hi5 hx).mono ?_
        rintro _ w6 ⟨rfl, hi6, hf6⟩
        have ho6 := ho5.fr hf6 (by unfold One; omega) (fun k hk => by cases hk)
        have howna6 := howna5.fr hf6 (fun k hk => by have := hrowa k hk; unfold One; omega)
        have hown16 := hown15.fr hf6 (fun k hk => by have := hrow1 k hk; unfold One; omega)
        have hff6 := hff5.trans hf6 (fun k hk e => by unfold One at e; omega)
        go_wp2_with (fail)
        refine (outInt_any _ _ _ _ [] v _ ho6 (rdMany_bd hx).1 (rdMany_bd hx).2 (by simp)).mono ?_
        rintro _ w7 ⟨rfl, A7, c7, ho7, hst7⟩
        rw [List.nil_append] at ho7
        have hon := Lib.hid (Pk.once_many haF'.out hx.out)
        obtain ⟨W, hW⟩ := hid_ex (Pk.int v)
        rw [hW.out] at hon ho7
        have hs0 := hf.size
        have hs6 := hf6.size
        simp at hs6
        have hs7 := hst7.fr.size
        have ha6 := hi6.le
        rw [hFl.out] at ha6
        have hi7 := hi6.fr hst7.fr (fun k hk e => by
          rcases e with e | e
          · omega
          · cases e) (fun e => by
          rcases e with e | e
          · omega
          · cases e)
        have howna7 := howna6.fr hst7.fr (fun k hk e => by
          have := hrowa k hk
          rcases e with e | e
          · omega
          · cases e)
        have hown17 := hown16.fr hst7.fr (fun k hk e => by
          have := hrow1 k hk
          rcases e with e | e
          · omega
          · cases e)
        have hff7 := hff6.trans hst7.fr (fun k hk e => by
          rcases e with e | e
          · omega
          · cases e)
        by_cases he : e' = 0
        · subst he
          have hW2 := hon.out.1 rfl
          have hWl : a' = a + W.length := by
            have := congrArg List.length hW2
            rw [List.length_append, List.length_take, List.length_take, hFl.out] at this
            omega
          have hW2' := Lib.hid hW2
          clear hW2 hon
          have hWb : a + W.length ≤ m := by omega
          have hWl' := Lib.hid hWl
          clear hWl
          go_wp2_with (fail)
          refine (inErr_any g g F a' 0 _ hi7).mono ?_
          rintro _ _ ⟨rfl, rfl⟩
          go_wp2_with (fail)
          refine (outBytes_any _ _ _ _ _ _ ho7 (by omega)).mono ?_
          rintro _ w8 ⟨A8, c8, rfl, hown8, hf8⟩
          have hs8 := hf8.size
          have howna8 := howna7.fr hf8 (fun _ _ e => e)
          have hown18 := hown17.fr hf8 (fun _ _ e => e)
          have hi8 := hi7.fr hf8 (fun _ _ e => e) (fun e => e)
          have hff8 := hff7.trans hf8 (fun _ _ e => e)
          go_wp2_with (first | (at_builtin; go_loud (refine wpList_app (.tmp 73) (.tmp 74) 24 rfl rfl rfl rfl slB howna8 hown8.rd (Bv_one _) (by omega) (by omega) (by omega) ?_); intro A9 c9 w9 hown9 hf9 hat9))
          have hs9 := hf9.size
          have hi9 := hi8.fr hf9 (fun k hk e => by have := (howna8.row k e).1; omega) (fun e => by have := (howna8.row g e).1; omega)
          have hown19 := hown18.fr hf9 (fun k hk e => by have := (howna8.row k e).1; have := hrow1 k hk; omega)
          have hff9 := hff8.trans hf9 (fun k hk e => by have := (howna8.row k e).1; omega)
          rw [← List.map_append, ← hW2'.out, ← hWl'.out] at hown9
          rw [← hWl'.out]
          go_wp2_with (fail)
          refine (inLeft_any g g F a' 0 _ hi9).mono ?_
          rintro _ w10 ⟨rfl, hi10, hf10⟩
          rw [hFl.out]
          have hown110 := hown19.fr hf10 (fun k hk => by have := hrow1 k hk; unfold One; omega)
          have hown10 := hown9.fr hf10 (fun k hk => by have := (hown9.row k hk).1; unfold One; omega)
          have hff10 := hff9.trans hf10 (fun k hk e => by unfold One at e; omega)
          have hge : (0 : Int) ≤ ((m - a' : Nat) : Int) := by omega
          go_wp2_with (fail)
          refine (inLeft_any g g F a' 0 _ hi10).mono ?_
          rintro _ w11 ⟨rfl, hi11, hf11⟩
          rw [hFl.out]
          have hown111 := hown110.fr hf11 (fun k hk => by have := hrow1 k hk; unfold One; omega)
          have hown11 := hown10.fr hf11 (fun k hk => by have := (hown9.row k hk).1; unfold One; omega)
          have hff11 := hff10.trans hf11 (fun k hk e => by unfold One at e; omega)
          have hle : ((m - a' : Nat) : Int) ≤ (m : Int) := by omega
          go_wp2_with (fail)
          have hLq : ∀ n, Calls Try.prog 25 #[.pointer (some ⟨g, 0, none⟩)] (w11.drewN n) fun r w' => r = .returned (.int .i64 ((m - a' : Nat) : Int)) ∧ ∃ k, w' = (w11.drewN n).drewN k := fun n => by
            have h := inLeft_quiet g g F a' 0 _ (hi11.drewN n)
            rwa [hFl.out] at h
          have ht : (m : Int) - ((m - a' : Nat) : Int) = (a' : Int) := by omega
          have hz : (a' : Int) ≤ (c1 : Int) := by omega
          have qa : ∀ n, Sem.run Try.prog (convert 24 9 (.slice A9 a' c9)) (w11.drewN n) = .ok (.string (str (F.take a'))) (w11.drewN n) := fun n => run_str 24 5 9 Try.underlying24 Try.underlying5 Try.underlying9 _ _ _ _ c9 _ (hown11.drewN n).rd
          have qb : ∀ n, Sem.run Try.prog (convert 24 9 (.slice A1 a' c1)) (w11.drewN n) = .ok (.string (str (F.take a'))) (w11.drewN n) := fun n => run_str 24 5 9 Try.underlying24 Try.underlying5 Try.underlying9 _ _ _ _ c1 _ (by have h := (hown111.drewN n).rd.takeN (m := a') ha6; rw [Nat.mul_one, ← List.map_take] at h; exact h)
          go_quiet ((go_at_call 25; exact Calls.quiet_of (hLq _)))
          go_wp2
          go_roundw
          case rel => exact ⟨i + 1, a', A9, c9, by go_num, rfl, by omega, by omega, ha6, hi11.drewN _, hown11.drewN _, hown111.drewN _, hff11.drewN _, by have := hf10.size; have := hf11.size; simp; omega⟩
          case measure => simp [intOf]; omega
        · have hW2 := hon.out.2 he
          subst hW2
          have heb : (e' != 0) = true := by simp [he]
          have heb' := Lib.hid he
          clear he
          go_wp2_with (fail)
          refine (inErr_any g g F a' e' _ hi7).mono ?_
          rintro _ _ ⟨rfl, rfl⟩
          go_wp2_with (fail)
          refine (inLeft_any g g F a' e' _ hi7).mono ?_
          rintro _ w8 ⟨rfl, hi8, hf8⟩
          rw [hFl.out]
          go_wp2_with (fail)
          refine (lives_any _).mono ?_
          rintro _ w9 ⟨rfl, hf9⟩
          go_wp2
          go_ret
          exact ⟨rfl, (hff7.trans hf8 (fun k hk e => by unfold One at e; omega)).trans hf9 (fun _ _ e => e)⟩
      · obtain ⟨v, a', e', hx⟩ := hid_ex3 (Pk.rdText F a 0)
        go_wp2_with (fail)
        refine (inText_any g g F a 0 v a' e' _ hi5 hx).mono ?_
        rintro _ w6 ⟨rfl, hi6, hf6⟩
        have ho6 := ho5.fr hf6 (by unfold One; omega) (fun k hk => by cases hk)
        have howna6 := howna5.fr hf6 (fun k hk => by have := hrowa k hk; unfold One; omega)
        have hown16 := hown15.fr hf6 (fun k hk => by have := hrow1 k hk; unfold One; omega)
        have hff6 := hff5.trans hf6 (fun k hk e => by unfold One at e; omega)
        go_wp2_with (fail)
        refine (outText_any _ _ _ _ [] v _ ho6 (by have := rdText_len hx; rw [hFl.out] at this; simp; omega)).mono ?_
        rintro _ w7 ⟨rfl, A7, c7, ho7, hst7⟩
        rw [List.nil_append] at ho7
        have hon := Lib.hid (Pk.once_text haF'.out hx.out)
        obtain ⟨W, hW⟩ := hid_ex (Pk.text v)
        rw [hW.out] at hon ho7
        have hs0 := hf.size
        have hs6 := hf6.size
        simp at hs6
        have hs7 := hst7.fr.size
        have ha6 := hi6.le
        rw [hFl.out] at ha6
        have hi7 := hi6.fr hst7.fr (fun k hk e => by
          rcases e with e | e
          · omega
          · cases e) (fun e => by
          rcases e with e | e
          · omega
          · cases e)
        have howna7 := howna6.fr hst7.fr (fun k hk e => by
          have := hrowa k hk
          rcases e with e | e
          · omega
          · cases e)
        have hown17 := hown16.fr hst7.fr (fun k hk e => by
          have := hrow1 k hk
          rcases e with e | e
          · omega
          · cases e)
        have hff7 := hff6.trans hst7.fr (fun k hk e => by
          rcases e with e | e
          · omega
          · cases e)
        by_cases he : e' = 0
        · subst he
          have hW2 := hon.out.1 rfl
          have hWl : a' = a + W.length := by
            have := congrArg List.length hW2
            rw [List.length_append, List.length_take, List.length_take, hFl.out] at this
            omega
          have hW2' := Lib.hid hW2
          clear hW2 hon
          have hWb : a + W.length ≤ m := by omega
          have hWl' := Lib.hid hWl
          clear hWl
          go_wp2_with (fail)
          refine (inErr_any g g F a' 0 _ hi7).mono ?_
          rintro _ _ ⟨rfl, rfl⟩
          go_wp2_with (fail)
          refine (outBytes_any _ _ _ _ _ _ ho7 (by omega)).mono ?_
          rintro _ w8 ⟨A8, c8, rfl, hown8, hf8⟩
          have hs8 := hf8.size
          have howna8 := howna7.fr hf8 (fun _ _ e => e)
          have hown18 := hown17.fr hf8 (fun _ _ e => e)
          have hi8 := hi7.fr hf8 (fun _ _ e => e) (fun e => e)
          have hff8 := hff7.trans hf8 (fun _ _ e => e)
          go_wp2_with (first | (at_builtin; go_loud (refine wpList_app (.tmp 73) (.tmp 74) 24 rfl rfl rfl rfl slB howna8 hown8.rd (Bv_one _) (by omega) (by omega) (by omega) ?_); intro A9 c9 w9 hown9 hf9 hat9))
          have hs9 := hf9.size
          have hi9 := hi8.fr hf9 (fun k hk e => by have := (howna8.row k e).1; omega) (fun e => by have := (howna8.row g e).1; omega)
          have hown19 := hown18.fr hf9 (fun k hk e => by have := (howna8.row k e).1; have := hrow1 k hk; omega)
          have hff9 := hff8.trans hf9 (fun k hk e => by have := (howna8.row k e).1; omega)
          rw [← List.map_append, ← hW2'.out, ← hWl'.out] at hown9
          rw [← hWl'.out]
          go_wp2_with (fail)
          refine (inLeft_any g g F a' 0 _ hi9).mono ?_
          rintro _ w10 ⟨rfl, hi10, hf10⟩
          rw [hFl.out]
          have hown110 := hown19.fr hf10 (fun k hk => by have := hrow1 k hk; unfold One; omega)
          have hown10 := hown9.fr hf10 (fun k hk => by have := (hown9.row k hk).1; unfold One; omega)
          have hff10 := hff9.trans hf10 (fun k hk e => by unfold One at e; omega)
          have hge : (0 : Int) ≤ ((m - a' : Nat) : Int) := by omega
          go_wp2_with (fail)
          refine (inLeft_any g g F a' 0 _ hi10).mono ?_
          rintro _ w11 ⟨rfl, hi11, hf11⟩
          rw [hFl.out]
          have hown111 := hown110.fr hf11 (fun k hk => by have := hrow1 k hk; unfold One; omega)
          have hown11 := hown10.fr hf11 (fun k hk => by have := (hown9.row k hk).1; unfold One; omega)
          have hff11 := hff10.trans hf11 (fun k hk e => by unfold One at e; omega)
          have hle : ((m - a' : Nat) : Int) ≤ (m : Int) := by omega
          go_wp2_with (fail)
          have hLq : ∀ n, Calls Try.prog 25 #[.pointer (some ⟨g, 0, none⟩)] (w11.drewN n) fun r w' => r = .returned (.int .i64 ((m - a' : Nat) : Int)) ∧ ∃ k, w' = (w11.drewN n).drewN k := fun n => by
            have h := inLeft_quiet g g F a' 0 _ (hi11.drewN n)
            rwa [hFl.out] at h
          have ht : (m : Int) - ((m - a' : Nat) : Int) = (a' : Int) := by omega
          have hz : (a' : Int) ≤ (c1 : Int) := by omega
          have qa : ∀ n, Sem.run Try.prog (convert 24 9 (.slice A9 a' c9)) (w11.drewN n) = .ok (.string (str (F.take a'))) (w11.drewN n) := fun n => run_str 24 5 9 Try.underlying24 Try.underlying5 Try.underlying9 _ _ _ _ c9 _ (hown11.drewN n).rd
          have qb : ∀ n, Sem.run Try.prog (convert 24 9 (.slice A1 a' c1)) (w11.drewN n) = .ok (.string (str (F.take a'))) (w11.drewN n) := fun n => run_str 24 5 9 Try.underlying24 Try.underlying5 Try.underlying9 _ _ _ _ c1 _ (by have h := (hown111.drewN n).rd.takeN (m := a') ha6; rw [Nat.mul_one, ← List.map_take] at h; exact h)
          go_quiet ((go_at_call 25; exact Calls.quiet_of (hLq _)))
          go_wp2
          go_roundw
          case rel => exact ⟨i + 1, a', A9, c9, by go_num, rfl, by omega, by omega, ha6, hi11.drewN _, hown11.drewN _, hown111.drewN _, hff11.drewN _, by have := hf10.size; have := hf11.size; simp; omega⟩
          case measure => simp [intOf]; omega
        · have hW2 := hon.out.2 he
          subst hW2
          have heb : (e' != 0) = true := by simp [he]
          have heb' := Lib.hid he
          clear he
          go_wp2_with (fail)
          refine (inErr_any g g F a' e' _ hi7).mono ?_
          rintro _ _ ⟨rfl, rfl⟩
          go_wp2_with (fail)
          refine (inLeft_any g g F a' e' _ hi7).mono ?_
          rintro _ w8 ⟨rfl, hi8, hf8⟩
          rw [hFl.out]
          go_wp2_with (fail)
          refine (lives_any _).mono ?_
          rintro _ w9 ⟨rfl, hf9⟩
          go_wp2
          go_ret
          exact ⟨rfl, (hff7.trans hf8 (fun k hk e => by unfold One at e; omega)).trans hf9 (fun _ _ e => e)⟩
      · obtain ⟨v, a', e', hx⟩ := hid_ex3 (Pk.rdBool F a 0)
        go_wp2_with (fail)
        refine (inBool_any g g F a 0 v a' e' _ hi5 hx).mono ?_
        rintro _ w6 ⟨rfl, hi6, hf6⟩
        have ho6 := ho5.fr hf6 (by unfold One; omega) (fun k hk => by cases hk)
        have howna6 := howna5.fr hf6 (fun k hk => by have := hrowa k hk; unfold One; omega)
        have hown16 := hown15.fr hf6 (fun k hk => by have := hrow1 k hk; unfold One; omega)
        have hff6 := hff5.trans hf6 (fun k hk e => by unfold One at e; omega)
        go_wp2_with (fail)
        refine (outBool_any _ _ _ _ [] v _ ho6 (by simp)).mono ?_
        rintro _ w7 ⟨rfl, A7, c7, ho7, hst7⟩
        rw [List.nil_append] at ho7
        have hon := Lib.hid (Pk.once_bool haF'.out hx.out)
        obtain ⟨W, hW⟩ := hid_ex (Pk.bool v)
        rw [hW.out] at hon ho7
        have hs0 := hf.size
        have hs6 := hf6.size
        simp at hs6
        have hs7 := hst7.fr.size
        have ha6 := hi6.le
        rw [hFl.out] at ha6
        have hi7 := hi6.fr hst7.fr (fun k hk e => by
          rcases e with e | e
          · omega
          · cases e) (fun e => by
          rcases e with e | e
          · omega
          · cases e)
        have howna7 := howna6.fr hst7.fr (fun k hk e => by
          have := hrowa k hk
          rcases e with e | e
          · omega
          · cases e)
        have hown17 := hown16.fr hst7.fr (fun k hk e => by
          have := hrow1 k hk
          rcases e with e | e
          · omega
          · cases e)
        have hff7 := hff6.trans hst7.fr (fun k hk e => by
          rcases e with e | e
          · omega
          · cases e)
        by_cases he : e' = 0
        · subst he
          have hW2 := hon.out.1 rfl
          have hWl : a' = a + W.length := by
            have := congrArg List.length hW2
            rw [List.length_append, List.length_take, List.length_take, hFl.out] at this
            omega
          have hW2' := Lib.hid hW2
          clear hW2 hon
          have hWb : a + W.length ≤ m := by omega
          have hWl' := Lib.hid hWl
          clear hWl
          go_wp2_with (fail)
          refine (inErr_any g g F a' 0 _ hi7).mono ?_
          rintro _ _ ⟨rfl, rfl⟩
          go_wp2_with (fail)
          refine (outBytes_any _ _ _ _ _ _ ho7 (by omega)).mono ?_
          rintro _ w8 ⟨A8, c8, rfl, hown8, hf8⟩
          have hs8 := hf8.size
          have howna8 := howna7.fr hf8 (fun _ _ e => e)
          have hown18 := hown17.fr hf8 (fun _ _ e => e)
          have hi8 := hi7.fr hf8 (fun _ _ e => e) (fun e => e)
          have hff8 := hff7.trans hf8 (fun _ _ e => e)
          go_wp2_with (first | (at_builtin; go_loud (refine wpList_app (.tmp 73) (.tmp 74) 24 rfl rfl rfl rfl slB howna8 hown8.rd (Bv_one _) (by omega) (by omega) (by omega) ?_); intro A9 c9 w9 hown9 hf9 hat9))
          have hs9 := hf9.size
          have hi9 := hi8.fr hf9 (fun k hk e => by have := (howna8.row k e).1; omega) (fun e => by have := (howna8.row g e).1; omega)
          have hown19 := hown18.fr hf9 (fun k hk e => by have := (howna8.row k e).1; have := hrow1 k hk; omega)
          have hff9 := hff8.trans hf9 (fun k hk e => by have := (howna8.row k e).1; omega)
          rw [← List.map_append, ← hW2'.out, ← hWl'.out] at hown9
          rw [← hWl'.out]
          go_wp2_with (fail)
          refine (inLeft_any g g F a' 0 _ hi9).mono ?_
          rintro _ w10 ⟨rfl, hi10, hf10⟩
          rw [hFl.out]
          have hown110 := hown19.fr hf10 (fun k hk => by have := hrow1 k hk; unfold One; omega)
          have hown10 := hown9.fr hf10 (fun k hk => by have := (hown9.row k hk).1; unfold One; omega)
          have hff10 := hff9.trans hf10 (fun k hk e => by unfold One at e; omega)
          have hge : (0 : Int) ≤ ((m - a' : Nat) : Int) := by omega
          go_wp2_with (fail)
          refine (inLeft_any g g F a' 0 _ hi10).mono ?_
          rintro _ w11 ⟨rfl, hi11, hf11⟩
          rw [hFl.out]
          have hown111 := hown110.fr hf11 (fun k hk => by have := hrow1 k hk; unfold One; omega)
          have hown11 := hown10.fr hf11 (fun k hk => by have := (hown9.row k hk).1; unfold One; omega)
          have hff11 := hff10.trans hf11 (fun k hk e => by unfold One at e; omega)
          have hle : ((m - a' : Nat) : Int) ≤ (m : Int) := by omega
          go_wp2_with (fail)
          have hLq : ∀ n, Calls Try.prog 25 #[.pointer (some ⟨g, 0, none⟩)] (w11.drewN n) fun r w' => r = .returned (.int .i64 ((m - a' : Nat) : Int)) ∧ ∃ k, w' = (w11.drewN n).drewN k := fun n => by
            have h := inLeft_quiet g g F a' 0 _ (hi11.drewN n)
            rwa [hFl.out] at h
          have ht : (m : Int) - ((m - a' : Nat) : Int) = (a' : Int) := by omega
          have hz : (a' : Int) ≤ (c1 : Int) := by omega
          have qa : ∀ n, Sem.run Try.prog (convert 24 9 (.slice A9 a' c9)) (w11.drewN n) = .ok (.string (str (F.take a'))) (w11.drewN n) := fun n => run_str 24 5 9 Try.underlying24 Try.underlying5 Try.underlying9 _ _ _ _ c9 _ (hown11.drewN n).rd
          have qb : ∀ n, Sem.run Try.prog (convert 24 9 (.slice A1 a' c1)) (w11.drewN n) = .ok (.string (str (F.take a'))) (w11.drewN n) := fun n => run_str 24 5 9 Try.underlying24 Try.underlying5 Try.underlying9 _ _ _ _ c1 _ (by have h := (hown111.drewN n).rd.takeN (m := a') ha6; rw [Nat.mul_one, ← List.map_take] at h; exact h)
          go_quiet ((go_at_call 25; exact Calls.quiet_of (hLq _)))
          go_wp2
          go_roundw
          case rel => exact ⟨i + 1, a', A9, c9, by go_num, rfl, by omega, by omega, ha6, hi11.drewN _, hown11.drewN _, hown111.drewN _, hff11.drewN _, by have := hf10.size; have := hf11.size; simp; omega⟩
          case measure => simp [intOf]; omega
        · have hW2 := hon.out.2 he
          subst hW2
          have heb : (e' != 0) = true := by simp [he]
          have heb' := Lib.hid he
          clear he
          go_wp2_with (fail)
          refine (inErr_any g g F a' e' _ hi7).mono ?_
          rintro _ _ ⟨rfl, rfl⟩
          go_wp2_with (fail)
          refine (inLeft_any g g F a' e' _ hi7).mono ?_
          rintro _ w8 ⟨rfl, hi8, hf8⟩
          rw [hFl.out]
          go_wp2_with (fail)
          refine (lives_any _).mono ?_
          rintro _ w9 ⟨rfl, hf9⟩
          go_wp2
          go_ret
          exact ⟨rfl, (hff7.trans hf8 (fun k hk e => by unfold One at e; omega)).trans hf9 (fun _ _ e => e)⟩
      · obtain ⟨v, a', e', hx⟩ := hid_ex3 (Pk.rdInt F a 0)
        go_wp2_with (fail)
        refine (inInt_any g g F a 0 v a' e' _ hi5 hx).mono ?_
        rintro _ w6 ⟨rfl, hi6, hf6⟩
        have ho6 := ho5.fr hf6 (by unfold One; omega) (fun k hk => by cases hk)
        have howna6 := howna5.fr hf6 (fun k hk => by have := hrowa k hk; unfold One; omega)
        have hown16 := hown15.fr hf6 (fun k hk => by have := hrow1 k hk; unfold One; omega)
        have hff6 := hff5.trans hf6 (fun k hk e => by unfold One at e; omega)
        go_wp2_with (fail)
        refine (outInt_any _ _ _ _ [] v _ ho6 (rdInt_bd hx).1 (rdInt_bd hx).2 (by simp)).mono ?_
        rintro _ w7 ⟨rfl, A7, c7, ho7, hst7⟩
        rw [List.nil_append] at ho7
        have hon := Lib.hid (Pk.once_int haF'.out hx.out)
        obtain ⟨W, hW⟩ := hid_ex (Pk.int v)
        rw [hW.out] at hon ho7
        have hs0 := hf.size
        have hs6 := hf6.size
        simp at hs6
        have hs7 := hst7.fr.size
        have ha6 := hi6.le
        rw [hFl.out] at ha6
        have hi7 := hi6.fr hst7.fr (fun k hk e => by
          rcases e with e | e
          · omega
          · cases e) (fun e => by
          rcases e with e | e
          · omega
          · cases e)
        have howna7 := howna6.fr hst7.fr (fun k hk e => by
          have := hrowa k hk
          rcases e with e | e
          · omega
          · cases e)
        have hown17 := hown16.fr hst7.fr (fun k hk e => by
          have := hrow1 k hk
          rcases e with e | e
          · omega
          · cases e)
        have hff7 := hff6.trans hst7.fr (fun k hk e => by
          rcases e with e | e
          · omega
          · cases e)
        by_cases he : e' = 0
        · subst he
          have hW2 := hon.out.1 rfl
          have hWl : a' = a + W.length := by
            have := congrArg List.length hW2
            rw [List.length_append, List.length_take, List.length_take, hFl.out] at this
            omega
          have hW2' := Lib.hid hW2
          clear hW2 hon
          have hWb : a + W.length ≤ m := by omega
          have hWl' := Lib.hid hWl
          clear hWl
          go_wp2_with (fail)
          refine (inErr_any g g F a' 0 _ hi7).mono ?_
          rintro _ _ ⟨rfl, rfl⟩
          go_wp2_with (fail)
          refine (outBytes_any _ _ _ _ _ _ ho7 (by omega)).mono ?_
          rintro _ w8 ⟨A8, c8, rfl, hown8, hf8⟩
          have hs8 := hf8.size
          have howna8 := howna7.fr hf8 (fun _ _ e => e)
          have hown18 := hown17.fr hf8 (fun _ _ e => e)
          have hi8 := hi7.fr hf8 (fun _ _ e => e) (fun e => e)
          have hff8 := hff7.trans hf8 (fun _ _ e => e)
          go_wp2_with (first | (at_builtin; go_loud (refine wpList_app (.tmp 73) (.tmp 74) 24 rfl rfl rfl rfl slB howna8 hown8.rd (Bv_one _) (by omega) (by omega) (by omega) ?_); intro A9 c9 w9 hown9 hf9 hat9))
          have hs9 := hf9.size
          have hi9 := hi8.fr hf9 (fun k hk e => by have := (howna8.row k e).1; omega) (fun e => by have := (howna8.row g e).1; omega)
          have hown19 := hown18.fr hf9 (fun k hk e => by have := (howna8.row k e).1; have := hrow1 k hk; omega)
          have hff9 := hff8.trans hf9 (fun k hk e => by have := (howna8.row k e).1; omega)
          rw [← List.map_append, ← hW2'.out, ← hWl'.out] at hown9
          rw [← hWl'.out]
          go_wp2_with (fail)
          refine (inLeft_any g g F a' 0 _ hi9).mono ?_
          rintro _ w10 ⟨rfl, hi10, hf10⟩
          rw [hFl.out]
          have hown110 := hown19.fr hf10 (fun k hk => by have := hrow1 k hk; unfold One; omega)
          have hown10 := hown9.fr hf10 (fun k hk => by have := (hown9.row k hk).1; unfold One; omega)
          have hff10 := hff9.trans hf10 (fun k hk e => by unfold One at e; omega)
          have hge : (0 : Int) ≤ ((m - a' : Nat) : Int) := by omega
          go_wp2_with (fail)
          refine (inLeft_any g g F a' 0 _ hi10).mono ?_
          rintro _ w11 ⟨rfl, hi11, hf11⟩
          rw [hFl.out]
          have hown111 := hown110.fr hf11 (fun k hk => by have := hrow1 k hk; unfold One; omega)
          have hown11 := hown10.fr hf11 (fun k hk => by have := (hown9.row k hk).1; unfold One; omega)
          have hff11 := hff10.trans hf11 (fun k hk e => by unfold One at e; omega)
          have hle : ((m - a' : Nat) : Int) ≤ (m : Int) := by omega
          go_wp2_with (fail)
          have hLq : ∀ n, Calls Try.prog 25 #[.pointer (some ⟨g, 0, none⟩)] (w11.drewN n) fun r w' => r = .returned (.int .i64 ((m - a' : Nat) : Int)) ∧ ∃ k, w' = (w11.drewN n).drewN k := fun n => by
            have h := inLeft_quiet g g F a' 0 _ (hi11.drewN n)
            rwa [hFl.out] at h
          have ht : (m : Int) - ((m - a' : Nat) : Int) = (a' : Int) := by omega
          have hz : (a' : Int) ≤ (c1 : Int) := by omega
          have qa : ∀ n, Sem.run Try.prog (convert 24 9 (.slice A9 a' c9)) (w11.drewN n) = .ok (.string (str (F.take a'))) (w11.drewN n) := fun n => run_str 24 5 9 Try.underlying24 Try.underlying5 Try.underlying9 _ _ _ _ c9 _ (hown11.drewN n).rd
          have qb : ∀ n, Sem.run Try.prog (convert 24 9 (.slice A1 a' c1)) (w11.drewN n) = .ok (.string (str (F.take a'))) (w11.drewN n) := fun n => run_str 24 5 9 Try.underlying24 Try.underlying5 Try.underlying9 _ _ _ _ c1 _ (by have h := (hown111.drewN n).rd.takeN (m := a') ha6; rw [Nat.mul_one, ← List.map_take] at h; exact h)
          go_quiet ((go_at_call 25; exact Calls.quiet_of (hLq _)))
          go_wp2
          go_roundw
          case rel => exact ⟨i + 1, a', A9, c9, by go_num, rfl, by omega, by omega, ha6, hi11.drewN _, hown11.drewN _, hown111.drewN _, hff11.drewN _, by have := hf10.size; have := hf11.size; simp; omega⟩
          case measure => simp [intOf]; omega
        · have hW2 := hon.out.2 he
          subst hW2
          have heb : (e' != 0) = true := by simp [he]
          have heb' := Lib.hid he
          clear he
          go_wp2_with (fail)
          refine (inErr_any g g F a' e' _ hi7).mono ?_
          rintro _ _ ⟨rfl, rfl⟩
          go_wp2_with (fail)
          refine (inLeft_any g g F a' e' _ hi7).mono ?_
          rintro _ w8 ⟨rfl, hi8, hf8⟩
          rw [hFl.out]
          go_wp2_with (fail)
          refine (lives_any _).mono ?_
          rintro _ w9 ⟨rfl, hf9⟩
          go_wp2
          go_ret
          exact ⟨rfl, (hff7.trans hf8 (fun k hk e => by unfold One at e; omega)).trans hf9 (fun _ _ e => e)⟩
    · have hwhy : i < n ∨ ¬ i < n := Classical.em _
      rcases hwhy with h1 | h1
      all_goals
        go_wp2_with (fail)
        refine (lives_any _).mono ?_
        rintro _ w4 ⟨rfl, hf4⟩
        go_wp2
        go_ret
        exact ⟨rfl, hf.trans hf4 (fun _ _ e => e)⟩
end Go.Proofs.Ytkppihpdhildjaa
