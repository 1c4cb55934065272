/-
  Layer 4, PackRound: what is written is read, in its row, and nothing is left.
  Condition: none.
-/
import Derived.Test.YtkppihpdhildjaaPackBack
import Derived.Test.YtkppihpdhildjaaOpenAny
namespace Go.Proofs.Ytkppihpdhildjaa
open Go.RowKit
attribute [local go_sem ↓] Go.wp_at_zero Go.wp_at_succ

set_option maxRecDepth 100000 in
set_option maxHeartbeats 4000000 in
theorem round_any (A : Option Addr) (c : Nat) (l : List OD) (w : World) (hok : ∀ o ∈ l, OD.ok o) (hr : Rd w w.heap.size 3 A l.length (l.flatMap OD.cells)) (hc : l.length ≤ c) :
    Calls Try.prog 11 #[.slice A l.length c] w (LivesPost w) := by
  generalize hlen0 : l.length = n at *
  have hlen := Lib.hid hlen0
  clear hlen0
  have ho0 : OutAt (w.alloc (.cells #[.slice none 0 0] 26)) w.heap.size w.heap.size none 0 [] := ⟨Blk.new w _ _, Own.nil _ _ _ _, Nat.le_refl _⟩
  go_enter Try.func11, Try.ntmps11
  go_wp2
  go_loopw [4] (fun v wr => ∃ (i : Nat) (A' : Option Addr) (c' : Nat), v = .int .i64 (i : Int) ∧ i ≤ n ∧ i ≤ 12 ∧ OutAt wr w.heap.size w.heap.size A' c' (allO (l.take i)) ∧ Fr Non w wr) (fun v _ => n - (intOf v).toNat)
  case atStart => exact ⟨0, none, 0, rfl, by omega, by omega, ho0, (Fr.refl _ _).alloc _⟩
  case round =>
    obtain ⟨i, A', c', rfl, hin, hi12, ho, hf⟩ := hrel
    have hBs := hf.size
    by_cases hlt : i < n ∧ i < 12
    · obtain ⟨h1, h2⟩ := hlt
      obtain ⟨o, hoo⟩ : ∃ o, l[i]? = some o := ⟨_, List.getElem?_eq_getElem (by rw [hlen.out]; exact h1)⟩
      obtain ⟨o0, o1, o2, o3, o4⟩ := hok o (List.mem_of_getElem? hoo)
      obtain ⟨b, off, rfl, hb, k0, k1, k2⟩ := OD.at (hr.fr hf (fun _ _ e => e)) hoo
      have hoo' := Lib.hid hoo
      clear hoo
      have hal := allO_len (l.take i)
      have htl := List.length_take_le i l
      go_wp2_with (fail)
      refine (lawPut_any _ _ _ _ _ o.d o.n o.s _ ho o0 o1 o2 o3 o4 (by omega)).mono ?_
      rintro _ w1 ⟨rfl, A1, c1, ho1, hst1⟩
      have hnext := Lib.hid (allO_snoc l hoo'.out)
      rw [show allO (l.take i) ++ Pk.putO o.d o.n o.s = allO (l.take (i + 1)) from hnext.out.symm] at ho1
      have hf1 : Fr Non w w1 := hf.trans hst1.fr (fun k hk e => by
        rcases e with e | e
        · omega
        · have := (ho.2.1.row k e).1; omega)
      go_wp2
      go_roundw
      case rel => exact ⟨i + 1, A1, c1, by go_num, by omega, by omega, ho1, hf1⟩
      case measure => simp [intOf]; omega
    · have hend : Hid (l.take i = l.take 12) := by
        show _ = _
        by_cases h1 : i < 12
        · rw [List.take_of_length_le (by rw [hlen.out]; omega), List.take_of_length_le (by rw [hlen.out]; omega)]
        · rw [show i = 12 by omega]
      have hal := allO_len (l.take 12)
      have htl := List.length_take_le 12 l
      rw [hend.out] at ho
      obtain ⟨T, hT⟩ := hid_ex (allO (l.take 12))
      rw [hT.out] at ho hal
      have hal600 : T.length ≤ 600 := by omega
      clear hal htl hend
      have hwhy : i < n ∨ ¬ i < n := Classical.em _
      rcases hwhy with h1 | h1
      all_goals
        go_wp2_with (fail)
        refine (outBytes_any _ _ _ _ _ _ ho (by omega)).mono ?_
        rintro _ w2 ⟨A2, c2, rfl, hown2, hf2⟩
        go_wp2_with (fail)
        refine (opened_any w2.heap.size T.length c2 A2 T w2 rfl hown2.rd (by omega)).mono ?_
        rintro _ w3 ⟨g, A3, c3, rfl, hin3, hown3, hf3, hg3, hrg3, hL62⟩
        have hi3 := inAt_of hin3 hown3 hrg3 hL62
        have hf03 := (hf.trans hf2 (fun _ _ e => e)).trans hf3 (fun _ _ e => e)
        have hgl := hi3.lt
        have hgw : w.heap.size ≤ g := by have := hf2.size; omega
        clear hin3 hown3 hrg3 ho hown2
        go_wp2
        go_loopw [6] (fun v wx => ∃ (i : Nat), v = .int .i64 (i : Int) ∧ i ≤ n ∧ i ≤ 12 ∧ InAt wx g g T (allO (l.take i)).length 0 ∧ Fr Non w wx) (fun v _ => n - (intOf v).toNat)
        case atStart => exact ⟨0, rfl, by omega, by omega, hi3, hf03⟩
        case round =>
          obtain ⟨j, rfl, hjn, hj12, hi, hfx⟩ := hrel
          have hsx := hfx.size
          by_cases hlt : j < n ∧ j < 12
          · obtain ⟨h3, h4⟩ := hlt
            obtain ⟨o, hoo⟩ : ∃ o, l[j]? = some o := ⟨_, List.getElem?_eq_getElem (by rw [hlen.out]; exact h3)⟩
            obtain ⟨o0, o1, o2, o3, o4⟩ := hok o (List.mem_of_getElem? hoo)
            obtain ⟨b, off, rfl, hb, k0, k1, k2⟩ := OD.at (hr.fr hfx (fun _ _ e => e)) hoo
            obtain ⟨r, hdrop⟩ := allO_drop l hoo h4
            have hnl : (allO (l.take (j + 1))).length = (allO (l.take j)).length + o.put.length := by rw [allO_snoc l hoo, List.length_append]
            obtain ⟨a, ha⟩ := hid_ex (allO (l.take j)).length
            rw [ha.out] at hdrop hnl hi
            rw [hT.out] at hdrop
            have hnl' := Lib.hid hnl
            have hdrop' := Lib.hid hdrop
            clear hnl hdrop hoo
            have hbg : b < g := by omega
            obtain ⟨K, hK⟩ := hid_ex (around o.d 7)
            have hput : Hid (o.put = if K = 4 then Pk.num (Go.Proofs.Ytkppihpdhildjaa.u64 o.n) else if K = 5 then Pk.name o.n else if K = 6 then Pk.int (around o.n 21)
              else if K = 2 then Pk.text (o.s.take 40) else if K = 3 then Pk.bool (o.n % 2 == 0) else Pk.int o.n) := by show _ = _; unfold OD.put Pk.putO; rw [hK.out]
            have hid : InAt wr.drew g g T a 0 := hi
            rcases kinds K with hk | ⟨k1', hk⟩ | ⟨k1', k2', hk⟩ | ⟨k1', k2', k3', hk⟩ | ⟨k1', k2', k3', k4', hk⟩ | ⟨k1', k2', k3', k4', hk⟩
            · have hp : o.put = Pk.num (Go.Proofs.Ytkppihpdhildjaa.u64 o.n) := by rw [hput.out, if_pos (beq_iff_eq.1 hk)]
              rw [hp] at hdrop' hnl'
              have hx : Hid (Pk.rd T a 0 = (Go.Proofs.Ytkppihpdhildjaa.u64 o.n, a + (Pk.num (Go.Proofs.Ytkppihpdhildjaa.u64 o.n)).length, 0)) := Pk.back_num (u64_lt _) hdrop'.out
              clear hp
              have hw := u64_wrap o.n
              go_wp2_with (fail)
              refine (around_any o.d 7 _ o0 o1 (by omega) (by omega)).mono ?_
              rw [hK.out]
              rintro _ w1 ⟨rfl, rfl⟩
              go_wp2_with (fail)
              go_region_held3 (fun w' => w'.cell? ⟨b, off + j * 3 + 1, none⟩ = some (.int .i64 o.n)) (go_keep) (first
                | (go_at_call 29; (with_reducible refine (inNum_any g g T a 0 _ _ 0 _ hid hx).mono ?_); rintro _ w4 ⟨rfl, hi4, hf4⟩; have q1 : w4.cell? ⟨b, off + j * 3 + 1, none⟩ = some (.int .i64 o.n) := hf4.cell k1 (by unfold One; show ¬ b = g; omega)))
              all_goals
                go_wp2
                go_roundw
                case rel =>
                  refine ⟨j + 1, by go_num, by omega, by omega, ?_, hfx.drew.trans hf4 (fun k hk e => by unfold One at e; omega)⟩
                  rw [hnl'.out]; exact hi4
                case measure => simp [intOf]; omega
            · have hp : o.put = Pk.name o.n := by rw [hput.out, if_neg (beq_eq_false_iff_ne.1 k1'), if_pos (beq_iff_eq.1 hk)]
              rw [hp] at hdrop' hnl'
              have hx : Hid (Pk.rdIdent T a 0 = ((o.n.tmod 13, o.n, nameSum o.n), a + (Pk.name o.n).length, 0)) := Pk.back_ident (tmod13 o.n o2 o3).1 (tmod13 o.n o2 o3).2 o2 o3 (u64_lt _) hdrop'.out
              clear hp
              go_wp2_with (fail)
              refine (around_any o.d 7 _ o0 o1 (by omega) (by omega)).mono ?_
              rw [hK.out]
              rintro _ w1 ⟨rfl, rfl⟩
              go_wp2_with (fail)
              go_region_held3 (fun w' => w'.cell? ⟨b, off + j * 3 + 1, none⟩ = some (.int .i64 o.n)) (go_keep) (first
                | (go_at_call 33; (with_reducible refine (inIdent_any g g T a 0 _ _ _ _ 0 _ hid hx).mono ?_); rintro _ w4 ⟨rfl, hi4, hf4⟩; have q1 : w4.cell? ⟨b, off + j * 3 + 1, none⟩ = some (.int .i64 o.n) := hf4.cell k1 (by unfold One; show ¬ b = g; omega))
                | (go_at_call 39; (with_reducible refine (name_any o.n _).mono ?_); rintro _ w5 ⟨rfl, hf5⟩; have q2 := hf5.cell q1 (fun e => e)))
              all_goals
                go_wp2
                go_roundw
                case rel =>
                  refine ⟨j + 1, by go_num, by omega, by omega, ?_, (hfx.drew.trans hf4 (fun k hk e => by unfold One at e; omega)).trans hf5 (fun _ _ e => e)⟩
                  rw [hnl'.out]; exact hi4.fr hf5 (fun _ _ e => e) (fun e => e)
                case measure => simp [intOf]; omega
            · have hp : o.put = Pk.int (around o.n 21) := by rw [hput.out, if_neg (beq_eq_false_iff_ne.1 k1'), if_neg (beq_eq_false_iff_ne.1 k2'), if_pos (beq_iff_eq.1 hk)]
              rw [hp] at hdrop' hnl'
              have hx : Hid (Pk.rdMany T a 0 20 = (around o.n 21, a + (Pk.int (around o.n 21)).length, 0)) := Pk.back_many (around_bd (by omega)).1 (by have := (around_bd (n := o.n) (m := 21) (by omega)).2; omega) (by have := (around_bd (n := o.n) (m := 21) (by omega)).2; omega) hdrop'.out
              clear hp
              go_wp2_with (fail)
              refine (around_any o.d 7 _ o0 o1 (by omega) (by omega)).mono ?_
              rw [hK.out]
              rintro _ w1 ⟨rfl, rfl⟩
              go_wp2_with (fail)
              go_region_held3 (fun w' => w'.cell? ⟨b, off + j * 3 + 1, none⟩ = some (.int .i64 o.n)) (go_keep) (first
                | (go_at_call 26; (with_reducible refine (inMany_any g g T a 0 20 _ _ 0 _ hid hx).mono ?_); rintro _ w4 ⟨rfl, hi4, hf4⟩; have q1 : w4.cell? ⟨b, off + j * 3 + 1, none⟩ = some (.int .i64 o.n) := hf4.cell k1 (by unfold One; show ¬ b = g; omega))
                | (go_at_call 12; (with_reducible refine (around_any o.n 21 _ o2 o3 (by omega) (by omega)).mono ?_); rintro _ _ ⟨rfl, rfl⟩))
              all_goals
                go_wp2
                go_roundw
                case rel =>
                  refine ⟨j + 1, by go_num, by omega, by omega, ?_, hfx.drew.trans hf4 (fun k hk e => by unfold One at e; omega)⟩
                  rw [hnl'.out]; exact hi4
                case measure => simp [intOf]; omega
            · have hp : o.put = Pk.text (o.s.take 40) := by rw [hput.out, if_neg (beq_eq_false_iff_ne.1 k1'), if_neg (beq_eq_false_iff_ne.1 k2'), if_neg (beq_eq_false_iff_ne.1 k3'), if_pos (beq_iff_eq.1 hk)]
              rw [hp] at hdrop' hnl'
              have hx : Hid (Pk.rdText T a 0 = (o.s.take 40, a + (Pk.text (o.s.take 40)).length, 0)) := Pk.back_text (by have := List.length_take_le 40 o.s; omega) hdrop'.out
              clear hp
              go_wp2_with (fail)
              refine (around_any o.d 7 _ o0 o1 (by omega) (by omega)).mono ?_
              rw [hK.out]
              rintro _ w1 ⟨rfl, rfl⟩
              go_wp2_with (fail)
              have hshort : Hid (∀ w, Calls Try.prog 40 #[.string (str o.s), .int .i64 40] w fun r w' => r = .returned (.string (str (o.s.take 40))) ∧ w = w') := fun w => short_any o.s 40 w o4 (by omega)
              go_region_held3 (fun w' => w'.cell? ⟨b, off + j * 3 + 2, none⟩ = some (.string (str o.s))) (go_keep) (first
                | (go_at_call 34; (with_reducible refine (inText_any g g T a 0 _ _ 0 _ hid hx).mono ?_); rintro _ w4 ⟨rfl, hi4, hf4⟩; have q1 : w4.cell? ⟨b, off + j * 3 + 2, none⟩ = some (.string (str o.s)) := hf4.cell k2 (by unfold One; show ¬ b = g; omega))
                | (go_at_call 40; (with_reducible refine (hshort.out _).mono ?_); rintro _ _ ⟨rfl, rfl⟩))
              all_goals
                go_wp2
                go_roundw
                case rel =>
                  refine ⟨j + 1, by go_num, by omega, by omega, ?_, hfx.drew.trans hf4 (fun k hk e => by unfold One at e; omega)⟩
                  rw [hnl'.out]; exact hi4
                case measure => simp [intOf]; omega
            · have hp : o.put = Pk.bool (o.n % 2 == 0) := by rw [hput.out, if_neg (beq_eq_false_iff_ne.1 k1'), if_neg (beq_eq_false_iff_ne.1 k2'), if_neg (beq_eq_false_iff_ne.1 k3'), if_neg (beq_eq_false_iff_ne.1 k4'), if_pos (beq_iff_eq.1 hk)]
              rw [hp] at hdrop' hnl'
              have hx : Hid (Pk.rdBool T a 0 = ((o.n % 2 == 0), a + (Pk.bool (o.n % 2 == 0)).length, 0)) := Pk.back_bool hdrop'.out
              clear hp
              go_wp2_with (fail)
              refine (around_any o.d 7 _ o0 o1 (by omega) (by omega)).mono ?_
              rw [hK.out]
              rintro _ w1 ⟨rfl, rfl⟩
              go_wp2_with (fail)
              have hm2 := tmod2 o.n
              go_region_held3 (fun w' => w'.cell? ⟨b, off + j * 3 + 1, none⟩ = some (.int .i64 o.n)) (go_keep) (first
                | (go_at_call 36; (with_reducible refine (inBool_any g g T a 0 _ _ 0 _ hid hx).mono ?_); rintro _ w4 ⟨rfl, hi4, hf4⟩; have q1 : w4.cell? ⟨b, off + j * 3 + 1, none⟩ = some (.int .i64 o.n) := hf4.cell k1 (by unfold One; show ¬ b = g; omega)))
              all_goals
                go_wp2
                go_roundw
                case rel =>
                  refine ⟨j + 1, by go_num, by omega, by omega, ?_, hfx.drew.trans hf4 (fun k hk e => by unfold One at e; omega)⟩
                  rw [hnl'.out]; exact hi4
                case measure => simp [intOf]; omega
            · have hp : o.put = Pk.int o.n := by rw [hput.out, if_neg (beq_eq_false_iff_ne.1 k1'), if_neg (beq_eq_false_iff_ne.1 k2'), if_neg (beq_eq_false_iff_ne.1 k3'), if_neg (beq_eq_false_iff_ne.1 k4'), if_neg (beq_eq_false_iff_ne.1 hk)]
              rw [hp] at hdrop' hnl'
              have hx : Hid (Pk.rdInt T a 0 = (o.n, a + (Pk.int o.n).length, 0)) := Pk.back_int o2 o3 hdrop'.out
              clear hp
              go_wp2_with (fail)
              refine (around_any o.d 7 _ o0 o1 (by omega) (by omega)).mono ?_
              rw [hK.out]
              rintro _ w1 ⟨rfl, rfl⟩
              go_wp2_with (fail)
              go_region_held3 (fun w' => w'.cell? ⟨b, off + j * 3 + 1, none⟩ = some (.int .i64 o.n)) (go_keep) (first
                | (go_at_call 20; (with_reducible refine (inInt_any g g T a 0 _ _ 0 _ hid hx).mono ?_); rintro _ w4 ⟨rfl, hi4, hf4⟩; have q1 : w4.cell? ⟨b, off + j * 3 + 1, none⟩ = some (.int .i64 o.n) := hf4.cell k1 (by unfold One; show ¬ b = g; omega)))
              all_goals
                go_wp2
                go_roundw
                case rel =>
                  refine ⟨j + 1, by go_num, by omega, by omega, ?_, hfx.drew.trans hf4 (fun k hk e => by unfold One at e; omega)⟩
                  rw [hnl'.out]; exact hi4
                case measure => simp [intOf]; omega
          · have hend2 : Hid ((allO (l.take j)).length = T.length) := by
              show _ = _
              rw [← hT.out]
              by_cases h5 : j < 12
              · rw [List.take_of_length_le (by rw [hlen.out]; omega), List.take_of_length_le (by rw [hlen.out]; omega)]
              · rw [show j = 12 by omega]
            rw [hend2.out] at hi
            have hwhy2 : j < n ∨ ¬ j < n := Classical.em _
            rcases hwhy2 with h5 | h5
            all_goals try (exfalso; omega)
            all_goals
              go_wp2_with (fail)
              refine (inLeft_any g g T T.length 0 _ hi).mono ?_
              rintro _ w5 ⟨rfl, hi5, hf5⟩
              rw [Nat.sub_self]
              go_wp2_with (fail)
              refine (inErr_any g g T T.length 0 _ hi5).mono ?_
              rintro _ _ ⟨rfl, rfl⟩
              go_wp2_with (fail)
              refine (inEnd_any g g T T.length 0 _ hi5).mono ?_
              rintro _ w6 ⟨rfl, hi6, hf6⟩
              have he : Pk.endE T T.length 0 = 0 := by unfold Pk.endE; rw [if_neg (by omega)]
              rw [he]
              go_wp2_with (fail)
              refine (lives_any _).mono ?_
              rintro _ w7 ⟨rfl, hf7⟩
              go_wp2
              go_ret
              exact ⟨rfl, ((hfx.trans hf5 (fun k hk e => by unfold One at e; omega)).trans hf6 (fun k hk e => by unfold One at e; omega)).trans hf7 (fun _ _ e => e)⟩
end Go.Proofs.Ytkppihpdhildjaa
