/-
  The references' generator of operations (huddleref11.Op), up to its history.
  Conditions: as every slice has.
-/
import Derived.Test.YtahcddlgghipjaaGreatDoorGenDefs
namespace Go.Proofs.YtahcddlgghipjaaGreatDoor
open Go.RowKit
attribute [local go_sem ↓] Go.wp_at_zero Go.wp_at_succ
namespace Oq
attribute [local go_sem] Bool.not_false Bool.not_true

set_option maxRecDepth 100000 in
set_option maxHeartbeats 40000000 in
/-- What is left behind the kinds' own, and that it is enough. -/
def genA : PSigma (fun P : Prop => PLift P → ∀ (B0 n c : Nat) (A : Option Addr) (l : List Int) (w : World) (_ : Hid (l.length = n)) (_ : Rd w B0 1 A n (l.map Iv)) (_ : n ≤ c) (_ : c ≤ 9223372036854775807) (_ : Hid (∀ x ∈ l, I64 x)), Calls Tryz.prog 4 #[.slice A n c] w (GenPost (l.take 60) w)) := PSigma.mk _ (by
  intro hP B0 n c A l w hn hr hc hc' hok
  go_enter Tryz.func4, Tryz.ntmps4
  go_wp2_with (fail)
  refine (ints01_any B0 n c A l 60 _ hn (hr.alloc _) hc hc' (by omega)).mono ?_
  rintro _ w1 ⟨A1, c1, rfl, own1, hf1⟩
  have hL : Hid ((l.take 60).length ≤ 60 ∧ ∀ x ∈ l.take 60, I64 x) := ⟨by rw [List.length_take]; omega, fun x hx => hok.out x (List.mem_of_mem_take hx)⟩
  generalize hLL : l.take 60 = L at *
  clear hLL
  have hres := (Blk.new w 35 OpL.zero.cells).fr hf1 (fun e => e)
  have fr1 : Fr Non w w1 := ((Fr.refl Non w).alloc (.cells OpL.zero.cells 35)).trans hf1 (fun _ _ e => e)
  have hsz := hf1.size
  rw [World.size_alloc] at hsz
  have tk0 : Tk (w1.alloc (.cells #[.slice A1 L.length c1, .int .i64 0] 48)) w1.heap.size w1.heap.size L 0 :=
    ⟨A1, c1, Blk.new w1 _ _, own1.rd.alloc _, Nat.le_refl _, hL.out.1, hL.out.2⟩
  have fr2 : Fr Non w1 (w1.alloc (.cells #[.slice A1 L.length c1, .int .i64 0] 48)) := (Fr.refl _ _).alloc _
  clear own1 hf1 hr
  go_wp2_with (fail)
  generalize w1.alloc (.cells #[.slice A1 L.length c1, .int .i64 0] 48) = w2 at *
  obtain ⟨g, hg⟩ : ∃ g, Hid (w1.heap.size = g) := ⟨_, rfl⟩
  have hgo := hg.out
  rw [hgo] at tk0 ⊢
  clear hgo
  refine (next_e g g L 0 13 _ tk0 (by omega) (by omega) (by omega)).mono ?_
  rintro _ w3 ⟨k, k0, k1, rfl, tk3, f3⟩
  obtain ⟨b, hb⟩ := hid_ex (nx L 1 6)
  have hb6 := nx_bd L 1 (m := 6) (by omega)
  rw [hb.out] at hb6
  obtain ⟨s, hs⟩ := hid_ex (nx L 2 20)
  have hs20 := nx_bd L 2 (m := 20) (by omega)
  rw [hs.out] at hs20
  go_wp2_with (fail)
  refine (next_any g g L 1 6 _ tk3 (by omega) (by omega) (by omega)).mono ?_
  rw [hb.out]
  rintro _ w4 ⟨rfl, tk4, f4⟩
  go_wp2_with (fail)
  refine (next_any g g L 2 20 _ tk4 (by omega) (by omega) (by omega)).mono ?_
  rw [hs.out]
  rintro _ w5 ⟨rfl, tk5, f5⟩
  go_wp2_with (fail)
  refine (next_e g g L _ 500 _ tk5 (by omega) (by omega) (by omega)).mono ?_
  rintro _ w6 ⟨a, a0, a1, rfl, tk6, f6⟩
  have fr6 := (((fr2.trans f3 (fun k hk e => absurd hk (by have e' : k = g := e; have := hg.out; omega))).trans f4 (fun k hk e => absurd hk (by have e' : k = g := e; have := hg.out; omega))).trans f5 (fun k hk e => absurd hk (by have e' : k = g := e; have := hg.out; omega))).trans f6 (fun k hk e => absurd hk (by have e' : k = g := e; have := hg.out; omega))
  clear tk0 tk3 tk4 tk5 f3 f4 f5 f6 fr2
  have hi : (Tryz.prog.info? 35).map (·.size) = some 27 := by kernel_rfl
  have hbl := Blk.new w6 35 OpL.zero.cells
  go_upto_region 3 with (first | (refine wpList_store_row rfl 35 (.tmp 4) (.tmp 26) rfl rfl rfl rfl hbl hi rfl (by simp [Value.oneCell']) ?_))
  have gs0 : Gs w1 ((w6.alloc (.cells #[.int .i64 0, .int .i64 0, .int .i64 0, .int .i64 0, .slice none 0 0, .int .i64 0, .int .i64 0, .int .i64 0, .int .i64 0, .slice none 0 0, .int .i64 0, .int .i64 0, .int .u64 0, .int .i64 0, .slice none 0 0, .slice none 0 0, .int .i64 0, .int .i64 0, .int .u64 0, .slice none 0 0, .int .i64 0, .int .i64 0, .slice none 0 0, .int .u64 0, .slice none 0 0, .int .u64 0, .int .u64 0] 35)).setRow w6.heap.size #[.int .i64 (1 + b), .int .i64 (1 + s), .int .i64 (1 + k), .int .i64 a, .slice none 0 0, .int .i64 0, .int .i64 0, .int .i64 0, .int .i64 0, .slice none 0 0, .int .i64 0, .int .i64 0, .int .u64 0, .int .i64 0, .slice none 0 0, .slice none 0 0, .int .i64 0, .int .i64 0, .int .u64 0, .slice none 0 0, .int .i64 0, .int .i64 0, .slice none 0 0, .int .u64 0, .slice none 0 0, .int .u64 0, .int .u64 0]) g g w6.heap.size L 4 (OpL.base (1 + b) (1 + s) (1 + k) a none 0 [] none 0 []) := by
    have h6 := fr6.size
    have hgl := tk6.lt
    have hgw := hg.out
    have hff := (Fr.refl (One w6.heap.size) (w6.alloc (.cells #[.int .i64 0, .int .i64 0, .int .i64 0, .int .i64 0, .slice none 0 0, .int .i64 0, .int .i64 0, .int .i64 0, .int .i64 0, .slice none 0 0, .int .i64 0, .int .i64 0, .int .u64 0, .int .i64 0, .slice none 0 0, .slice none 0 0, .int .i64 0, .int .i64 0, .int .u64 0, .slice none 0 0, .int .i64 0, .int .i64 0, .slice none 0 0, .int .u64 0, .slice none 0 0, .int .u64 0, .int .u64 0] 35))).setRow (g := w6.heap.size) (fun _ => rfl) #[.int .i64 (1 + b), .int .i64 (1 + s), .int .i64 (1 + k), .int .i64 a, .slice none 0 0, .int .i64 0, .int .i64 0, .int .i64 0, .int .i64 0, .slice none 0 0, .int .i64 0, .int .i64 0, .int .u64 0, .int .i64 0, .slice none 0 0, .slice none 0 0, .int .i64 0, .int .i64 0, .int .u64 0, .slice none 0 0, .int .i64 0, .int .i64 0, .slice none 0 0, .int .u64 0, .slice none 0 0, .int .u64 0, .int .u64 0]
    exact ⟨hbl.setRow, (tk6.alloc _).fr hff (by unfold One; omega) (fun j hj => One.not (by omega) hj), ⟨RowAt.nil _ _ _ _, RowAt.nil _ _ _ _, (fun y hy => by cases hy), RowAt.nil _ _ _ _, RowAt.nil _ _ _ _, RowAt.nil _ _ _ _, RowAt.nil _ _ _ _, RowAt.nil _ _ _ _, (fun y hy => by cases hy)⟩, ⟨by omega, by omega⟩, (fr6.alloc _).trans hff (fun j hj e => absurd hj (by have e' : j = w6.heap.size := e; omega))⟩
  generalize (w6.alloc (.cells #[.int .i64 0, .int .i64 0, .int .i64 0, .int .i64 0, .slice none 0 0, .int .i64 0, .int .i64 0, .int .i64 0, .int .i64 0, .slice none 0 0, .int .i64 0, .int .i64 0, .int .u64 0, .int .i64 0, .slice none 0 0, .slice none 0 0, .int .i64 0, .int .i64 0, .int .u64 0, .slice none 0 0, .int .i64 0, .int .i64 0, .slice none 0 0, .int .u64 0, .slice none 0 0, .int .u64 0, .int .u64 0] 35)).setRow w6.heap.size #[.int .i64 (1 + b), .int .i64 (1 + s), .int .i64 (1 + k), .int .i64 a, .slice none 0 0, .int .i64 0, .int .i64 0, .int .i64 0, .int .i64 0, .slice none 0 0, .int .i64 0, .int .i64 0, .int .u64 0, .int .i64 0, .slice none 0 0, .slice none 0 0, .int .i64 0, .int .i64 0, .int .u64 0, .slice none 0 0, .int .i64 0, .int .i64 0, .slice none 0 0, .int .u64 0, .slice none 0 0, .int .u64 0, .int .u64 0] = W3 at gs0 ⊢
  clear hbl tk6 fr6
  generalize w6.heap.size = go at *
  obtain ⟨kk, hkk⟩ := hid_ex (1 + k)
  have kb : 1 ≤ kk ∧ kk ≤ 13 := by rw [← hkk.out]; omega
  rw [hkk.out] at gs0
  obtain ⟨bb, hbb⟩ := hid_ex (1 + b)
  have bb6 : 1 ≤ bb ∧ bb ≤ 6 := by rw [← hbb.out]; omega
  obtain ⟨ss, hss⟩ := hid_ex (1 + s)
  have ss20 : 1 ≤ ss ∧ ss ≤ 20 := by rw [← hss.out]; omega
  rw [hbb.out, hss.out] at gs0
  have lk : W3.cell? ⟨go, 2, none⟩ = some (.int .i64 kk) := gs0.blk.cell 2
  go_upto_if 29 with (fail)
  clear lk
  go_cut [] (fun wc => P1 w1 wc g g go L bb ss kk a)
  case first =>
    clear hP
    by_cases hk1 : kk = 1
    · have hp : PastOk kk [] := ⟨by simp, (fun x hx => by cases hx), List.Pairwise.nil, by simp [hk1]⟩
      have f1 : (kk != 1) = false := by simp [hk1]
      clear hk1
      go_wp2
      go_meet
      exact ⟨4, none, 0, [], gs0, by omega, hp⟩
    · have f1 : (kk != 1) = true := by simp [hk1]
      go_wp2_with (fail)
      refine (next_e g g L 4 3 _ gs0.tk (by omega) (by omega) (by omega)).mono ?_
      rintro _ w4 ⟨v, v0, v1, rfl, tk4, f4⟩
      have gs4 := gs0.one f4 tk4
      clear tk4 f4 f1
      obtain ⟨M, hM⟩ : ∃ M : Nat, 1 + v = (M : Int) := ⟨(1 + v).toNat, by omega⟩
      have hM3 : 1 ≤ M ∧ M ≤ 3 := by omega
      have hM' := Lib.hid hM
      clear hM
      go_wp2_with (fail)
      go_loopw [5] (fun v wr => ∃ (m i : Nat) (pA : Option Addr) (pC : Nat) (past : List Id), v = .int .i64 (m : Int) ∧ m ≤ M ∧ i + 3 * m ≤ 5 + 3 * M ∧ Gs w1 wr g g go L i (OpL.base bb ss kk a pA pC past none 0 []) ∧ Own wr g 27 3 pA past.length pC (past.flatMap Id.cells) ∧ Hid (past.length + m ≤ M ∧ (∀ x ∈ past, x.gen) ∧ past.Nodup ∧ (m < M → past ≠ []))) (fun v _ => (intOf v).toNat)
      case atStart => exact ⟨M, 5, none, 0, [], by rw [← hM'.out], by omega, by omega, gs4, Own.nil _ _ _ _, by simp, (fun x hx => by cases hx), List.nodup_nil, by omega⟩
      case round =>
        obtain ⟨m, i, pA, pC, past, rfl, hm, him, gs, own, hpast⟩ := hrel
        by_cases hm0 : m = 0
        · subst hm0
          have hpl := hpast.out.1
          have c4 : wr.cell? ⟨go, 4, none⟩ = some (.slice pA past.length pC) := gs.blk.cell 4
          go_wp2_with (fail)
          refine (sorted_any _ past.length pC pA past _ rfl own.rd (by omega)).mono ?_
          rintro _ w5 ⟨A5, c5, rfl, own5, f5⟩
          have gs5 := gs.non f5
          have hgw := gs.tk.lt
          have z4 : w5.cell? ⟨go, 4, none⟩ = some _ := gs5.blk.cell 4
          have q4 := gs5.blk.frozen 4
          clear c4
          go_wp2
          go_meet
          exact ⟨i, A5, c5, sortIds past, gs5.past (sortIds past) A5 past.length c5 ((sortIds_perm past).length_eq) ((RowAt.of_own own5).lower (by omega)), by omega, past_ok hk1 hpast.out.1 hM3.2 hpast.out.2.1 hpast.out.2.2.1 (hpast.out.2.2.2 (by omega))⟩
        · obtain ⟨m, rfl⟩ : ∃ j, m = j + 1 := ⟨m - 1, by omega⟩
          have hpl := hpast.out.1
          go_wp2_with (fail)
          refine (name_any g g L i _ gs.tk (by omega)).mono ?_
          rintro _ w5 ⟨x, xg, rfl, tk5, f5⟩
          have hbt := gs.tk
          obtain ⟨_, _, hbt, _⟩ := hbt
          have gs5 := gs.one f5 tk5
          have own5 := own.fr f5 (fun j hj e => own.ne hbt (by decide) (by rw [hj]; exact congrArg some e))
          clear gs own tk5 f5 hbt
          go_upto_region 8 with (fail)
          have gs6 := gs5.alloc (.cells #[.int .i64 x.b, .int .i64 x.s, .int .u64 (x.u : Int)] 27)
          have own6 := own5.alloc (.cells #[.int .i64 x.b, .int .i64 x.s, .int .u64 (x.u : Int)] 27)
          have hbx := Blk.new w5 27 #[.int .i64 x.b, .int .i64 x.s, .int .u64 (x.u : Int)]
          generalize w5.alloc (.cells #[.int .i64 x.b, .int .i64 x.s, .int .u64 (x.u : Int)] 27) = w6 at *
          clear gs5 own5
          generalize w5.heap.size = gx at *
          have c4 : w6.cell? ⟨go, 4, none⟩ = some (.slice pA past.length pC) := gs6.blk.cell 4
          have x0 := hbx.cell 0
          have x1 := hbx.cell 1
          have x2 := hbx.cell 2
          go_wp2_with (fail)
          refine (hasid_any _ past.length pC pA past x _ rfl own6.rd (by omega)).mono ?_
          rintro _ w7 ⟨rfl, f7⟩
          have gs7 := gs6.non f7
          have own7 := own6.fr f7 (fun _ _ e => e)
          have hbx7 := hbx.fr f7 (fun e => e)
          clear c4 x0 x1 x2 gs6 own6 hbx f7
          by_cases hh : hasId past x = true
          · have hne : past ≠ [] := fun e => by rw [e] at hh; cases hh
            have hp2 := Lib.hid hne
            clear hne
            go_wp2
            go_roundw
            case rel => exact ⟨m, i + 3, pA, pC, past, by go_num, by omega, by omega, gs7, own7, by have := hpast.out.1; omega, hpast.out.2.1, hpast.out.2.2.1, fun _ => hp2.out⟩
            case measure => first | (simp [intOf]; done) | (simp [intOf]; omega)
          · have hnx : Hid (x ∉ past) := fun hx => hh ((hasId_mem _ _).2 hx)
            have hh := Bool.not_eq_true _ ▸ hh
            have c4 : w7.cell? ⟨go, 4, none⟩ = some (.slice pA past.length pC) := gs7.blk.cell 4
            have x0 := hbx7.cell 0
            have x1 := hbx7.cell 1
            have x2 := hbx7.cell 2
            have hg7 := gs7.tk.lt
            go_wp2_with (first | (at_builtin; go_loud (refine wpList_app (base := g) (.tmp 45) (.tmp 47) 23 rfl rfl rfl rfl slId (own7.alloc (.cells #[.int .i64 x.b, .int .i64 x.s, .int .u64 (x.u : Int)] 27)) (Rd.blk (n := 1) (size := 3) (Blk.new w7 27 #[.int .i64 x.b, .int .i64 x.s, .int .u64 (x.u : Int)]) rfl) (by simp [Value.oneCell']) (by omega) (by omega) (by rw [World.size_alloc]; omega) ?_); intro A9 c9 w9 own9 fr9 hat9; have hb9 := (gs7.alloc (.cells #[.int .i64 x.b, .int .i64 x.s, .int .u64 (x.u : Int)] 27)).blk.fr fr9 (fun e => own7.ne gs7.blk (by decide) e); have z4 : w9.cell? ⟨go, 4, none⟩ = some _ := hb9.cell 4; have q4 := hb9.frozen 4))
            go_roundw
            case rel =>
              have own9' : Own w9 g 27 3 A9 (past.length + 1) c9 ((past ++ [x]).flatMap Id.cells) := by rw [List.flatMap_append]; exact own9
              have hlen : (past ++ [x]).length = past.length + 1 := by simp
              have gs9 := (gs7.alloc (.cells #[.int .i64 x.b, .int .i64 x.s, .int .u64 (x.u : Int)] 27)).past_app (own7.alloc _) fr9 (past ++ [x]) A9 (past.length + 1) c9 hlen own9'
              refine ⟨m, i + 3, A9, c9, past ++ [x], by go_num, by omega, by omega, gs9, ?_, ?_, ?_, ?_, by simp⟩
              · rw [hlen]
                exact own9'.setOne (own9.ne hb9 (by decide))
              · rw [hlen]; have := hpast.out.1; omega
              · intro y hy
                rcases List.mem_append.1 hy with hy | hy
                · exact hpast.out.2.1 y hy
                · rw [List.mem_singleton.1 hy]; exact xg
              · rw [List.nodup_append]
                exact ⟨hpast.out.2.2.1, by simp, fun a ha b hb e => by rw [List.mem_singleton.1 hb] at e; exact hnx.out (e ▸ ha)⟩
            case measure => first | (simp [intOf]; done) | (simp [intOf]; omega)
  case rest =>
  clear gs0
  obtain ⟨i, pA, pC, past, gs, hi40, hpok⟩ := hcut
  generalize wc = W4 at *
  have lk : W4.cell? ⟨go, 2, none⟩ = some (.int .i64 kk) := gs.blk.cell 2
  go_wp2_with (fail)
  refine (commit11_any kk _).mono ?_
  rintro _ _ ⟨rfl, rfl⟩
  clear lk
  go_upto_if 56 with (fail)
  go_cut [] (fun wc => P2 w1 wc g g go L bb ss kk a)
  case first =>
    clear hP
    by_cases hc : commit kk = true
    · have hcc := Lib.hid hc
      rw [hc]
      clear hc
      go_wp2_with (fail)
      refine (next_e g g L i 3 _ gs.tk (by omega) (by omega) (by omega)).mono ?_
      rintro _ w4 ⟨v, v0, v1, rfl, tk4, f4⟩
      have gs4 := gs.one f4 tk4
      clear tk4 f4 gs
      obtain ⟨M, hM⟩ : ∃ M : Nat, 1 + v = (M : Int) := ⟨(1 + v).toNat, by omega⟩
      have hM3 : 1 ≤ M ∧ M ≤ 3 := by omega
      have hM' := Lib.hid hM
      clear hM
      go_wp2_with (fail)
      go_loopw [7] (fun v wr => ∃ (m i : Nat) (qA : Option Addr) (qC : Nat) (path : List NdL), v = .int .i64 (m : Int) ∧ m ≤ M ∧ i + 10 * m ≤ 41 + 10 * M ∧ path.length + m ≤ M ∧ Gs w1 wr g g go L i (OpL.base bb ss kk a pA pC past qA qC path) ∧ Own wr g 55 2 qA path.length qC (path.flatMap NdL.cells) ∧ Hid (∀ y ∈ path, y.gen)) (fun v _ => (intOf v).toNat)
      case atStart => exact ⟨M, i + 1, none, 0, [], by rw [← hM'.out], by omega, by omega, by simp, gs4, Own.nil _ _ _ _, (fun x hx => by cases hx)⟩
      case round =>
        obtain ⟨m, i, qA, qC, path, rfl, hm, him, hpm, gs, own, hpath⟩ := hrel
        as_aux_lemma =>
        by_cases hm0 : m = 0
        · subst hm0
          go_wp2_with (fail)
          go_meet
          exact ⟨i, pA, pC, past, qA, qC, path, gs, by omega, pre_ok hpok kb bb6 ss20 ⟨a0, a1⟩ (by omega) hpath.out (.inr hcc.out)⟩
        · obtain ⟨m, rfl⟩ : ∃ j, m = j + 1 := ⟨m - 1, by omega⟩
          go_upto_block 3 with (fail)
          go_cut [] (fun wc => ∃ (j : Nat) (qA : Option Addr) (qC : Nat) (path' : List NdL), Gs w1 wc g g go L j (OpL.base bb ss kk a pA pC past qA qC path') ∧ Own wc g 55 2 qA path'.length qC (path'.flatMap NdL.cells) ∧ j ≤ i + 10 ∧ path'.length = path.length + 1 ∧ Hid (∀ y ∈ path', y.gen))
          case first =>
            as_aux_lemma =>
            go_upto_region 15 with (fail)
            have gsd := gs.drew
            have ownd : Own wr.drew g 55 2 qA path.length qC (path.flatMap NdL.cells) := own
            have hbt := gs.tk
            obtain ⟨_, _, hbt, _⟩ := hbt
            have nrow : ∀ j, rowOf qA = some j → ¬ One g j := fun j hj e => own.ne hbt (by decide) (by rw [hj]; exact congrArg some e)
            have z0 : wr.drew.cell? ⟨go, 9, none⟩ = some (.slice qA path.length qC) := gs.blk.cell 9
            have hgt := gs.tk.lt
            have h32 : (path.length + 1) * 32 ≤ 140737488355328 := by omega
            have h33 : path.length + 1 ≤ 9223372036854775807 := by omega
            have hq2 : i + 1 ≤ 1000000 := by omega
            have hq3 : i + 1 + 1 ≤ 900000 := by omega
            go_region_law (first
              | (go_simp; go_at_call 13; (with_reducible refine (next_e g g L i 1000 _ gsd.tk (by omega) (by omega) (by omega)).mono ?_); rintro _ w5 ⟨v1, p1, q1, rfl, tk5, f5⟩; have e1 : IntKind.u64.wrap v1 = v1 := IntWalk.u64_in _ (by omega); have e2 : IntKind.u64.wrap (1 + v1) = 1 + v1 := IntWalk.u64_in _ (by omega); have gs5 := gsd.one f5 tk5; have own5 := ownd.fr f5 nrow; have z1 : w5.cell? ⟨go, 9, none⟩ = some (.slice qA path.length qC) := gs5.blk.cell 9; clear f5 tk5)
              | (go_simp; go_at_call 13; (with_reducible refine (next_e g g L (i + 1) 3 _ gs5.tk hq2 (by decide) (by decide)).mono ?_); rintro _ w6 ⟨v2, p2, q2, rfl, tk6, f6⟩; clear e1 e2; obtain ⟨nb, rfl⟩ := Int.eq_ofNat_of_zero_le p2; have hnb : nb ≤ 1000 := (by omega); have gs6 := gs5.one f6 tk6; have own6 := own5.fr f6 nrow; have z2 : w6.cell? ⟨go, 9, none⟩ = some (.slice qA path.length qC) := gs6.blk.cell 9; clear f6 tk6)
              | (go_simp; go_at_call 17; (with_reducible refine (boxes_any g g L (i + 1 + 1) nb _ gs6.tk hnb hq3).mono ?_); rintro _ w7 ⟨bx, A7, c7, rfl, rfl, hbg, own7, tk7, f7⟩; have gs7 := gs6.one f7 tk7; have ownp := own6.fr f7 nrow; have z3 : w7.cell? ⟨go, 9, none⟩ = some (.slice qA path.length qC) := gs7.blk.cell 9; have z4 := cell_alloc z3 (.cells #[.int .u64 (1 + v1), .slice A7 bx.length c7] 55); clear tk7; have hrdN := Rd.blk (n := 1) (size := 2) (Blk.new w7 55 #[.int .u64 (1 + v1), .slice A7 bx.length c7]) rfl; have hone : ∀ u ∈ [Value.int .u64 (1 + v1), Value.slice A7 bx.length c7], u.oneCell' = true := (by simp [Value.oneCell']); have hbase : g ≤ (w7.alloc (.cells #[.int .u64 (1 + v1), .slice A7 bx.length c7] 55)).heap.size := (by rw [World.size_alloc]; have := gs7.tk.lt; omega))
              | (refine step_app (base := g) (.tmp 65) (.tmp 75) 24 (by rfl) (by rfl) (by rfl) (by rfl) slNd (ownp.alloc (.cells #[.int .u64 (1 + v1), .slice A7 bx.length c7] 55)) hrdN hone h32 h33 hbase ?_; intro A8 c8 w8 own8 fr8 hat8; have hb8 := (gs7.alloc (.cells #[.int .u64 (1 + v1), .slice A7 bx.length c7] 55)).blk.fr fr8 (fun e => ownp.ne gs7.blk (by decide) e); have z8 : w8.cell? ⟨go, 9, none⟩ = some _ := hb8.cell 9; have q8 := hb8.frozen 9))
            all_goals
              as_aux_lemma =>
              go_wp2_with (fail)
              go_meet
              have own8' : Own w8 g 55 2 A8 (path.length + 1) c8 ((path ++ [(⟨(1 + v1).toNat, A7, c7, bx⟩ : NdL)]).flatMap NdL.cells) := by
                rw [List.flatMap_append, List.flatMap_cons, List.flatMap_nil, List.append_nil]
                have e : NdL.cells ⟨(1 + v1).toNat, A7, c7, bx⟩ = [.int .u64 (1 + v1), .slice A7 bx.length c7] := by unfold NdL.cells; rw [Int.toNat_of_nonneg (by omega)]
                rw [e]
                exact own8
              have hlen : (path ++ [(⟨(1 + v1).toNat, A7, c7, bx⟩ : NdL)]).length = path.length + 1 := by simp
              have hg6 := gs6.tk.lt
              have gs8 := (gs7.alloc (.cells #[.int .u64 (1 + v1), .slice A7 bx.length c7] 55)).path_app (ownp.alloc _) fr8 (path ++ [(⟨(1 + v1).toNat, A7, c7, bx⟩ : NdL)]) A8 (path.length + 1) c8 hlen own8' (by
                intro y hy
                rcases List.mem_append.1 hy with hy | hy
                · exact (gs7.alloc _).own.nodes y hy
                · rw [List.mem_singleton.1 hy]
                  exact ((RowAt.of_own own7).lower (Nat.le_of_lt hg6)).keepT ((Fr.refl Non w7).alloc _) (fun _ _ _ _ e => e))
              refine ⟨i + 1 + 1 + 4 * bx.length, A8, c8, _, gs8, ?_, by omega, hlen, ?_⟩
              · rw [hlen]
                exact own8'.setOne (own8.ne hb8 (by decide))
              · intro y hy
                rcases List.mem_append.1 hy with hy | hy
                · exact hpath.out y hy
                · rw [List.mem_singleton.1 hy]
                  exact ⟨by unfold FP; simp; omega, by simp; omega, fun b hb => (hbg b hb).may⟩
          case rest =>
            obtain ⟨j, qA', qC', path', gs', own', hj, hpl, hpg⟩ := hcut
            go_wp2_with (fail)
            go_roundw
            case rel => exact ⟨m, j, qA', qC', path', by go_num, by omega, by omega, by omega, gs', own', hpg⟩
            case measure => first | (simp [intOf]; done) | (simp [intOf]; omega)
    · have hc' : commit kk = false := Bool.not_eq_true _ ▸ hc
      rw [hc']
      clear hc hc'
      go_wp2_with (fail)
      go_meet
      exact ⟨i, pA, pC, past, none, 0, [], gs, by omega, pre_ok hpok kb bb6 ss20 ⟨a0, a1⟩ (by simp) (fun y hy => by cases hy) (.inl rfl)⟩
  case rest =>
  clear gs
  obtain ⟨i, pA, pC, past, qA, qC, path, gs, hi200, hpre⟩ := hcut
  generalize wc = W5 at *
  have lk : W5.cell? ⟨go, 2, none⟩ = some (.int .i64 kk) := gs.blk.cell 2
  go_upto_block 4 with (fail)
  clear lk
  go_cut [] (fun wc => P3 w1 wc g g go L bb ss kk)
  case first =>
    clear hP
    have hk13 : kk = 1 ∨ kk = 2 ∨ kk = 3 ∨ kk = 4 ∨ kk = 5 ∨ kk = 6 ∨ kk = 7 ∨ kk = 8 ∨ kk = 9 ∨ kk = 10 ∨ kk = 11 ∨ kk = 12 ∨ kk = 13 := by omega
    rcases hk13 with rfl | rfl | rfl | rfl | rfl | rfl | rfl | rfl | rfl | rfl | rfl | rfl | rfl
    · as_aux_lemma =>
        go_wp2_with (fail)
        refine (next_e g g L i 21 _ gs.tk (by omega) (by omega) (by omega)).mono ?_
        rintro _ x1 ⟨v1, v10, v11, rfl, tk1, f1⟩
        have gs1 := gs.one f1 tk1
        have z1_20 : x1.cell? ⟨go, 20, none⟩ = some _ := gs1.blk.cell 20
        have q1_20 := gs1.blk.frozen 20
        have gs1p := gs1.need v1
        go_wp2
        go_meet
        exact ⟨i + 1, _, gs1p, (by omega), rfl, rfl, rfl, rfl, rfl, rfl, chk_create hpre (inR_t (n := v1) (by omega)), rfl, rfl⟩
    · as_aux_lemma =>
        go_wp2_with (fail)
        refine (next_e g g L i 12 _ gs.tk (by omega) (by omega) (by omega)).mono ?_
        rintro _ x1 ⟨v1, v10, v11, rfl, tk1, f1⟩
        have gs1 := gs.one f1 tk1
        have z1_5 : x1.cell? ⟨go, 5, none⟩ = some _ := gs1.blk.cell 5
        have q1_5 := gs1.blk.frozen 5
        have gs1p := gs1.dev (1 + v1)
        go_wp2_with (fail)
        refine (next_e g g L (i + 1) 3 _ gs1p.tk (by omega) (by omega) (by omega)).mono ?_
        rintro _ x2 ⟨v2, v20, v21, rfl, tk2, f2⟩
        have gs2 := gs1p.one f2 tk2
        have z2_8 : x2.cell? ⟨go, 8, none⟩ = some _ := gs2.blk.cell 8
        have q2_8 := gs2.blk.frozen 8
        have gs2p := gs2.role (1 + v2)
        go_wp2
        go_meet
        exact ⟨i + 1 + 1, _, gs2p, (by omega), rfl, rfl, rfl, rfl, rfl, rfl, chk_add hpre (inR_t (n := 1 + v1) (by omega)) (inR_t (n := 1 + v2) (by omega)), rfl, rfl⟩
    · as_aux_lemma =>
        go_wp2_with (fail)
        refine (next_e g g L i 7 _ gs.tk (by omega) (by omega) (by omega)).mono ?_
        rintro _ x1 ⟨v1, v10, v11, rfl, tk1, f1⟩
        have gs1 := gs.one f1 tk1
        have z1_5 : x1.cell? ⟨go, 5, none⟩ = some _ := gs1.blk.cell 5
        have q1_5 := gs1.blk.frozen 5
        have gs1p := gs1.dev v1
        have zd : (x1.setCell ⟨go, 5, none⟩ (.int .i64 v1)).cell? ⟨go, 5, none⟩ = some (.int .i64 v1) := gs1p.blk.cell 5
        by_cases hd0 : v1 = 0
        · subst hd0
          go_wp2_with (fail)
          refine (next_e g g L (i + 1) 8 _ gs1p.tk (by omega) (by omega) (by omega)).mono ?_
          rintro _ x2 ⟨v2, v20, v21, rfl, tk2, f2⟩
          have gs2 := gs1p.one f2 tk2
          have z2_7 : x2.cell? ⟨go, 7, none⟩ = some _ := gs2.blk.cell 7
          have q2_7 := gs2.blk.frozen 7
          have gs2p := gs2.mem (1 + v2)
          go_wp2
          go_meet
          exact ⟨i + 1 + 1, _, gs2p, (by omega), rfl, rfl, rfl, rfl, rfl, rfl, chk_remove1 hpre (inR_t (n := 1 + v2) (by omega)), rfl, rfl⟩
        · have hf : (v1 == 0) = false := beq_f hd0
          go_wp2
          go_meet
          exact ⟨i + 1, _, gs1p, (by omega), rfl, rfl, rfl, rfl, rfl, rfl, chk_remove2 hpre (inR_t (n := v1) (by omega)), rfl, rfl⟩
    · as_aux_lemma =>
        go_wp2
        go_meet
        exact ⟨i, _, gs, (by omega), rfl, rfl, rfl, rfl, rfl, rfl, chk_update hpre, rfl, rfl⟩
    · as_aux_lemma =>
        go_wp2_with (fail)
        refine (next_e g g L i 8 _ gs.tk (by omega) (by omega) (by omega)).mono ?_
        rintro _ x1 ⟨v1, v10, v11, rfl, tk1, f1⟩
        have gs1 := gs.one f1 tk1
        have z1_7 : x1.cell? ⟨go, 7, none⟩ = some _ := gs1.blk.cell 7
        have q1_7 := gs1.blk.frozen 7
        have gs1p := gs1.mem (1 + v1)
        go_wp2_with (fail)
        refine (next_e g g L (i + 1) 3 _ gs1p.tk (by omega) (by omega) (by omega)).mono ?_
        rintro _ x2 ⟨v2, v20, v21, rfl, tk2, f2⟩
        have gs2 := gs1p.one f2 tk2
        have z2_8 : x2.cell? ⟨go, 8, none⟩ = some _ := gs2.blk.cell 8
        have q2_8 := gs2.blk.frozen 8
        have gs2p := gs2.role (1 + v2)
        go_wp2
        go_meet
        exact ⟨i + 1 + 1, _, gs2p, (by omega), rfl, rfl, rfl, rfl, rfl, rfl, chk_promote hpre (inR_t (n := 1 + v1) (by omega)) (inR_t (n := 1 + v2) (by omega)), rfl, rfl⟩
    · as_aux_lemma =>
        go_wp2_with (fail)
        refine (name_any g g L i _ gs.tk (by omega)).mono ?_
        rintro _ x1 ⟨y1, yg1, rfl, tk1, f1⟩
        have gs1 := gs.one f1 tk1
        have z1_10 : x1.cell? ⟨go, 10, none⟩ = some _ := gs1.blk.cell 10
        have q1_10 := gs1.blk.frozen 10
        have z1_11 : x1.cell? ⟨go, 11, none⟩ = some _ := gs1.blk.cell 11
        have q1_11 := gs1.blk.frozen 11
        have z1_12 : x1.cell? ⟨go, 12, none⟩ = some _ := gs1.blk.cell 12
        have q1_12 := gs1.blk.frozen 12
        have gs1p := gs1.epoch y1
        go_wp2_with (fail)
        refine (next_e g g L (i + 3) 5 _ gs1p.tk (by omega) (by omega) (by omega)).mono ?_
        rintro _ x2 ⟨v2, v20, v21, rfl, tk2, f2⟩
        have gs2 := gs1p.one f2 tk2
        have z2_13 : x2.cell? ⟨go, 13, none⟩ = some _ := gs2.blk.cell 13
        have q2_13 := gs2.blk.frozen 13
        have gs2p := gs2.n v2
        as_aux_lemma =>
        go_wp2_with (fail)
        refine (next_e g g L (i + 3 + 1) 9 _ gs2p.tk (by omega) (by omega) (by omega)).mono ?_
        rintro _ x3 ⟨v3, v30, v31, rfl, tk3, f3⟩
        have gs3 := gs2p.one f3 tk3
        obtain ⟨k3, hk3⟩ : ∃ k : Nat, 8 + v3 = (k : Int) := ⟨(8 + v3).toNat, by omega⟩
        have hk3' := Lib.hid hk3
        have hkb3 : k3 ≤ 16 ∧ 8 ≤ k3 := by omega
        clear hk3
        go_wp2_with (fail)
        rw [hk3'.out]
        refine (tbytes_any g g L (i + 3 + 1 + 1) k3 _ gs3.tk (by omega) (by omega)).mono ?_
        rintro _ x4 ⟨y4, A4, c4, rfl, hl4, own4, tk4, f4⟩
        have gs4 := gs3.one f4 tk4
        have lo4 := gs3.tk.lt
        have z4_14 : x4.cell? ⟨go, 14, none⟩ = some _ := gs4.blk.cell 14
        have q4_14 := gs4.blk.frozen 14
        have gs4p := gs4.body y4 A4 k3 c4 hl4 ((RowAt.of_own own4).lower (Nat.le_of_lt lo4))
        as_aux_lemma =>
        go_wp2_with (fail)
        refine (next_e g g L (i + 3 + 1 + 1 + k3) 3 _ gs4p.tk (by omega) (by omega) (by omega)).mono ?_
        rintro _ x5 ⟨v5, v50, v51, rfl, tk5, f5⟩
        have gs5 := gs4p.one f5 tk5
        obtain ⟨M, rfl⟩ := Int.eq_ofNat_of_zero_le v50
        go_wp2_with (fail)
        go_loopw [8] (fun v wr => ∃ (m j : Nat) (A : Option Addr) (c : Nat) (rf : List Nat), v = .int .i64 (m : Int) ∧ rf.length + m ≤ M ∧ j + m ≤ i + 3 + 1 + 1 + k3 + 1 + M ∧ Gs w1 wr g g go L j { OpL.base bb ss 6 a pA pC past qA qC path with epoch := y1, n := v2, bodyA := A4, bodyC := c4, body := y4, refsA := A, refsC := c, refs := rf } ∧ Own wr g 25 1 A rf.length c (rf.map Uv) ∧ Hid (∀ x ∈ rf, fOk x = true)) (fun v _ => (intOf v).toNat)
        case atStart => exact ⟨M, i + 3 + 1 + 1 + k3 + 1, none, 0, [], rfl, by simp, by omega, gs5, Own.nil _ _ _ _, (fun x hx => by cases hx)⟩
        case round =>
          obtain ⟨m, j, A, c, rf, rfl, hm, hjm, gsr, own, hrf⟩ := hrel
          as_aux_lemma =>
          by_cases hm0 : m = 0
          · subst hm0
            go_wp2_with (fail)
            go_meet
            exact ⟨j, _, gsr, by omega, rfl, rfl, rfl, rfl, rfl, rfl, chk_message (y := y4) (rf := rf) hpre yg1.named (inR_t (n := v2) (by omega)) (by rw [hl4]; omega) (by omega) hrf.out, rfl, rfl⟩
          · obtain ⟨m, rfl⟩ : ∃ j, m = j + 1 := ⟨m - 1, by omega⟩
            go_upto_block 6 with (fail)
            go_cut [] (fun wc => ∃ (A : Option Addr) (c : Nat) (rf' : List Nat), Gs w1 wc g g go L (j + 1) { OpL.base bb ss 6 a pA pC past qA qC path with epoch := y1, n := v2, bodyA := A4, bodyC := c4, body := y4, refsA := A, refsC := c, refs := rf' } ∧ Own wc g 25 1 A rf'.length c (rf'.map Uv) ∧ rf'.length = rf.length + 1 ∧ Hid (∀ x ∈ rf', fOk x = true))
            case first =>
              as_aux_lemma =>
              go_upto_region 36 with (fail)
              have gsd := gsr.drew
              have ownd : Own wr.drew g 25 1 A rf.length c (rf.map Uv) := own
              have hbt := gsr.tk
              obtain ⟨_, _, hbt, _⟩ := hbt
              have nrow : ∀ j, rowOf A = some j → ¬ One g j := fun j hj e => own.ne hbt (by decide) (by rw [hj]; exact congrArg some e)
              have s0 : wr.drew.cell? ⟨go, 15, none⟩ = some (.slice A rf.length c) := gsr.blk.cell 15
              have hgt := gsr.tk.lt
              have h32 : (rf.length + 1) * 8 ≤ 140737488355328 := by omega
              have h33 : rf.length + 1 ≤ 9223372036854775807 := by omega
              go_region_law (first
                | (go_simp; go_at_call 13; (with_reducible refine (next_e g g L j 1000 _ gsd.tk (by omega) (by omega) (by omega)).mono ?_); rintro _ u1 ⟨r1, r10, r11, rfl, tkr, fr⟩; have hbase0 := tkr.lt; have e1 : IntKind.u64.wrap r1 = r1 := IntWalk.u64_in _ (by omega); have gsn := gsd.one fr tkr; have ownn := ownd.fr fr nrow; have s1 : u1.cell? ⟨go, 15, none⟩ = some (.slice A rf.length c) := gsn.blk.cell 15; have s2 := cell_alloc s1 (.cells #[.int .u64 r1] 25); clear tkr; have hrdN := Rd.blk (n := 1) (size := 1) (Blk.new u1 25 #[.int .u64 r1]) rfl; have hone : ∀ u ∈ [Value.int .u64 r1], u.oneCell' = true := (by simp [Value.oneCell']); have hbase : g ≤ (u1.alloc (.cells #[.int .u64 r1] 25)).heap.size := (by rw [World.size_alloc]; exact Nat.le_of_lt (Nat.lt_succ_of_lt hbase0)))
                | (refine step_app (base := g) (.tmp 138) (.tmp 142) 29 (by rfl) (by rfl) (by rfl) (by rfl) slU64 (ownn.alloc (.cells #[.int .u64 r1] 25)) hrdN hone h32 h33 hbase ?_; intro A8 c8 w8 own8 fr8 hat8; have hb8 := (gsn.alloc (.cells #[.int .u64 r1] 25)).blk.fr fr8 (fun e => ownn.ne gsn.blk (by decide) e); have s8 : w8.cell? ⟨go, 15, none⟩ = some _ := hb8.cell 15; have t8 := hb8.frozen 15))
              all_goals
                clear e1
                go_wp2_with (fail)
                go_meet
                have own8' : Own w8 g 25 1 A8 (rf.length + 1) c8 ((rf ++ [r1.toNat]).map Uv) := by
                  rw [List.map_append, List.map_cons, List.map_nil]
                  have e : Uv r1.toNat = .int .u64 r1 := by unfold Uv; rw [Int.toNat_of_nonneg (by omega)]
                  rw [e]
                  exact own8
                have hlen : (rf ++ [r1.toNat]).length = rf.length + 1 := by simp
                have gs8 := (gsn.alloc (.cells #[.int .u64 r1] 25)).refs_app (ownn.alloc _) fr8 (rf ++ [r1.toNat]) A8 (rf.length + 1) c8 hlen own8'
                refine ⟨A8, c8, _, gs8, ?_, hlen, ?_⟩
                · rw [hlen]
                  exact own8'.setOne (own8.ne hb8 (by decide))
                · intro y hy
                  rcases List.mem_append.1 hy with hy | hy
                  · exact hrf.out y hy
                  · rw [List.mem_singleton.1 hy]
                    unfold fOk FP
                    simp; omega
            case rest =>
              obtain ⟨A', c', rf', gs', own', hpl, hpg⟩ := hcut
              go_wp2_with (fail)
              go_roundw
              case rel => exact ⟨m, j + 1, A', c', rf', by go_num, by omega, by omega, gs', own', hpg⟩
              case measure => first | (simp [intOf]; done) | (simp [intOf]; omega)
    · as_aux_lemma =>
        go_wp2_with (fail)
        refine (name_any g g L i _ gs.tk (by omega)).mono ?_
        rintro _ x1 ⟨y1, yg1, rfl, tk1, f1⟩
        have gs1 := gs.one f1 tk1
        have z1_16 : x1.cell? ⟨go, 16, none⟩ = some _ := gs1.blk.cell 16
        have q1_16 := gs1.blk.frozen 16
        have z1_17 : x1.cell? ⟨go, 17, none⟩ = some _ := gs1.blk.cell 17
        have q1_17 := gs1.blk.frozen 17
        have z1_18 : x1.cell? ⟨go, 18, none⟩ = some _ := gs1.blk.cell 18
        have q1_18 := gs1.blk.frozen 18
        have gs1p := gs1.of y1
        go_wp2_with (fail)
        refine (next_e g g L (i + 3) 4 _ gs1p.tk (by omega) (by omega) (by omega)).mono ?_
        rintro _ x2 ⟨v2, v20, v21, rfl, tk2, f2⟩
        have gs2 := gs1p.one f2 tk2
        obtain ⟨k2, hk2⟩ : ∃ k : Nat, 1 + v2 = (k : Int) := ⟨(1 + v2).toNat, by omega⟩
        have hk2' := Lib.hid hk2
        have hkb2 : k2 ≤ 4 ∧ 1 ≤ k2 := by omega
        clear hk2
        go_wp2_with (fail)
        rw [hk2'.out]
        refine (tbytes_any g g L (i + 3 + 1) k2 _ gs2.tk (by omega) (by omega)).mono ?_
        rintro _ x3 ⟨y3, A3, c3, rfl, hl3, own3, tk3, f3⟩
        have gs3 := gs2.one f3 tk3
        have lo3 := gs2.tk.lt
        have z3_14 : x3.cell? ⟨go, 14, none⟩ = some _ := gs3.blk.cell 14
        have q3_14 := gs3.blk.frozen 14
        have gs3p := gs3.body y3 A3 k2 c3 hl3 ((RowAt.of_own own3).lower (Nat.le_of_lt lo3))
        go_wp2
        go_meet
        exact ⟨i + 3 + 1 + k2, _, gs3p, (by omega), rfl, rfl, rfl, rfl, rfl, rfl, chk_react hpre yg1.named (by rw [hl3]; omega), rfl, rfl⟩
    · as_aux_lemma =>
        go_wp2_with (fail)
        refine (name_any g g L i _ gs.tk (by omega)).mono ?_
        rintro _ x1 ⟨y1, yg1, rfl, tk1, f1⟩
        have gs1 := gs.one f1 tk1
        have z1_16 : x1.cell? ⟨go, 16, none⟩ = some _ := gs1.blk.cell 16
        have q1_16 := gs1.blk.frozen 16
        have z1_17 : x1.cell? ⟨go, 17, none⟩ = some _ := gs1.blk.cell 17
        have q1_17 := gs1.blk.frozen 17
        have z1_18 : x1.cell? ⟨go, 18, none⟩ = some _ := gs1.blk.cell 18
        have q1_18 := gs1.blk.frozen 18
        have gs1p := gs1.of y1
        go_wp2
        go_meet
        exact ⟨i + 3, _, gs1p, (by omega), rfl, rfl, rfl, rfl, rfl, rfl, chk_erase hpre yg1.named, rfl, rfl⟩
    · as_aux_lemma =>
        go_wp2_with (fail)
        go_loopw [9] (fun v wr => ∃ (n j : Nat) (A : Option Addr) (c : Nat) (gs' : List Int), v = .int .i64 (n : Int) ∧ 1 ≤ n ∧ n ≤ 7 ∧ gs'.length + 1 ≤ n ∧ j + 1 ≤ i + n ∧ Gs w1 wr g g go L j { OpL.base bb ss 9 a pA pC past qA qC path with guardsA := A, guardsC := c, guards := gs' } ∧ Own wr g 3 1 A gs'.length c (gs'.map Iv) ∧ Hid (gs'.Pairwise (· < ·) ∧ (∀ x ∈ gs', 1 ≤ x ∧ x < n) ∧ (n = 7 → gs' ≠ []))) (fun v _ => 7 - (intOf v).toNat)
        case atStart => exact ⟨1, i, none, 0, [], rfl, by omega, by omega, by simp, by omega, gs, Own.nil _ _ _ _, List.Pairwise.nil, (fun x hx => by cases hx), by omega⟩
        case round =>
          obtain ⟨n, j, A, c, gs', rfl, hn1, hn7, hgl, hjn, gsr, own, hgs⟩ := hrel
          by_cases hn0 : n = 7
          · subst hn0
            have hg0 : gs'.length ≠ 0 := fun e => hgs.out.2.2 rfl (List.eq_nil_of_length_eq_zero e)
            have s19 : wr.cell? ⟨go, 19, none⟩ = some (.slice A gs'.length c) := gsr.blk.cell 19
            obtain ⟨nl, hnl⟩ := hid_ex gs'.length
            have hnl1 : 1 ≤ nl ∧ nl ≤ 6 := by rw [← hnl.out]; omega
            rw [hnl.out] at s19
            go_wp2_with (fail)
            refine (next_e g g L j (nl : Int) _ gsr.tk (by omega) (by omega) (by omega)).mono ?_
            rintro _ x1 ⟨v1, v10, v11, rfl, tk1, f1⟩
            have gs1 := gsr.one f1 tk1
            have z1_20 : x1.cell? ⟨go, 20, none⟩ = some _ := gs1.blk.cell 20
            have q1_20 := gs1.blk.frozen 20
            have gs1p := gs1.need (1 + v1)
            go_wp2_with (fail)
            refine (next_e g g L (j + 1) 50 _ gs1p.tk (by omega) (by omega) (by omega)).mono ?_
            rintro _ x2 ⟨v2, v20, v21, rfl, tk2, f2⟩
            have gs2 := gs1p.one f2 tk2
            have z2_21 : x2.cell? ⟨go, 21, none⟩ = some _ := gs2.blk.cell 21
            have q2_21 := gs2.blk.frozen 21
            have gs2p := gs2.wait v2
            go_wp2_with (fail)
            refine (next_e g g L (j + 1 + 1) 1000 _ gs2p.tk (by omega) (by omega) (by omega)).mono ?_
            rintro _ x3 ⟨v3, v30, v31, rfl, tk3, f3⟩
            have gs3 := gs2p.one f3 tk3
            have z3_23 : x3.cell? ⟨go, 23, none⟩ = some _ := gs3.blk.cell 23
            have q3_23 := gs3.blk.frozen 23
            have gs3p := gs3.pub (1 + v3).toNat
            rw [Int.toNat_of_nonneg (by omega)] at gs3p
            have z22 : (x3.setCell ⟨go, 23, none⟩ (.int .u64 (1 + v3))).cell? ⟨go, 19, none⟩ = some (.slice A nl c) := by rw [← hnl.out]; exact gs3p.blk.cell 19
            go_wp2_with (fail)
            refine (boxes_any g g L (j + 1 + 1 + 1) nl _ gs3p.tk (by omega) (by omega)).mono ?_
            rintro _ x4 ⟨bx4, A4, c4, rfl, hl4, bg4, own4, tk4, f4⟩
            have gs4 := gs3p.one f4 tk4
            have lo4 := gs3p.tk.lt
            have z4_22 : x4.cell? ⟨go, 22, none⟩ = some _ := gs4.blk.cell 22
            have q4_22 := gs4.blk.frozen 22
            have gs4p := gs4.boxes bx4 A4 nl c4 hl4 ((RowAt.of_own own4).lower (Nat.le_of_lt lo4))
            go_wp2
            go_meet
            exact ⟨j + 1 + 1 + 1 + 4 * nl, _, gs4p, by omega, rfl, rfl, rfl, rfl, rfl, rfl, chk_guard hpre ⟨by rw [hnl.out]; omega, fun x hx => inR_t (n := x) (by have := hgs.out.2.1 x hx; omega)⟩ (chain_lt hgs.out.1) (inR_t (n := 1 + v1) (by rw [hnl.out]; omega)) (inR_t (n := v2) (by omega)) (pub_t (n := (1 + v3).toNat) (by unfold FP; omega)) ⟨by rw [hl4, hnl.out], fun x hx => (bg4 x hx).may⟩, rfl, rfl⟩
          · have hlt : n < 7 := by omega
            have hlt' : ((n : Int) == 7) = false := beq_f (by omega)
            go_wp2_with (fail)
            refine (next_e g g L j 2 _ gsr.tk (by omega) (by omega) (by omega)).mono ?_
            rintro _ u1 ⟨r1, r10, r11, rfl, tkr, fr⟩
            have hbt := gsr.tk
            obtain ⟨_, _, hbt, _⟩ := hbt
            have gsn := gsr.one fr tkr
            have ownn := own.fr fr (fun j hj e => own.ne hbt (by decide) (by rw [hj]; exact congrArg some e))
            have s19 : u1.cell? ⟨go, 19, none⟩ = some (.slice A gs'.length c) := gsn.blk.cell 19
            have hgt := gsn.tk.lt
            clear gsr own tkr fr hbt
            by_cases hadd : r1 = 0 ∨ (n = 6 ∧ gs'.length = 0)
            · have hrdN := Rd.blk (n := 1) (size := 1) (Blk.new u1 3 #[.int .i64 (n : Int)]) rfl
              have hway : (r1 == 0) = true ∨ ((r1 == 0) = false ∧ ((n : Int) == 6) = true ∧ ((gs'.length : Int) == 0) = true) := by
                simp only [beq_iff_eq, beq_eq_false_iff_ne, ne_eq]; omega
              clear hadd
              rcases hway with t1 | ⟨t1, t2, t3⟩
              all_goals
                go_wp2_with (first | (at_builtin; go_loud (refine wpList_app (base := g) (.tmp 176) (.tmp 178) 22 rfl rfl rfl rfl slInt (ownn.alloc (.cells #[.int .i64 (n : Int)] 3)) hrdN (by simp [Value.oneCell']) (by omega) (by omega) (by rw [World.size_alloc]; omega) ?_); intro A8 c8 w8 own8 fr8 hat8; have hb8 := (gsn.alloc (.cells #[.int .i64 (n : Int)] 3)).blk.fr fr8 (fun e => ownn.ne gsn.blk (by decide) e); have s8 : w8.cell? ⟨go, 19, none⟩ = some _ := hb8.cell 19; have t8 := hb8.frozen 19))
                go_roundw
                case rel =>
                  have own8' : Own w8 g 3 1 A8 (gs'.length + 1) c8 ((gs' ++ [(n : Int)]).map Iv) := by
                    rw [List.map_append]
                    exact own8
                  have hlen : (gs' ++ [(n : Int)]).length = gs'.length + 1 := by simp
                  have gs8 := (gsn.alloc (.cells #[.int .i64 (n : Int)] 3)).guards_app (ownn.alloc _) fr8 (gs' ++ [(n : Int)]) A8 (gs'.length + 1) c8 hlen own8'
                  refine ⟨n + 1, j + 1, A8, c8, gs' ++ [(n : Int)], by go_num, by omega, by omega, by omega, by omega, gs8, ?_, ?_, ?_, by simp⟩
                  · rw [hlen]
                    exact own8'.setOne (own8.ne hb8 (by decide))
                  · rw [List.pairwise_append]
                    exact ⟨hgs.out.1, by simp, fun x hx y hy => by rw [List.mem_singleton.1 hy]; exact (hgs.out.2.1 x hx).2⟩
                  · intro x hx
                    rcases List.mem_append.1 hx with hx | hx
                    · have := hgs.out.2.1 x hx; omega
                    · rw [List.mem_singleton.1 hx]; omega
                case measure => first | (simp [intOf]; done) | (simp [intOf]; omega)
            · have hway : (r1 == 0) = false ∧ (((n : Int) == 6) = false ∨ (((n : Int) == 6) = true ∧ ((gs'.length : Int) == 0) = false)) := by
                simp only [beq_iff_eq, beq_eq_false_iff_ne, ne_eq]; omega
              have hfin : Hid (n + 1 = 7 → gs' ≠ []) := by
                intro e h
                subst h
                exact hadd (.inr ⟨by omega, rfl⟩)
              clear hadd
              obtain ⟨t1, hway⟩ := hway
              rcases hway with t2 | ⟨t2, t3⟩
              all_goals
                go_wp2_with (fail)
                go_roundw
                case rel => exact ⟨n + 1, j + 1, A, c, gs', by go_num, by omega, by omega, by omega, by omega, gsn, ownn, hgs.out.1, (fun x hx => by have := hgs.out.2.1 x hx; omega), hfin.out⟩
                case measure => first | (simp [intOf]; done) | (simp [intOf]; omega)
    · as_aux_lemma =>
        go_wp2_with (fail)
        refine (name_any g g L i _ gs.tk (by omega)).mono ?_
        rintro _ x1 ⟨y1, yg1, rfl, tk1, f1⟩
        have gs1 := gs.one f1 tk1
        have z1_16 : x1.cell? ⟨go, 16, none⟩ = some _ := gs1.blk.cell 16
        have q1_16 := gs1.blk.frozen 16
        have z1_17 : x1.cell? ⟨go, 17, none⟩ = some _ := gs1.blk.cell 17
        have q1_17 := gs1.blk.frozen 17
        have z1_18 : x1.cell? ⟨go, 18, none⟩ = some _ := gs1.blk.cell 18
        have q1_18 := gs1.blk.frozen 18
        have gs1p := gs1.of y1
        go_wp2_with (fail)
        refine (next_e g g L (i + 3) 6 _ gs1p.tk (by omega) (by omega) (by omega)).mono ?_
        rintro _ x2 ⟨v2, v20, v21, rfl, tk2, f2⟩
        have gs2 := gs1p.one f2 tk2
        obtain ⟨k2, hk2⟩ : ∃ k : Nat, 1 + v2 = (k : Int) := ⟨(1 + v2).toNat, by omega⟩
        have hk2' := Lib.hid hk2
        have hkb2 : k2 ≤ 6 ∧ 1 ≤ k2 := by omega
        clear hk2
        go_wp2_with (fail)
        rw [hk2'.out]
        refine (boxes_any g g L (i + 3 + 1) k2 _ gs2.tk (by omega) (by omega)).mono ?_
        rintro _ x3 ⟨bx3, A3, c3, rfl, hl3, bg3, own3, tk3, f3⟩
        have gs3 := gs2.one f3 tk3
        have lo3 := gs2.tk.lt
        have z3_22 : x3.cell? ⟨go, 22, none⟩ = some _ := gs3.blk.cell 22
        have q3_22 := gs3.blk.frozen 22
        have gs3p := gs3.boxes bx3 A3 k2 c3 hl3 ((RowAt.of_own own3).lower (Nat.le_of_lt lo3))
        go_wp2
        go_meet
        exact ⟨i + 3 + 1 + 4 * k2, _, gs3p, (by omega), rfl, rfl, rfl, rfl, rfl, rfl, chk_refresh hpre yg1.named ⟨by rw [hl3]; omega, fun x hx => (bg3 x hx).may⟩, rfl, rfl⟩
    · as_aux_lemma =>
        go_wp2_with (fail)
        refine (name_any g g L i _ gs.tk (by omega)).mono ?_
        rintro _ x1 ⟨y1, yg1, rfl, tk1, f1⟩
        have gs1 := gs.one f1 tk1
        have z1_16 : x1.cell? ⟨go, 16, none⟩ = some _ := gs1.blk.cell 16
        have q1_16 := gs1.blk.frozen 16
        have z1_17 : x1.cell? ⟨go, 17, none⟩ = some _ := gs1.blk.cell 17
        have q1_17 := gs1.blk.frozen 17
        have z1_18 : x1.cell? ⟨go, 18, none⟩ = some _ := gs1.blk.cell 18
        have q1_18 := gs1.blk.frozen 18
        have gs1p := gs1.of y1
        go_wp2_with (fail)
        refine (next_e g g L (i + 3) 12 _ gs1p.tk (by omega) (by omega) (by omega)).mono ?_
        rintro _ x2 ⟨v2, v20, v21, rfl, tk2, f2⟩
        have gs2 := gs1p.one f2 tk2
        have z2_5 : x2.cell? ⟨go, 5, none⟩ = some _ := gs2.blk.cell 5
        have q2_5 := gs2.blk.frozen 5
        have gs2p := gs2.dev (1 + v2)
        have hk0' : Hid ((1 : Int) = ((1 : Nat) : Int)) := rfl
        go_wp2_with (fail)
        refine (boxes_any g g L (i + 3 + 1) 1 _ gs2p.tk (by omega) (by omega)).mono ?_
        rintro _ x3 ⟨bx3, A3, c3, rfl, hl3, bg3, own3, tk3, f3⟩
        have gs3 := gs2p.one f3 tk3
        have lo3 := gs2p.tk.lt
        have z3_22 : x3.cell? ⟨go, 22, none⟩ = some _ := gs3.blk.cell 22
        have q3_22 := gs3.blk.frozen 22
        have gs3p := gs3.boxes bx3 A3 1 c3 hl3 ((RowAt.of_own own3).lower (Nat.le_of_lt lo3))
        go_wp2
        go_meet
        exact ⟨i + 3 + 1 + 4 * 1, _, gs3p, (by omega), rfl, rfl, rfl, rfl, rfl, rfl, chk_vouch hpre yg1.named (inR_t (n := 1 + v2) (by omega)) ⟨hl3, fun x hx => (bg3 x hx).may⟩, rfl, rfl⟩
    · as_aux_lemma =>
        go_wp2_with (fail)
        refine (name_any g g L i _ gs.tk (by omega)).mono ?_
        rintro _ x1 ⟨y1, yg1, rfl, tk1, f1⟩
        have gs1 := gs.one f1 tk1
        have z1_16 : x1.cell? ⟨go, 16, none⟩ = some _ := gs1.blk.cell 16
        have q1_16 := gs1.blk.frozen 16
        have z1_17 : x1.cell? ⟨go, 17, none⟩ = some _ := gs1.blk.cell 17
        have q1_17 := gs1.blk.frozen 17
        have z1_18 : x1.cell? ⟨go, 18, none⟩ = some _ := gs1.blk.cell 18
        have q1_18 := gs1.blk.frozen 18
        have gs1p := gs1.of y1
        go_wp2
        go_meet
        exact ⟨i + 3, _, gs1p, (by omega), rfl, rfl, rfl, rfl, rfl, rfl, chk_object hpre yg1.named, rfl, rfl⟩
    · as_aux_lemma =>
        go_wp2_with (fail)
        refine (name_any g g L i _ gs.tk (by omega)).mono ?_
        rintro _ x1 ⟨y1, yg1, rfl, tk1, f1⟩
        have gs1 := gs.one f1 tk1
        have z1_16 : x1.cell? ⟨go, 16, none⟩ = some _ := gs1.blk.cell 16
        have q1_16 := gs1.blk.frozen 16
        have z1_17 : x1.cell? ⟨go, 17, none⟩ = some _ := gs1.blk.cell 17
        have q1_17 := gs1.blk.frozen 17
        have z1_18 : x1.cell? ⟨go, 18, none⟩ = some _ := gs1.blk.cell 18
        have q1_18 := gs1.blk.frozen 18
        have gs1p := gs1.of y1
        go_wp2_with (fail)
        refine (next_e g g L (i + 3) 12 _ gs1p.tk (by omega) (by omega) (by omega)).mono ?_
        rintro _ x2 ⟨v2, v20, v21, rfl, tk2, f2⟩
        have gs2 := gs1p.one f2 tk2
        have z2_5 : x2.cell? ⟨go, 5, none⟩ = some _ := gs2.blk.cell 5
        have q2_5 := gs2.blk.frozen 5
        have gs2p := gs2.dev (1 + v2)
        go_wp2_with (fail)
        refine (next_e g g L (i + 3 + 1) 12 _ gs2p.tk (by omega) (by omega) (by omega)).mono ?_
        rintro _ x3 ⟨v3, v30, v31, rfl, tk3, f3⟩
        have gs3 := gs2p.one f3 tk3
        have z3_6 : x3.cell? ⟨go, 6, none⟩ = some _ := gs3.blk.cell 6
        have q3_6 := gs3.blk.frozen 6
        have gs3p := gs3.old (1 + v3)
        go_wp2
        go_meet
        exact ⟨i + 3 + 1 + 1, _, gs3p, (by omega), rfl, rfl, rfl, rfl, rfl, rfl, chk_replace hpre yg1.named (inR_t (n := 1 + v2) (by omega)) (inR_t (n := 1 + v3) (by omega)), rfl, rfl⟩
  case rest =>
  rename_i K hK
  refine hK _ _ ?_
  clear hK K gs hpre hi200 hpok hi40 hn hc hc' hok hL hb6 hs20 k0 k1 a0 a1 hkk kb bb6 ss20 hi
  revert u5 u6 u7 u8 u9 u11 u12 u13 u14 u15 u16 u17 u18 u19 u20 u21 u22 u23 u24 u25 u26 u27 u28 u29 u30 u31 u32 u33 u34 u35 u36 u37 u38 u39 u40 u41 u42 u43 u44 u45 u46 u47 u48 u49 u50 u51 u52 u53 u54 u55 u56 u57 u58 u59 u60 u61 u62 u63 u64 u65 u66 u67 u68 u69 u70 u71 u72 u73 u74 u75 u76 u77 u78 u80 u81 u82 u83 u84 u85 u86 u87 u88 u89 u90 u91 u92 u93 u94 u95 u96 u97 u98 u99 u100 u101 u102 u103 u104 u105 u106 u107 u108 u109 u110 u111 u112 u113 u114 u115 u116 u117 u118 u119 u120 u121 u122 u123 u124 u125 u126 u127 u128 u129 u130 u131 u132 u133 u134 u135 u136 u137 u138 u139 u140 u141 u142 u143 u144 u145 u146 u147 u148 u149 u150 u151 u152 u153 u154 u155 u156 u157 u158 u159 u160 u161 u162 u163 u164 u165 u166 u167 u168 u169 u170 u171 u172 u173 u174 u175 u176 u177 u178 u179 u180 u181 u182 u183 u184 u185 u186 u187 u188 u189 u190 u191 u192 u193 u194 u195 u196 u197 u198 u199 u200 u201 u202 u203 u204 u205 u206 u207 u208 u209 u210 u211 u212 u213 u214 u215 u216 u217 u218 u219 u220 u221 u222 u223 u224 u225 u226 u227 u228 u229 u230 u231 u232 u233 u234 u235 u236 u237 u238 u239 u240 u241 u242 u243 u244 u245 u246 u247 u248 u249 u250 u251 u252 u253 u254 u255 u256 u257 u258 u259 u260 u261 u262 u263 u264 u265 u266 u267 u268 u269 u270 u271
  revert A n c hcut hbb hss hg hb hs hres fr1 hsz
  revert w w1 wc g go L bb ss b s kk
  exact hP.down)
end Oq
end Go.Proofs.YtahcddlgghipjaaGreatDoor
