/-
  Layer 4, PackNumbers: the bytes of a number are the document's, told or refused, however many they are.
  Condition: none.
-/
import Derived.Test.YtkppihpdhildjaaRef04W
import Derived.Test.YtkppihpdhildjaaRef04R3
import Derived.Test.YtkppihpdhildjaaRegion
namespace Go.Proofs.Ytkppihpdhildjaa
open Go.RowKit
attribute [local go_sem ↓] Go.wp_at_zero Go.wp_at_succ

/-- A new In over these bytes. -/
def OpenPost (bs : List UInt8) (w : World) (r : Ending) (w' : World) : Prop :=
  ∃ g, r = .returned (.pointer (some ⟨g, 0, none⟩)) ∧ InAt w' g g bs 0 0 ∧ Fr Non w w' ∧ w.heap.size ≤ g
theorem open_any (B n c : Nat) (A : Option Addr) (bs : List UInt8) (w : World) (hn : Hid (bs.length = n)) (hr : Rd w B 1 A n (bs.map Bv)) (hl : n ≤ 1099511627776) :
    Calls Try.prog 19 #[.slice A n c] w (OpenPost bs w) := by
  have hnil := Own.nil w w.heap.size 5 1
  go_enter Try.func19, Try.ntmps19
  go_wp2_with (first | (at_builtin; go_loud (refine wpList_app (.const (.slice none 0 0)) (.tmp 3) 24 rfl rfl rfl rfl slB hnil hr (Bv_one _) (by omega) (by omega) (Nat.le_refl _) ?_); intro A2 c2 w2 hown2 hf2 hat2))
  go_ret
  rw [Nat.zero_add, List.nil_append] at hown2
  have hs := hf2.size
  have hcap := hown2.cap
  have hb := Blk.new w2 75 #[.slice A2 (0 + n) c2, .int .i64 0, .int .i64 0]
  refine ⟨w2.heap.size, rfl, ⟨A2, c2, ?_, ?_, Nat.le_refl _, by omega, by rw [hn.out]; omega, by rw [hn.out]; exact hcap.1⟩, (hf2.mono (fun k _ hk => by cases hk)).alloc _, hs⟩
  · rw [Nat.zero_add] at hb
    rw [hn.out]
    first | exact hb | simpa using hb
  · rw [hn.out]
    exact hown2.rd.alloc _

set_option maxRecDepth 100000 in
set_option maxHeartbeats 4000000 in
theorem numbers_any (A : Option Addr) (c : Nat) (b : List UInt8) (last : UInt8) (w : World) (hr : Rd w w.heap.size 1 A b.length (b.map Bv)) :
    Calls Try.prog 6 #[.slice A b.length c, .int .u8 (last.toNat : Int)] w (LivesPost w) := by
  generalize hlen0 : b.length = n at *
  have hlen := Lib.hid hlen0
  clear hlen0
  have hlast := last.toNat_lt
  go_enter Try.func6, Try.ntmps6
  go_wp2
  go_loopw [5, 6] (fun s v wr => ∃ (i : Nat) (L : List UInt8) (A' : Option Addr) (c' : Nat), v = .int .i64 (i : Int) ∧ s = .slice A' L.length c' ∧ L.length ≤ 14 ∧ L.length ≤ i ∧ i ≤ L.length ∧ i ≤ n ∧ Own wr w.heap.size 5 1 A' L.length c' (L.map Bv) ∧ Fr Non w wr) (fun _ v _ => n - (intOf v).toNat)
  case atStart => exact ⟨0, [], none, 0, rfl, rfl, by simp, by simp, by simp, by omega, Own.nil _ _ _ _, Fr.refl _ _⟩
  case round =>
    obtain ⟨i, L, A', c', rfl, rfl, hL14, hLi1, hLi2, hin, hown, hf⟩ := hrel
    have hBs := hf.size
    have hcap := hown.cap
    by_cases hlt : i < n ∧ i < 14
    · obtain ⟨h1, h2⟩ := hlt
      obtain ⟨bb, off, u, rfl, hb, hxu, hcu⟩ := (hr.fr hf (fun _ _ e => e)).at h1
      obtain ⟨x, hx0, rfl⟩ := byte_of hxu
      clear hxu hx0
      have hx := x.toNat_lt
      go_wp2_with (first | (at_builtin; go_loud (refine wpList_app (.tmp 22) (.tmp 29) 24 rfl rfl rfl rfl slB (hown.alloc _) (Rd.one _ _ _) (by simp [Value.oneCell']) (by omega) (by omega) (by simp; omega) ?_); intro A1 c1 w1 hown1 hf1 hat1))
      go_roundw
      case rel =>
        refine ⟨i + 1, L ++ [UInt8.ofNat (x.toNat % 128 + 128)], A1, c1, by go_num, by simp, by simp; omega, by simp; omega, by simp; omega, by omega, ?_, (hf.alloc _).trans hf1 (hown.notNon (Nat.le_refl _))⟩
        have ht := Pk.tn (x.toNat % 128 + 128) (by omega)
        have e : (L ++ [UInt8.ofNat (x.toNat % 128 + 128)]).map Bv = L.map Bv ++ [.int .u8 ((x.toNat : Int) % 128 + 128)] := by
          simp [Bv]; omega
        rw [e, List.length_append]
        exact hown1
      case measure => simp [intOf]; omega
    · have hwhy : i < n ∨ ¬ i < n := Classical.em _
      rcases hwhy with h1 | h1
      all_goals
        go_wp2_with (fail)
        refine (few_any A' c' L 14 _ hown.rd hcap.1 hcap.2 (by omega)).mono ?_
        rintro _ w1 ⟨A1, c1, rfl, hown1, hf1⟩
        have hs1 := hf1.size
        have htk := Lib.hid (List.take_of_length_le hL14)
        rw [htk.out] at hown1
        rw [htk.out]
        have hcap1 := hown1.cap
        have hownL := hown.fr hf1 (fun _ _ e => e)
        have hwf1 := hf.trans hf1 (fun _ _ e => e)
        go_wp2_with (first | (at_builtin; go_loud (refine wpList_app (.tmp 34) (.tmp 37) 24 rfl rfl rfl rfl slB (hownL.alloc _) (Rd.one _ _ _) (by simp [Value.oneCell']) (by omega) (by omega) (by simp; omega) ?_); intro A2 c2 w2 hown2 hf2 hat2))
        have hs2 := hf2.size
        simp at hs2
        have hcap2 := hown2.cap
        have hown1' := (hown1.alloc (.cells #[.int .u8 ((last.toNat : Int) % 128)] 5)).fr hf2 (fun k hk e => by
          have h1 := (hown1.row k hk).1
          have h2 := (hown.row k e).2
          omega)
        have hwf2 := (hwf1.alloc (.cells #[.int .u8 ((last.toNat : Int) % 128)] 5)).trans hf2 (hownL.notNon (Nat.le_refl _))
        have r1 : Rd w2 w2.heap.size 1 A1 L.length (L.map Bv) := hown1'.rd
        have r2 : Rd w2 w2.heap.size 1 A2 (L.length + 1) ((L ++ [UInt8.ofNat (last.toNat % 128)]).map Bv) := by
          have ht := Pk.tn (last.toNat % 128) (by omega)
          have e : (L ++ [UInt8.ofNat (last.toNat % 128)]).map Bv = L.map Bv ++ [.int .u8 ((last.toNat : Int) % 128)] := by
            simp [Bv]; omega
          rw [e]
          exact hown2.rd
        go_loopw [9] (fun v wx => ∃ k : Nat, v = .int .i64 (k : Int) ∧ k ≤ 2 ∧ Blk wx w2.heap.size 24 #[.slice A1 L.length c1, .slice A2 (L.length + 1) c2] ∧
          Rd wx w2.heap.size 1 A1 L.length (L.map Bv) ∧ Rd wx w2.heap.size 1 A2 (L.length + 1) ((L ++ [UInt8.ofNat (last.toNat % 128)]).map Bv) ∧ Fr Non w wx) (fun v _ => 2 - (intOf v).toNat)
        case atStart => exact ⟨0, rfl, by omega, Blk.new _ _ _, r1.alloc _, r2.alloc _, hwf2.alloc _⟩
        case round =>
          obtain ⟨k, rfl, hk2, hball, q1, q2, hfx⟩ := hrel
          have hsx := hball.lt
          by_cases hlt2 : k < 2
          · obtain ⟨Ax, nx, cx, Lx, hcell, hrx, hnx, hn16, hnc⟩ : ∃ (Ax : Option Addr) (nx cx : Nat) (Lx : List UInt8), wr.cell? ⟨w2.heap.size, k, none⟩ = some (.slice Ax nx cx) ∧ Rd wr w2.heap.size 1 Ax nx (Lx.map Bv) ∧ Hid (Lx.length = nx) ∧ nx ≤ 16 ∧ nx ≤ cx := by
              rw [hball.cell k]
              have : k = 0 ∨ k = 1 := by omega
              rcases this with rfl | rfl
              · exact ⟨_, _, _, L, rfl, q1, rfl, by omega, hcap1.1⟩
              · exact ⟨_, _, _, _, rfl, q2, by show _ = _; simp, by omega, hcap2.1⟩
            have hlt2' : (k : Int) < 2 := by omega
            go_wp2_with (fail)
            refine (open_any w2.heap.size nx cx Ax Lx _ hnx hrx (by omega)).mono ?_
            rintro _ w3 ⟨g, rfl, hin3, hf3, hg3⟩
            have hcell3 : w3.cell? ⟨w2.heap.size, k, none⟩ = some (.slice Ax nx cx) := by
              rw [(hball.fr hf3 (fun e => e)).cell k, ← hball.cell k]; exact hcell
            have hball3 := hball.fr hf3 (fun e => e)
            have hg3' := hin3.lt
            have hrx3 := hrx.fr hf3 (fun _ _ e => e)
            have q13 := q1.fr hf3 (fun _ _ e => e)
            have q23 := q2.fr hf3 (fun _ _ e => e)
            go_wp2_with (fail)
            obtain ⟨v, a', e', hx⟩ := hid_ex3 (Pk.rdInt Lx 0 0)
            have hin4 : InAt ((w3.alloc (.cells #[.slice Ax nx cx, .int .i64 0, .int .i64 0] 44)).drew) g g Lx 0 0 := hin3.alloc _
            have hi4 : IAt ((w3.alloc (.cells #[.slice Ax nx cx, .int .i64 0, .int .i64 0] 44)).drew) w2.heap.size w3.heap.size Lx 0 0 :=
              ⟨Ax, cx, by rw [hnx.out]; exact Blk.new w3 _ _, by rw [hnx.out]; exact hrx3.alloc _, by omega, by omega, by rw [hnx.out]; omega, by rw [hnx.out]; exact hnc⟩
            have hall4 : Blk ((w3.alloc (.cells #[.slice Ax nx cx, .int .i64 0, .int .i64 0] 44)).drew) w2.heap.size 24 _ := hball3.alloc _
            have q14 : Rd ((w3.alloc (.cells #[.slice Ax nx cx, .int .i64 0, .int .i64 0] 44)).drew) w2.heap.size 1 A1 L.length (L.map Bv) := q13.alloc _
            have q24 : Rd ((w3.alloc (.cells #[.slice Ax nx cx, .int .i64 0, .int .i64 0] 44)).drew) w2.heap.size 1 A2 (L.length + 1) ((L ++ [UInt8.ofNat (last.toNat % 128)]).map Bv) := q23.alloc _
            have hf4 : Fr Non w ((w3.alloc (.cells #[.slice Ax nx cx, .int .i64 0, .int .i64 0] 44)).drew) := ((hfx.trans hf3 (fun _ _ e => e)).alloc _).drew
            have hsz3 := hf3.size
            have hga : w2.heap.size < g := by omega
            refine wp_region_any (by kernel_rfl) ?_
            change wpAny _ _ _ _ _ _ _ (World.drew _)
            refine wpAny_take (i := 0) (v := ?_) rfl (by kernel_rfl) (by kernel_rfl) (by kernel_rfl) (fun _ _ _ h => h) (Or.inl ⟨by rfl, by intro w; go_simp; try with_reducible rfl⟩) ?_
            refine wpAny_take (i := 2) (v := ?_) rfl (by kernel_rfl) (by kernel_rfl) (by kernel_rfl) (fun _ _ _ h => h) (Or.inl ⟨by rfl, by intro w; go_simp; try with_reducible rfl⟩) ?_
            refine wpAny_only 1 (by kernel_rfl) rfl (by rfl) (fun K hK => ?_)
            go_simp
            go_wp2_with (go_at_call 20; go_loud (with_reducible refine (inInt_any g g Lx 0 0 v a' e' _ hin4 hx).mono ?_); rintro _ w5 ⟨rfl, hin5, hf5⟩; have hi5 := hi4.fr hf5 (fun k hk => One.not (by omega) hk) (by unfold One; omega))
            (first | (refine hK _ _ ?_; clear hK K) | skip)
            refine wpAny_only 3 (by kernel_rfl) rfl (by rfl) (fun K hK => ?_)
            go_simp
            go_wp2_with (go_at_call 21; go_loud (with_reducible refine (iInt_any w2.heap.size w3.heap.size Lx 0 0 v a' e' _ hi5 hx).mono ?_); rintro _ w6 ⟨rfl, hi6, hf6⟩; have hin6 := hin5.fr hf6 (fun k hk => One.not (by omega) hk) (by unfold One; omega); have hi6' := hi6; obtain ⟨A6, c6, ib6, ir6, _, ia6, _⟩ := hi6; have d0 := ib6.cell 0; have d1 := ib6.cell 1; have d2 := ib6.cell 2; have tl : ((Lx.length - a' : Nat) : Int) = (Lx.length : Int) - (a' : Int) := by omega)
            (first | (refine hK _ _ ?_; clear hK K) | skip)
            refine wpAny_take (i := 4) (v := ?_) rfl (by kernel_rfl) (by kernel_rfl) (by kernel_rfl) (fun _ _ _ h => h) (Or.inl ⟨by rfl, by intro w; go_simp; try with_reducible rfl⟩) ?_
            refine wpAny_take (i := 5) (v := ?_) rfl (by kernel_rfl) (by kernel_rfl) (by kernel_rfl) (fun _ _ _ h => h) (Or.inl ⟨by rfl, by intro w; go_simp; try with_reducible rfl⟩) ?_
            refine wpAny_tail 6 _ (by kernel_rfl) (by rfl) (by rfl) (by kernel_rfl) ?_
            go_simp
            repeat (go_big_quiet_step (first | (go_at_call 22; exact Calls.quiet_of_same (inErr_quiet g g Lx a' e' _ (hin6.drewN _))) | (go_at_call 25; exact Calls.quiet_of (inLeft_quiet g g Lx a' e' _ (hin6.drewN _)))))
            refine wpQuiet_nil ?_
            (first | (intro _ hw'; obtain ⟨nq, hw''⟩ := hw'; subst hw'') | intro nq)
            go_wp2
            all_goals
              have hww := hwf2.size
              have ball6 := ((hall4.fr hf5 (by unfold One; omega)).fr hf6 (by unfold One; omega)).drewN nq
              have q16 := ((q14.fr hf5 (fun k hk => One.not (by omega) hk)).fr hf6 (fun k hk => One.not (by omega) hk)).drewN nq
              have q26 := ((q24.fr hf5 (fun k hk => One.not (by omega) hk)).fr hf6 (fun k hk => One.not (by omega) hk)).drewN nq
              have hf7 := ((hf4.trans hf5 (fun i hi e => by unfold One at e; omega)).trans hf6 (fun i hi e => by unfold One at e; omega)).drewN nq
              exact ⟨⟨k + 1, rfl, by omega, ball6, q16, q26, hf7⟩, by simp [intOf]; omega⟩
          · go_wp2_with (fail)
            refine (lives_any _).mono ?_
            rintro _ w3 ⟨rfl, hf3⟩
            go_wp2
            go_ret
            exact ⟨rfl, hfx.trans hf3 (fun _ _ e => e)⟩
end Go.Proofs.Ytkppihpdhildjaa
