/-
  Layer 4, PackReads: what is read, what is wrong first, and what is left, is the document's.
  Condition: none.
-/
import Derived.Test.YtkppihpdhildjaaPackGet
namespace Go.Proofs.Ytkppihpdhildjaa
open Go.RowKit
attribute [local go_sem ↓] Go.wp_at_zero Go.wp_at_succ

/-- A byte is put into an own row. -/
theorem Own.put {w : World} {base n c : Nat} {A : Option Addr} {bs : List UInt8} (h : Own w base 5 1 A n c (bs.map Bv)) {k : Nat} (hk : k < n) (x : UInt8) :
    ∃ (g : Nat) (cur : Array Value) (y : UInt8), A = some ⟨g, 0, none⟩ ∧ Blk w g 5 cur ∧ cur[k]? = some (Bv y) ∧ base ≤ g ∧ Own (w.setCell ⟨g, k, none⟩ (Bv x)) base 5 1 A n c ((bs.set k x).map Bv) := by
  rcases h.2 with ⟨_, h0⟩ | ⟨g, cap, cur, hv, hb, hg, h1, h2, h3, h4⟩
  · omega
  · injection hv with hA hn hc
    have hlen := h.1
    simp at hlen
    obtain ⟨y, hy⟩ : ∃ y, bs[k]? = some y := ⟨_, List.getElem?_eq_getElem (by omega)⟩
    refine ⟨g, cur, y, hA, hg, ?_, hb, ?_⟩
    · have e : (cur.toList.take (n * 1))[k]? = (bs.map Bv)[k]? := by rw [h4]
      rw [List.getElem?_take_of_lt (by omega), List.getElem?_map, hy] at e
      simpa using e
    · have hset := Blk.set (show Blk w g 5 cur from hg) k (Bv x)
      refine ⟨by simp [hlen], .inr ⟨g, cap, cur.setIfInBounds k (Bv x), ?_, hb, hset, h1, h2, by simpa using h3, ?_⟩⟩
      · subst hA hc; rfl
      · rw [Array.toList_setIfInBounds, List.take_set, h4, List.map_set]

theorem From.not {B k : Nat} (h : k < B) : ¬ From B k := by unfold From; omega

set_option maxRecDepth 100000 in
set_option maxHeartbeats 8000000 in
theorem reads_any (Ab Al Ar : Option Addr) (cb cl cr : Nat) (b : List UInt8) (l row : List OD) (at_ : Int) (by_ : UInt8) (w : World)
    (hrb : Rd w w.heap.size 1 Ab b.length (b.map Bv)) (hbc : b.length ≤ cb) (hbc' : cb ≤ 9223372036854775807)
    (hrl : Rd w w.heap.size 3 Al l.length (l.flatMap OD.cells)) (hlc : l.length ≤ 9223372036854775807) (hol : ∀ o ∈ l, OD.ok o)
    (hrr : Rd w w.heap.size 3 Ar row.length (row.flatMap OD.cells)) (hrc : row.length ≤ 9223372036854775807) (hor : ∀ o ∈ row, OD.ok o)
    (a0 : -9223372036854775808 ≤ at_) (a1 : at_ ≤ 9223372036854775807) :
    Calls Try.prog 9 #[.slice Ab b.length cb, .slice Al l.length cl, .slice Ar row.length cr, .int .i64 at_, .int .u8 (by_.toNat : Int)] w (LivesPost w) := by
  have hby := by_.toNat_lt
  obtain ⟨Y, hY⟩ := hid_ex (allO (l.take 6))
  have hYl : Y.length ≤ 300 := by
    have h1 := allO_len (l.take 6)
    have h2 := List.length_take_le 6 l
    rw [hY.out] at h1; omega
  generalize hnl : l.length = nl at *
  generalize hnr : row.length = nr at *
  generalize hnY : Y.length = nY at *
  have hnl' := Lib.hid hnl
  have hnr' := Lib.hid hnr
  have hnY' := Lib.hid hnY
  clear hnl hnr hnY
  have hm6 : Hid (((6 : Nat) : Int) = 6) := rfl
  go_enter Try.func9, Try.ntmps9
  go_wp2_with (fail)
  refine (all04_len Al cl nl l 6 6 Y _ hY hm6 hnl' hol hrl (by omega) hlc).mono ?_
  rintro _ w1 ⟨A1, c1, rfl, hown1, hf1⟩
  rw [hnY'.out] at hown1
  rw [hnY'.out]
  have hs1 := hf1.size
  have hcap1 := hown1.cap
  obtain ⟨K, hK⟩ := hid_ex (around at_ (nY + 1))
  have hKb : 0 ≤ K ∧ K < nY + 1 := by
    have h := around_bd (n := at_) (m := nY + 1) (by omega)
    rw [hK.out] at h; exact h
  obtain ⟨kk, rfl⟩ : ∃ kk : Nat, K = kk := ⟨K.toNat, by omega⟩
  have hkY : kk ≤ nY := by omega
  go_wp2_with (fail)
  refine (around_any at_ (nY + 1) _ a0 a1 (by omega) (by omega)).mono ?_
  rw [hK.out]
  rintro _ _ ⟨rfl, rfl⟩
  have hFew := few_any A1 c1 Y 400 w1 (by rw [hnY'.out]; exact hown1.rd) (by rw [hnY'.out]; omega) (by omega) (by omega)
  rw [List.take_of_length_le (by rw [hnY'.out]; omega), hnY'.out] at hFew
  go_wp2_with (fail)
  refine hFew.mono ?_
  clear hFew
  rintro _ w2 ⟨A2, c2, rfl, hown2, hf2⟩
  rw [hnY'.out] at hown2
  rw [hnY'.out]
  have hs2 := hf2.size
  have hcap2 := hown2.cap
  have hown12 := hown1.fr hf2 (fun _ _ e => e)
  have hwf2 := hf1.trans hf2 (fun _ _ e => e)
  have hrow1 := hown1.row
  rcases Nat.lt_or_ge kk nY with hlt | hge
  obtain ⟨g2, cur2, y2, rfl, hk2, hk20, hk2b, hown3⟩ := hown2.put hlt by_
  have hc20 := hk2.cell kk
  rw [hk20] at hc20
  have hfz2 := hk2.frozen kk
  have hy2 := y2.toNat_lt
  unfold Bv at hc20
  go_wp2_with (fail)
  have hfS := (Fr.refl (One g2) w2).setOne kk (.int .u8 (by_.toNat : Int))
  unfold Bv at hown3
  obtain ⟨Z, hZ⟩ := hid_ex (Y.set kk by_)
  have hZl : Hid (Z.length = nY) := by show _ = _; rw [← hZ.out, List.length_set, hnY'.out]
  obtain ⟨A2, hA2⟩ := hid_ex (some (⟨g2, 0, none⟩ : Addr))
  have hownZ : Own (w2.setCell ⟨g2, kk, none⟩ (.int .u8 (by_.toNat : Int))) w1.heap.size 5 1 (some ⟨g2, 0, none⟩) nY c2 (Z.map Bv) := by rw [← hZ.out]; exact hown3
  have hownY := hown12.fr hfS (fun k hk => by have := hrow1 k hk; unfold One; omega)
  have hf4 := hwf2.trans hfS (fun i hi e => by unfold One at e; omega)
  have hs4 : w1.heap.size ≤ (w2.setCell ⟨g2, kk, none⟩ (.int .u8 (by_.toNat : Int))).heap.size := Nat.le_trans hs2 hfS.size
  clear hown3 hown2 hk2 hk20 hc20 hfz2 hfS hown12
  generalize w2.setCell ⟨g2, kk, none⟩ (.int .u8 (by_.toNat : Int)) = w4 at *
  rw [hA2.out] at hownZ ⊢
  rotate_left
  go_wp2_with (fail)
  obtain ⟨Z, hZ⟩ := hid_ex Y
  have hZl : Hid (Z.length = nY) := by rw [← hZ.out]; exact hnY'
  have hownZ : Own w2 w1.heap.size 5 1 A2 nY c2 (Z.map Bv) := by rw [← hZ.out]; exact hown2
  have hownY := hown12
  have hf4 := hwf2
  have hs4 := hs2
  clear hown2 hown12
  generalize w2 = w4 at *
  all_goals
    have hrb4 : Rd w4.drew w4.drew.heap.size 1 Ab b.length (b.map Bv) := (hrb.fr hf4 (fun _ _ e => e)).mono hf4.size
    have hkc : (kk : Int) ≤ (c1 : Int) := by omega
    have hb60 := List.length_take_le 60 b
    obtain ⟨X, hX⟩ := hid_ex (b.take 60)
    have hFew : Calls Try.prog 18 #[.slice Ab b.length cb, .int .i64 60] w4.drew (NewB w4.drew X) := by rw [← hX.out]; exact few_any Ab cb b 60 w4.drew hrb4 hbc hbc' (by omega)
    rw [hX.out] at hb60
    generalize hnX : X.length = nX at *
    have hnX' := Lib.hid hnX
    clear hnX
    go_region_with (first | (go_at_call 18; (with_reducible refine hFew.mono ?_); rintro _ w5 ⟨A5, c5, rfl, hown5, hf5⟩; rw [hnX'.out] at hown5; rw [hnX'.out]))
    -- TAIL
    have hball := Blk.new w5 24 #[.slice A5 nX c5, .slice A1 nY c1, .slice A2 nY c2, .slice A1 kk c1]
    have hown5c := hown5.cap
    have q0 := hown5.rd.alloc (.cells #[.slice A5 nX c5, .slice A1 nY c1, .slice A2 nY c2, .slice A1 kk c1] 24)
    have qY := (hownY.drew.fr hf5 (fun _ _ e => e)).rd
    have q1 := qY.alloc (.cells #[.slice A5 nX c5, .slice A1 nY c1, .slice A2 nY c2, .slice A1 kk c1] 24)
    have q2 := (hownZ.drew.fr hf5 (fun _ _ e => e)).rd.alloc (.cells #[.slice A5 nX c5, .slice A1 nY c1, .slice A2 nY c2, .slice A1 kk c1] 24)
    have q3 := (qY.takeN hkY).alloc (.cells #[.slice A5 nX c5, .slice A1 nY c1, .slice A2 nY c2, .slice A1 kk c1] 24)
    rw [Nat.mul_one, ← List.map_take] at q3
    have hkl : Hid ((Y.take kk).length = kk) := by show _ = _; rw [List.length_take, hnY'.out]; omega
    have hfall := (hf4.drew.trans hf5 (fun _ _ e => e)).alloc (.cells #[.slice A5 nX c5, .slice A1 nY c1, .slice A2 nY c2, .slice A1 kk c1] 24)
    have hsz : (w5.alloc (.cells #[.slice A5 nX c5, .slice A1 nY c1, .slice A2 nY c2, .slice A1 kk c1] 24)).heap.size = w5.heap.size + 1 := by simp
    have hfs := hfall.size
    generalize w5.alloc (.cells #[.slice A5 nX c5, .slice A1 nY c1, .slice A2 nY c2, .slice A1 kk c1] 24) = wall at *
    generalize w5.heap.size = G at *
    go_wp2
    go_loopw [15] (fun v wx => ∃ i : Nat, v = .int .i64 (i : Int) ∧ i ≤ 4 ∧ Fr (From wall.heap.size) wall wx) (fun v _ => 4 - (intOf v).toNat)
    case atStart => exact ⟨0, rfl, by omega, Fr.refl _ _⟩
    case round =>
      obtain ⟨i, rfl, hi4, hfx⟩ := hrel
      have hbx := hball.fr hfx (From.not (by omega))
      by_cases hlt4 : i < 4
      · obtain ⟨Ax, nx, cx, Lx, hcell, hrx, hnx, hn300, hnc⟩ : ∃ (Ax : Option Addr) (nx cx : Nat) (Lx : List UInt8), wr.cell? ⟨G, i, none⟩ = some (.slice Ax nx cx) ∧ Rd wr G 1 Ax nx (Lx.map Bv) ∧ Hid (Lx.length = nx) ∧ nx ≤ 300 ∧ nx ≤ cx := by
          rw [hbx.cell i]
          have hNF : ∀ k, k < G → ¬ From wall.heap.size k := fun k hk => From.not (by omega)
          have : i = 0 ∨ i = 1 ∨ i = 2 ∨ i = 3 := by omega
          rcases this with rfl | rfl | rfl | rfl
          · exact ⟨_, _, _, X, rfl, q0.fr hfx hNF, hnX', by omega, hown5c.1⟩
          · exact ⟨_, _, _, Y, rfl, q1.fr hfx hNF, hnY', by omega, hcap1.1⟩
          · exact ⟨_, _, _, Z, rfl, q2.fr hfx hNF, hZl, by omega, hcap2.1⟩
          · exact ⟨_, _, _, _, rfl, q3.fr hfx hNF, hkl, by omega, by omega⟩
        have hlt4' : (i : Int) < 4 := by omega
        go_wp2_with (fail)
        refine (opened_any G nx cx Ax Lx _ hnx hrx (by omega)).mono ?_
        rintro _ w6 ⟨g, A6, c6, rfl, hin6, hown6, hf6, hg6, hrg6, hL62⟩
        have hbx6 := hbx.fr hf6 (fun e => e)
        have hcell6 : w6.cell? ⟨G, i, none⟩ = some (.slice Ax nx cx) := by
          rw [hbx6.cell i, ← hbx.cell i]; exact hcell
        have hi6 := inAt_of hin6 hown6 hrg6 hL62
        have hgl := hi6.lt
        have hsx := hfx.size
        have hBg : wall.heap.size ≤ g := by omega
        have hrx6 := hrx.fr hf6 (fun _ _ e => e)
        have hin7 := hi6.alloc (.cells #[.slice Ax nx cx, .int .i64 0, .int .i64 0] 44)
        have hi7 : IAt (w6.alloc (.cells #[.slice Ax nx cx, .int .i64 0, .int .i64 0] 44)) wall.heap.size w6.heap.size Lx 0 0 :=
          ⟨Ax, cx, by rw [hnx.out]; exact Blk.new w6 _ _, by rw [hnx.out]; exact (hrx6.alloc _).mono (by omega), by omega, by omega, by rw [hnx.out]; omega, by rw [hnx.out]; exact hnc⟩
        have hf7 := (hfx.trans hf6 (fun _ _ e => e.elim)).alloc (.cells #[.slice Ax nx cx, .int .i64 0, .int .i64 0] 44)
        rcases Nat.lt_or_ge 1 i with hrow | hrow
        · have hrow' : (1 : Int) < i := by omega
          go_wp2
          go_loopw [19] (fun v wy => ∃ (j a : Nat) (e : Int), v = .int .i64 (j : Int) ∧ j ≤ nl ∧ InAt wy g g Lx a e ∧ IAt wy wall.heap.size w6.heap.size Lx a e ∧ Fr (From wall.heap.size) wall wy) (fun v _ => nl - (intOf v).toNat)
          case atStart => exact ⟨0, 0, 0, rfl, by omega, hin7, hi7, hf7⟩
          case round =>
            obtain ⟨j, a, e, rfl, hj, hinj, hij, hfj⟩ := hrel
            by_cases hjj : j < nl ∧ j < 12
            · obtain ⟨hj1, hj2⟩ := hjj
              obtain ⟨o, hoo⟩ : ∃ o, l[j]? = some o := ⟨_, List.getElem?_eq_getElem (by rw [hnl'.out]; exact hj1)⟩
              obtain ⟨o0, o1, o2, o3, o4⟩ := hol o (List.mem_of_getElem? hoo)
              obtain ⟨b', off, rfl, hb', k0, k1, k2⟩ := OD.at ((hrl.fr hfall (fun _ _ e => e)).fr hfj (fun k hk => From.not (by omega))) hoo
              clear hoo
              go_wp2_with (fail)
              refine (get_any wall.heap.size g g w6.heap.size Lx a e o.d o.n o.s _ hinj hij hBg (by omega) (by omega) o0 o1).mono ?_
              rintro _ w8 ⟨rfl, a', e', hin8, hi8, hf8⟩
              have hf8' := hfj.trans hf8 (fun i hi e => by unfold Two at e; unfold From; omega)
              go_wp2
              exact ⟨⟨j + 1, a', e', rfl, by omega, hin8, hi8, hf8'⟩, by simp [intOf]; omega⟩
            · have hwhy : j < nl ∨ ¬ j < nl := Classical.em _
              rcases hwhy with h1 | h1
              all_goals
                go_wp2
                exact ⟨⟨i + 1, rfl, by omega, hfj⟩, by simp [intOf]; omega⟩
        · have hrow' : (i : Int) ≤ 1 := by omega
          go_wp2
          go_loopw [19] (fun v wy => ∃ (j a : Nat) (e : Int), v = .int .i64 (j : Int) ∧ j ≤ nr ∧ InAt wy g g Lx a e ∧ IAt wy wall.heap.size w6.heap.size Lx a e ∧ Fr (From wall.heap.size) wall wy) (fun v _ => nr - (intOf v).toNat)
          case atStart => exact ⟨0, 0, 0, rfl, by omega, hin7, hi7, hf7⟩
          case round =>
            obtain ⟨j, a, e, rfl, hj, hinj, hij, hfj⟩ := hrel
            by_cases hjj : j < nr ∧ j < 12
            · obtain ⟨hj1, hj2⟩ := hjj
              obtain ⟨o, hoo⟩ : ∃ o, row[j]? = some o := ⟨_, List.getElem?_eq_getElem (by rw [hnr'.out]; exact hj1)⟩
              obtain ⟨o0, o1, o2, o3, o4⟩ := hor o (List.mem_of_getElem? hoo)
              obtain ⟨b', off, rfl, hb', k0, k1, k2⟩ := OD.at ((hrr.fr hfall (fun _ _ e => e)).fr hfj (fun k hk => From.not (by omega))) hoo
              clear hoo
              go_wp2_with (fail)
              refine (get_any wall.heap.size g g w6.heap.size Lx a e o.d o.n o.s _ hinj hij hBg (by omega) (by omega) o0 o1).mono ?_
              rintro _ w8 ⟨rfl, a', e', hin8, hi8, hf8⟩
              have hf8' := hfj.trans hf8 (fun i hi e => by unfold Two at e; unfold From; omega)
              go_wp2
              exact ⟨⟨j + 1, a', e', rfl, by omega, hin8, hi8, hf8'⟩, by simp [intOf]; omega⟩
            · have hwhy : j < nr ∨ ¬ j < nr := Classical.em _
              rcases hwhy with h1 | h1
              all_goals
                go_wp2
                exact ⟨⟨i + 1, rfl, by omega, hfj⟩, by simp [intOf]; omega⟩
      · have hi4' : i = 4 := by omega
        go_wp2_with (fail)
        refine (lives_any _).mono ?_
        rintro _ w9 ⟨rfl, hf9⟩
        go_wp2
        go_ret
        exact ⟨rfl, (hfall.trans hfx (fun i hi e => by unfold From at e; omega)).trans hf9 (fun _ _ e => e)⟩
end Go.Proofs.Ytkppihpdhildjaa
