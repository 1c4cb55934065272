/-
  Layer 4, PackWrites: what is written is the document's bytes, one behind the other.
  Condition: none.
-/
import Derived.Test.YtkppihpdhildjaaPackPut
namespace Go.Proofs.Ytkppihpdhildjaa
open Go.RowKit
attribute [local go_sem ↓] Go.wp_at_zero Go.wp_at_succ

set_option maxRecDepth 100000 in
set_option maxHeartbeats 4000000 in
theorem writes_any (A : Option Addr) (c : Nat) (l : List OD) (w : World) (hok : ∀ o ∈ l, OD.ok o) (hr : Rd w w.heap.size 3 A l.length (l.flatMap OD.cells)) (hc : l.length ≤ c) :
    Calls Try.prog 4 #[.slice A l.length c] w (LivesPost w) := by
  generalize hlen0 : l.length = n at *
  have hlen := Lib.hid hlen0
  clear hlen0
  have ho0 : OutAt (w.alloc (.cells #[.slice none 0 0] 26)) w.heap.size w.heap.size none 0 [] := ⟨Blk.new w _ _, Own.nil _ _ _ _, Nat.le_refl _⟩
  go_enter Try.func4, Try.ntmps4
  go_wp2
  go_loopw [4] (fun v wr => ∃ (i : Nat) (A' : Option Addr) (c' : Nat), v = .int .i64 (i : Int) ∧ i ≤ n ∧ i ≤ 12 ∧ OutAt wr w.heap.size w.heap.size A' c' (allO (l.take i)) ∧ Fr Non w wr) (fun v _ => n - (intOf v).toNat)
  case atStart => exact ⟨0, none, 0, rfl, by omega, by omega, ho0, (Fr.refl _ _).alloc _⟩
  case round =>
    obtain ⟨i, A', c', rfl, hin, hi12, ho, hf⟩ := hrel
    have hBs := hf.size
    by_cases hlt : i < n ∧ i < 12
    · obtain ⟨h1, h2⟩ := hlt
      obtain ⟨o, hoo⟩ : ∃ o, l[i]? = some o := ⟨_, List.getElem?_eq_getElem (by rw [hlen.out]; exact h1)⟩
      obtain ⟨o0, o1, o2, o3, o4⟩ := hok o (List.mem_of_getElem? hoo)
      obtain ⟨b, off, rfl, hb, k0, k1, k2⟩ := OD.at (hr.fr hf (fun _ _ e => e)) hoo
      have hoo' := Lib.hid hoo
      clear hoo
      have hal := allO_len (l.take i)
      have htl := List.length_take_le i l
      go_wp2_with (fail)
      refine (lawPut_any _ _ _ _ _ o.d o.n o.s _ ho o0 o1 o2 o3 o4 (by omega)).mono ?_
      rintro _ w1 ⟨rfl, A1, c1, ho1, hst1⟩
      have hnext := Lib.hid (allO_snoc l hoo'.out)
      rw [show allO (l.take i) ++ Pk.putO o.d o.n o.s = allO (l.take (i + 1)) from hnext.out.symm] at ho1
      have hf1 : Fr Non w w1 := hf.trans hst1.fr (fun k hk e => by
        rcases e with e | e
        · omega
        · have := (ho.2.1.row k e).1; omega)
      have hal1 := allO_len (l.take (i + 1))
      have htl1 := List.length_take_le (i + 1) l
      go_wp2_with (fail)
      have hY : Hid (((l.take (i + 1)).take 12) = l.take (i + 1)) := List.take_of_length_le (by omega)
      have hlenY : Hid ((l.take (i + 1)).length = i + 1) := by show _ = _; rw [List.length_take, hlen.out]; omega
      have hokY : ∀ o ∈ l.take (i + 1), OD.ok o := fun o ho => hok o (List.mem_of_mem_take ho)
      have hokY' := Lib.hid hokY
      clear hokY
      obtain ⟨Y, hYY⟩ := hid_ex (allO (l.take (i + 1)))
      rw [hYY.out] at ho1
      have hYl : Y.length ≤ 600 := by rw [← hYY.out]; omega
      have hrY : Rd w1 w.heap.size 3 (some ⟨b, off, none⟩) (i + 1) ((l.take (i + 1)).flatMap OD.cells) := by
        have := (hr.fr hf1 (fun _ _ e => e)).takeN (m := i + 1) (by omega)
        rwa [flat_take OD.cells_len] at this
      have x1 : (0 : Int) ≤ (i : Int) + 1 := by omega
      have x2 : (i : Int) + 1 ≤ (c : Int) := by omega
      have x3 : IntKind.i64.wrap ((i : Int) + 1) = (i : Int) + 1 := IntWalk.i64_in _ ⟨by omega, by omega⟩
      have x4 : ((i : Int) + 1).toNat = i + 1 := by omega
      have ho1d : OutAt w1.drew w.heap.size w.heap.size A1 c1 Y := ho1
      have hs1 := hf1.size
      have hY12 : Hid (allO ((l.take (i + 1)).take 12) = Y) := by show _ = _; rw [hY.out, hYY.out]
      have h12 : Hid (((12 : Nat) : Int) = 12) := rfl
      go_region_with (first
        | (go_at_call 14; go_loud (with_reducible refine (outBytes_any _ _ _ _ _ _ ho1d (by omega)).mono ?_); rintro _ w2 ⟨A2, c2, rfl, hown2, hf2⟩; have q2 := run_str 24 5 9 Try.underlying24 Try.underlying5 Try.underlying9 _ _ _ _ c2 _ hown2.rd)
        | (go_at_call 17; go_loud (with_reducible refine (all04_len _ _ _ (l.take (i + 1)) 12 12 Y _ hY12 h12 hlenY hokY'.out ((hrY.drew.fr hf2 (fun _ _ e => e)).mono (by have := hf2.size; simp at this; omega)) (by omega) (by omega)).mono ?_); rintro _ w3 ⟨A3, c3, rfl, hown3, hf3⟩; have q2 := run_str 24 5 9 Try.underlying24 Try.underlying5 Try.underlying9 _ _ _ _ c2 _ (hown2.fr hf3 (fun _ _ e => e)).rd; have q3 := run_str 24 5 9 Try.underlying24 Try.underlying5 Try.underlying9 _ _ _ _ c3 _ hown3.rd))
      all_goals
        go_wp2
        go_roundw
        case rel =>
          have hs2 := hf2.size
          refine ⟨i + 1, A1, c1, by go_num, by omega, by omega, ?_, (hf1.drew.trans hf2 (fun _ _ e => e)).trans hf3 (fun _ _ e => e)⟩
          rw [hYY.out]
          exact (ho1d.fr hf2 (fun e => e) (fun _ _ e => e)).fr hf3 (fun e => e) (fun _ _ e => e)
        case measure => simp [intOf]; omega
    · by_cases h1 : i < n
      all_goals
        go_wp2_with (fail)
        refine (lives_any _).mono ?_
        rintro _ w1 ⟨rfl, hf1⟩
        go_wp2
        go_ret
        exact ⟨rfl, hf.trans hf1 (fun _ _ e => e)⟩
end Go.Proofs.Ytkppihpdhildjaa
