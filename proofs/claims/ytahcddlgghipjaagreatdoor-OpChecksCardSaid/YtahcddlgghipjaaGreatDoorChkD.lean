/-
  huddleref11.long: whether a list is too long, or not as long as it has to be.
    Conditions: the operation reads by its form.
  huddleref11.Check: how an operation's form is wrong.
    Conditions: the operation reads by its form.
  OpChecks: how an operation's form is wrong, and which kinds are commits, is told as the document says.
    Conditions: the package variable op.kinds as its text lays it.
  OpChecks: whatever the input is, where the one listed variable is as its text lays it, the law returns true, and nothing that was there has turned.
    Condition: none.
  OpChecks: the tied card.
    Condition: none.
-/
import Derived.Test.YtahcddlgghipjaaGreatDoorChkC
import Derived.Test.YtahcddlgghipjaaGreatDoorChkB
import Derived.Test.YtahcddlgghipjaaGreatDoorOpLives
import Derived.Test.YtahcddlgghipjaaGreatDoorOpFew
import Derived.Test.YtahcddlgghipjaaGreatDoorBent
import Derived.Deep.CutBlock
import Derived.Deep.MidRow
import Derived.Great.BuildSlice
import Derived.Test.YtahcddlgghipjaaGreatDoorLawOpen
import Derived.Test.YtahcddlgghipjaaGreatDoorTrodFive
import Derived.Test.YtahcddlgghipjaaGreatDoorOpenInts
import Derived.Test.YtahcddlgghipjaaGreatDoorKinds
import Derived.ChangeVars
import Derived.JoinedOf
import Derived.RowKitTokens
import Derived.LaidLaws
import Derived.Test.YtahcddlgghipjaaGreatDoorTie
import Derived.Test.YtahcddlgghipjaaGreatDoorCards
import Derived.SevenTiedAt
namespace Go.Proofs.YtahcddlgghipjaaGreatDoor
open Go.RowKit
attribute [local go_sem ↓] Go.wp_at_zero Go.wp_at_succ
namespace Oq
attribute [local go_sem] Bool.not_false Bool.not_true

set_option maxRecDepth 100000 in
set_option maxHeartbeats 8000000 in
theorem long11_any (x : OpL) (w : World) (hat : x.at w w.heap.size) (hok : x.op.ok) : Calls Tryz.prog 26 #[.agg x.cells] w (BoolPost x.op.longB w) := by
  have hb0 := Blk.new w 35 x.cells
  have f0 : Fr Non w (w.alloc (.cells x.cells 35)) := (Fr.refl Non w).alloc _
  have c2 : (w.alloc (.cells x.cells 35)).cell? ⟨w.heap.size, 2, none⟩ = some (.int .i64 x.kind) := hb0.cell 2
  have c4 : (w.alloc (.cells x.cells 35)).cell? ⟨w.heap.size, 4, none⟩ = some (.slice x.pastA x.past.length x.pastC) := hb0.cell 4
  have c9 : (w.alloc (.cells x.cells 35)).cell? ⟨w.heap.size, 9, none⟩ = some (.slice x.pathA x.path.length x.pathC) := hb0.cell 9
  have c14 : (w.alloc (.cells x.cells 35)).cell? ⟨w.heap.size, 14, none⟩ = some (.slice x.bodyA x.body.length x.bodyC) := hb0.cell 14
  have c15 : (w.alloc (.cells x.cells 35)).cell? ⟨w.heap.size, 15, none⟩ = some (.slice x.refsA x.refs.length x.refsC) := hb0.cell 15
  have c19 : (w.alloc (.cells x.cells 35)).cell? ⟨w.heap.size, 19, none⟩ = some (.slice x.guardsA x.guards.length x.guardsC) := hb0.cell 19
  have c22 : (w.alloc (.cells x.cells 35)).cell? ⟨w.heap.size, 22, none⟩ = some (.slice x.boxesA x.boxes.length x.boxesC) := hb0.cell 22
  have c24 : (w.alloc (.cells x.cells 35)).cell? ⟨w.heap.size, 24, none⟩ = some (.slice x.histA x.hist.length x.histC) := hb0.cell 24
  have lpath : x.path.length ≤ 1000000 := by have h := hok.path.1; rw [show x.op.path = x.path.map NdL.nd from rfl, List.length_map] at h; omega
  have lhist : x.hist.length ≤ 1000000 := by have h := hok.hist.1; rw [show x.op.hist = x.hist.map SlL.sl from rfl, List.length_map] at h; omega
  have rp := hat.path.1.fr f0 (fun _ _ e => e)
  have rh := hat.hist.1.fr f0 (fun _ _ e => e)
  have ki1 := Lib.hid (fun w' => in11_any x.body.length 1 20 w')
  have ki2 := Lib.hid (fun w' => in11_any x.boxes.length 1 6 w')
  have hfin := Lib.hid (longB_eq x)
  generalize x.op.longB = LB at *
  generalize inR (x.body.length : Int) 1 20 = i7 at *
  generalize inR (x.boxes.length : Int) 1 6 = i10 at *
  obtain ⟨n2, hn2⟩ := hid_ex x.path.length
  obtain ⟨n5, hn5⟩ := hid_ex x.hist.length
  rw [hn2.out] at rp lpath c9 hfin
  rw [hn5.out] at rh lhist c24 hfin
  generalize x.past.length = n1 at *
  generalize x.body.length = n3 at *
  generalize x.refs.length = n4 at *
  generalize x.guards.length = n6 at *
  generalize x.boxes.length = n7 at *
  generalize x.kind = kd at *
  generalize x.cells = CS at *
  clear hb0 hat hok
  go_enter Tryz.func26, Tryz.ntmps26
  go_upto_region 1 with (fail)
  generalize w.alloc (.cells CS 35) = w0 at *
  go_wp2
  go_loopw [3] (fun v wr => ∃ k : Nat, v = .int .i64 (k : Int) ∧ k ≤ n2 ∧ Hid (((x.path.take k).all fun y => decide (y.xs.length ≤ 12)) = true) ∧ w0 = wr) (fun v _ => n2 - (intOf v).toNat)
  case atStart => exact ⟨0, rfl, by omega, rfl, rfl⟩
  case round =>
    obtain ⟨k, rfl, hk, hh, rfl⟩ := hrel
    by_cases hlt : k < n2
    · have i1 : (0 : Int) ≤ k := by omega
      have i2 : (k : Int) < n2 := by omega
      have i3 : (k : Int).toNat = k := by omega
      obtain ⟨y, hy⟩ : ∃ y, x.path[k]? = some y := ⟨_, List.getElem?_eq_getElem (by rw [hn2.out]; exact hlt)⟩
      obtain ⟨b, off, hA, hbB, k0, k1⟩ := NdL.el rp hy
      rw [hA] at c9
      have hmem := List.mem_of_getElem? hy
      have hsn : Hid (((x.path.take (k + 1)).all fun y => decide (y.xs.length ≤ 12)) = (((x.path.take k).all fun y => decide (y.xs.length ≤ 12)) && decide (y.xs.length ≤ 12))) := all_snoc x.path (fun y => decide (y.xs.length ≤ 12)) hy
      have hno : Hid (decide (y.xs.length ≤ 12) = false → (x.path.all fun y => decide (y.xs.length ≤ 12)) = false) := fun h => List.all_eq_false.2 ⟨y, hmem, by rw [h]; simp⟩
      clear hy hmem
      rcases Nat.lt_or_ge 12 y.xs.length with h | h
      · have t : decide ((12 : Int) < (y.xs.length : Int)) = true := decide_eq_true (by omega)
        have hv : Hid (true = LB) := by show _ = _; rw [hfin.out, hno.out (decide_eq_false (by omega))]; simp
        clear hfin hno hsn h
        go_wp2
        go_ret
        exact ⟨congrArg (fun z => Ending.returned (.bool z)) hv.out, f0⟩
      · have t : decide ((12 : Int) < (y.xs.length : Int)) = false := decide_eq_false (by omega)
        have hsn' : Hid (((x.path.take (k + 1)).all fun y => decide (y.xs.length ≤ 12)) = true) := by show _ = _; rw [hsn.out, hh.out, decide_eq_true h]; rfl
        clear hno hsn h
        go_wp2
        go_roundw
        case rel => exact ⟨k + 1, by go_num, by omega, hsn', by first | rfl | trivial⟩
        case measure => simp [intOf]; omega
    · obtain rfl : n2 = k := by omega
      have hpa : (x.path.all fun y => decide (y.xs.length ≤ 12)) = true := by have h := hh.out; rw [List.take_of_length_le (by rw [hn2.out]; omega)] at h; exact h
      have hfin2 := hfin.out
      rw [hpa] at hfin2
      have hfin3 := Lib.hid hfin2
      clear hfin hfin2 hpa hh rp lpath hlt hn2
      go_wp2
      go_loopw [4] (fun v wr => ∃ k : Nat, v = .int .i64 (k : Int) ∧ k ≤ n5 ∧ Hid (((x.hist.take k).all fun y => decide (y.y.length ≤ 208)) = true) ∧ w0 = wr) (fun v _ => n5 - (intOf v).toNat)
      case atStart => exact ⟨0, rfl, by omega, rfl, rfl⟩
      case round =>
        obtain ⟨k, rfl, hk, hh, rfl⟩ := hrel
        by_cases hlt : k < n5
        · have i1 : (0 : Int) ≤ k := by omega
          have i2 : (k : Int) < n5 := by omega
          have i3 : (k : Int).toNat = k := by omega
          obtain ⟨y, hy⟩ : ∃ y, x.hist[k]? = some y := ⟨_, List.getElem?_eq_getElem (by rw [hn5.out]; exact hlt)⟩
          obtain ⟨b, off, hA, hbB, k0, k1, k2, k3⟩ := SlL.el rh hy
          rw [hA] at c24
          have hmem := List.mem_of_getElem? hy
          have hsn : Hid (((x.hist.take (k + 1)).all fun y => decide (y.y.length ≤ 208)) = (((x.hist.take k).all fun y => decide (y.y.length ≤ 208)) && decide (y.y.length ≤ 208))) := all_snoc x.hist (fun y => decide (y.y.length ≤ 208)) hy
          have hno : Hid (decide (y.y.length ≤ 208) = false → (x.hist.all fun y => decide (y.y.length ≤ 208)) = false) := fun h => List.all_eq_false.2 ⟨y, hmem, by rw [h]; simp⟩
          clear hy hmem
          rcases Nat.lt_or_ge 208 y.y.length with h | h
          · have t : decide ((208 : Int) < (y.y.length : Int)) = true := decide_eq_true (by omega)
            have hv : Hid (true = LB) := by show _ = _; rw [hfin3.out, hno.out (decide_eq_false (by omega))]; simp
            clear hfin3 hno hsn h
            go_wp2
            go_ret
            exact ⟨congrArg (fun z => Ending.returned (.bool z)) hv.out, f0⟩
          · have t : decide ((208 : Int) < (y.y.length : Int)) = false := decide_eq_false (by omega)
            have hsn' : Hid (((x.hist.take (k + 1)).all fun y => decide (y.y.length ≤ 208)) = true) := by show _ = _; rw [hsn.out, hh.out, decide_eq_true h]; rfl
            clear hno hsn h
            go_wp2
            go_roundw
            case rel => exact ⟨k + 1, by go_num, by omega, hsn', by first | rfl | trivial⟩
            case measure => simp [intOf]; omega
        · obtain rfl : n5 = k := by omega
          have hha : (x.hist.all fun y => decide (y.y.length ≤ 208)) = true := by have h := hh.out; rw [List.take_of_length_le (by rw [hn5.out]; omega)] at h; exact h
          have hfin4 := hfin3.out
          rw [hha] at hfin4
          have hfin := Lib.hid hfin4
          clear hfin3 hfin4 hha hh rh lhist hlt hn5
          rcases Bool.eq_false_or_eq_true (decide ((12 : Int) < n1)) with h1 | h1
          · have hv : Hid (true = LB) := by show _ = _; rw [hfin.out]; simp [h1]
            clear hfin
            go_wp2
            go_ret
            exact ⟨congrArg (fun z => Ending.returned (.bool z)) hv.out, f0⟩
          rcases Bool.eq_false_or_eq_true (decide ((5 : Int) < n2)) with h2 | h2
          · have hv : Hid (true = LB) := by show _ = _; rw [hfin.out]; simp [h1, h2]
            clear hfin
            go_wp2
            go_ret
            exact ⟨congrArg (fun z => Ending.returned (.bool z)) hv.out, f0⟩
          rcases Bool.eq_false_or_eq_true (decide ((208 : Int) < n3)) with h3 | h3
          · have hv : Hid (true = LB) := by show _ = _; rw [hfin.out]; simp [h1, h2, h3]
            clear hfin
            go_wp2
            go_ret
            exact ⟨congrArg (fun z => Ending.returned (.bool z)) hv.out, f0⟩
          rcases Bool.eq_false_or_eq_true (decide ((8 : Int) < n4)) with h4 | h4
          · have hv : Hid (true = LB) := by show _ = _; rw [hfin.out]; simp [h1, h2, h3, h4]
            clear hfin
            go_wp2
            go_ret
            exact ⟨congrArg (fun z => Ending.returned (.bool z)) hv.out, f0⟩
          rcases Bool.eq_false_or_eq_true (decide ((20 : Int) < n5)) with h5 | h5
          · have hv : Hid (true = LB) := by show _ = _; rw [hfin.out]; simp [h1, h2, h3, h4, h5]
            clear hfin
            go_wp2
            go_ret
            exact ⟨congrArg (fun z => Ending.returned (.bool z)) hv.out, f0⟩
          rcases Bool.eq_false_or_eq_true (decide ((6 : Int) < n6)) with h6 | h6
          · have hv : Hid (true = LB) := by show _ = _; rw [hfin.out]; simp [h1, h2, h3, h4, h5, h6]
            clear hfin
            go_wp2
            go_ret
            exact ⟨congrArg (fun z => Ending.returned (.bool z)) hv.out, f0⟩
          rcases Bool.eq_false_or_eq_true (kd == 7) with k7 | k7
          · have hv : Hid ((!i7) = LB) := by show _ = _; have p : kd = 7 := (by simpa using k7); rw [hfin.out]; simp [h1, h2, h3, h4, h5, h6, p]
            clear hfin
            cases i7
            all_goals
              go_wp2_with (first
                | (go_at_call 50; (with_reducible refine (ki1.out _).mono ?_); rintro _ v3 ⟨rfl, f3⟩; have fz3 := f0.trans f3 (fun _ _ e => e))
                | (go_at_call 50; (with_reducible refine (ki2.out _).mono ?_); rintro _ v3 ⟨rfl, f3⟩; have fz3 := f0.trans f3 (fun _ _ e => e)))
              go_ret
              exact ⟨congrArg (fun z => Ending.returned (.bool z)) hv.out, fz3⟩
          rcases Bool.eq_false_or_eq_true (kd == 9) with k9 | k9
          · have hv : Hid ((((n7 : Int) != n6)) = LB) := by show _ = _; have p : kd = 9 := (by simpa using k9); rw [hfin.out]; simp [h1, h2, h3, h4, h5, h6, p]
            clear hfin
            go_wp2
            go_ret
            exact ⟨congrArg (fun z => Ending.returned (.bool z)) hv.out, f0⟩
          rcases Bool.eq_false_or_eq_true (kd == 10) with k10 | k10
          · have hv : Hid ((!i10) = LB) := by show _ = _; have p : kd = 10 := (by simpa using k10); rw [hfin.out]; simp [h1, h2, h3, h4, h5, h6, p]
            clear hfin
            cases i10
            all_goals
              go_wp2_with (first
                | (go_at_call 50; (with_reducible refine (ki1.out _).mono ?_); rintro _ v3 ⟨rfl, f3⟩; have fz3 := f0.trans f3 (fun _ _ e => e))
                | (go_at_call 50; (with_reducible refine (ki2.out _).mono ?_); rintro _ v3 ⟨rfl, f3⟩; have fz3 := f0.trans f3 (fun _ _ e => e)))
              go_ret
              exact ⟨congrArg (fun z => Ending.returned (.bool z)) hv.out, fz3⟩
          rcases Bool.eq_false_or_eq_true (kd == 11) with k11 | k11
          · have hv : Hid ((((n7 : Int) != 1)) = LB) := by show _ = _; have p : kd = 11 := (by simpa using k11); rw [hfin.out]; simp [h1, h2, h3, h4, h5, h6, p]
            clear hfin
            go_wp2
            go_ret
            exact ⟨congrArg (fun z => Ending.returned (.bool z)) hv.out, f0⟩
          · have hv : Hid ((false) = LB) := by show _ = _; have q7 : ¬ kd = 7 := (by simpa using k7); have q9 : ¬ kd = 9 := (by simpa using k9); have q10 : ¬ kd = 10 := (by simpa using k10); have q11 : ¬ kd = 11 := (by simpa using k11); rw [hfin.out]; simp [h1, h2, h3, h4, h5, h6, q7, q9, q10, q11]
            clear hfin
            go_wp2
            go_ret
            exact ⟨congrArg (fun z => Ending.returned (.bool z)) hv.out, f0⟩
end Oq
end Go.Proofs.YtahcddlgghipjaaGreatDoor

namespace Go.Proofs.YtahcddlgghipjaaGreatDoor
open Go.RowKit
attribute [local go_sem ↓] Go.wp_at_zero Go.wp_at_succ
namespace Oq
attribute [local go_sem] Bool.not_false Bool.not_true
attribute [local go_sem ↓] loadAt_op

theorem chain_take {α : Type} (r : α → α → Bool) (l : List α) (n : Nat) (h : chain r l = true) : chain r (l.take n) = true := by
  induction l generalizing n with
  | nil => simp [chain]
  | cons a t ih =>
    cases n with
    | zero => rfl
    | succ n =>
      cases t with
      | nil => cases n <;> rfl
      | cons b t =>
        have h2 : (r a b && chain r (b :: t)) = true := h
        rw [Bool.and_eq_true] at h2
        cases n with
        | zero => rfl
        | succ n =>
          have h3 := ih (n + 1) h2.2
          rw [List.take_succ_cons] at h3
          rw [List.take_succ_cons, List.take_succ_cons]
          show (r a b && chain r (b :: t.take n)) = true
          rw [h2.1, h3]
          rfl
theorem chain_bad {α : Type} (r : α → α → Bool) (l : List α) {k : Nat} {x y : α} (hx : l[k]? = some x) (hy : l[k + 1]? = some y) (h : r x y = false) : chain r l = false := by
  cases hc : chain r l with
  | false => rfl
  | true =>
    have h1 := chain_take r l (k + 2) hc
    rw [chain_snoc r l hx hy, h, Bool.and_false] at h1
    cases h1

set_option maxRecDepth 100000 in
set_option maxHeartbeats 16000000 in
theorem check11_any (x : OpL) (w : World) (hat : x.at w w.heap.size) (hok : x.op.ok) : Calls Tryz.prog 8 #[.agg x.cells] w (ErrPost x.op.chk w) := by
  have hsz : x.cells.size = 27 := rfl
  have hix : (Tryz.prog.info? 35).map (·.size) = some x.cells.size := by rw [hsz]; kernel_rfl
  have hlx := ldS_blk (P := Tryz.prog) w.heap.size 35 Tryz.underlying35 rfl hix
  have hb := Blk.new w 35 x.cells
  have fz : Fr Non w (w.alloc (.cells x.cells 35)) := (Fr.refl Non w).alloc _
  have c2 : (w.alloc (.cells x.cells 35)).cell? ⟨w.heap.size, 2, none⟩ = some (.int .i64 x.kind) := hb.cell 2
  have c4 : (w.alloc (.cells x.cells 35)).cell? ⟨w.heap.size, 4, none⟩ = some (.slice x.pastA x.past.length x.pastC) := hb.cell 4
  have c19 : (w.alloc (.cells x.cells 35)).cell? ⟨w.heap.size, 19, none⟩ = some (.slice x.guardsA x.guards.length x.guardsC) := hb.cell 19
  have lguards : x.guards.length ≤ 1000000 := by have h := hok.guards.1; rw [show x.op.guards = x.guards from rfl] at h; omega
  have lpast : x.past.length ≤ 1000000 := by have h := hok.past.1; rw [show x.op.past = x.past from rfl] at h; omega
  have rpast := hat.past.1.fr fz (fun _ _ e => e)
  have rguards := hat.guards.1.fr fz (fun _ _ e => e)
  have kb := Lib.hid (fun (w' : World) => bare11_any x w')
  have kn := Lib.hid (fun (w' : World) => numbers11_any x w')
  have ki := Lib.hid (fun (w' : World) (h : Fr Non w w') => items11_any x w' ((hat.fr h (fun _ _ e => e)).mono h.size) hok)
  have kl := Lib.hid (fun (w' : World) (h : Fr Non w w') => long11_any x w' ((hat.fr h (fun _ _ e => e)).mono h.size) hok)
  rw [bare_eqR] at kb
  rw [nums_eqR] at kn
  rw [items_eqR] at ki
  have hchk : Hid (x.op.chk = if x.kind < 1 ∨ 13 < x.kind then 1 else if x.op.bareB = false then 1 else if x.op.numsB = false then 8 else if x.op.itemsB = false then 8 else if x.op.longB = true then 2 else if (chain Id.less x.past && chain (fun a b => decide (a < b)) x.guards) = false then 6 else if decide (x.past = []) ≠ decide (x.kind = 1) then 10 else 0) := rfl
  generalize x.op.chk = EC at *
  clear hat hok hsz hix
  have kb' : Hid (∀ w', Calls Tryz.prog 23 #[.agg x.cells] w' (BoolPost x.op.bareB w')) := kb.out
  have kn' : Hid (∀ w', Calls Tryz.prog 24 #[.agg x.cells] w' (BoolPost x.op.numsB w')) := kn.out
  clear kb kn
  generalize x.cells = CS at *
  generalize x.op.bareB = bb at *
  generalize x.op.numsB = nb at *
  generalize x.op.itemsB = ib at *
  generalize x.op.longB = lb at *
  obtain ⟨kk, hkk⟩ := hid_ex x.kind
  rw [hkk.out] at c2 hchk
  clear hkk
  obtain ⟨np, hnp⟩ := hid_ex x.past.length
  rw [hnp.out] at rpast lpast c4
  obtain ⟨ng, hng⟩ := hid_ex x.guards.length
  rw [hng.out] at rguards lguards c19
  rcases Bool.eq_false_or_eq_true (decide (kk < 1)) with k1 | k1
  · have hv : Hid (1 = EC) := by show _ = _; rw [hchk.out, if_pos (Or.inl (of_decide_eq_true k1))]
    clear hchk
    go_enter Tryz.func8, Tryz.ntmps8
    go_wp2_with (first | (go_at_call 23; (with_reducible refine (kb'.out _).mono ?_); rintro _ v ⟨rfl, f⟩; have fz := fz.trans f (fun _ _ e => e); have hb := hb.fr f (fun e => e); have c2 := f.cell c2 (fun e => e); have c4 := f.cell c4 (fun e => e); have c19 := f.cell c19 (fun e => e); have rpast := rpast.fr f (fun _ _ e => e); have rguards := rguards.fr f (fun _ _ e => e)) | (go_at_call 24; (with_reducible refine (kn'.out _).mono ?_); rintro _ v ⟨rfl, f⟩; have fz := fz.trans f (fun _ _ e => e); have hb := hb.fr f (fun e => e); have c2 := f.cell c2 (fun e => e); have c4 := f.cell c4 (fun e => e); have c19 := f.cell c19 (fun e => e); have rpast := rpast.fr f (fun _ _ e => e); have rguards := rguards.fr f (fun _ _ e => e)) | (go_at_call 25; (with_reducible refine (ki.out _ fz).mono ?_); rintro _ v ⟨rfl, f⟩; have fz := fz.trans f (fun _ _ e => e); have hb := hb.fr f (fun e => e); have c2 := f.cell c2 (fun e => e); have c4 := f.cell c4 (fun e => e); have c19 := f.cell c19 (fun e => e); have rpast := rpast.fr f (fun _ _ e => e); have rguards := rguards.fr f (fun _ _ e => e)) | (go_at_call 26; (with_reducible refine (kl.out _ fz).mono ?_); rintro _ v ⟨rfl, f⟩; have fz := fz.trans f (fun _ _ e => e); have hb := hb.fr f (fun e => e); have c2 := f.cell c2 (fun e => e); have c4 := f.cell c4 (fun e => e); have c19 := f.cell c19 (fun e => e); have rpast := rpast.fr f (fun _ _ e => e); have rguards := rguards.fr f (fun _ _ e => e)))
    go_ret
    exact ⟨congrArg (fun z => Ending.returned (.int .i64 z)) hv.out, fz⟩
  rcases Bool.eq_false_or_eq_true (decide ((13 : Int) < kk)) with k13 | k13
  · have hv : Hid (1 = EC) := by show _ = _; rw [hchk.out, if_pos (Or.inr (of_decide_eq_true k13))]
    clear hchk
    go_enter Tryz.func8, Tryz.ntmps8
    go_wp2_with (first | (go_at_call 23; (with_reducible refine (kb'.out _).mono ?_); rintro _ v ⟨rfl, f⟩; have fz := fz.trans f (fun _ _ e => e); have hb := hb.fr f (fun e => e); have c2 := f.cell c2 (fun e => e); have c4 := f.cell c4 (fun e => e); have c19 := f.cell c19 (fun e => e); have rpast := rpast.fr f (fun _ _ e => e); have rguards := rguards.fr f (fun _ _ e => e)) | (go_at_call 24; (with_reducible refine (kn'.out _).mono ?_); rintro _ v ⟨rfl, f⟩; have fz := fz.trans f (fun _ _ e => e); have hb := hb.fr f (fun e => e); have c2 := f.cell c2 (fun e => e); have c4 := f.cell c4 (fun e => e); have c19 := f.cell c19 (fun e => e); have rpast := rpast.fr f (fun _ _ e => e); have rguards := rguards.fr f (fun _ _ e => e)) | (go_at_call 25; (with_reducible refine (ki.out _ fz).mono ?_); rintro _ v ⟨rfl, f⟩; have fz := fz.trans f (fun _ _ e => e); have hb := hb.fr f (fun e => e); have c2 := f.cell c2 (fun e => e); have c4 := f.cell c4 (fun e => e); have c19 := f.cell c19 (fun e => e); have rpast := rpast.fr f (fun _ _ e => e); have rguards := rguards.fr f (fun _ _ e => e)) | (go_at_call 26; (with_reducible refine (kl.out _ fz).mono ?_); rintro _ v ⟨rfl, f⟩; have fz := fz.trans f (fun _ _ e => e); have hb := hb.fr f (fun e => e); have c2 := f.cell c2 (fun e => e); have c4 := f.cell c4 (fun e => e); have c19 := f.cell c19 (fun e => e); have rpast := rpast.fr f (fun _ _ e => e); have rguards := rguards.fr f (fun _ _ e => e)))
    go_ret
    exact ⟨congrArg (fun z => Ending.returned (.int .i64 z)) hv.out, fz⟩
  replace hchk : Hid (EC = if bb = false then 1 else if nb = false then 8 else if ib = false then 8 else if lb = true then 2 else if (chain Id.less x.past && chain (fun a b => decide (a < b)) x.guards) = false then 6 else if decide (x.past = []) ≠ decide (kk = 1) then 10 else 0) := by show _ = _; rw [hchk.out, if_neg (by have a := of_decide_eq_false k1; have b := of_decide_eq_false k13; omega)]
  cases bb
  · have hv : Hid (1 = EC) := hchk.out.symm
    clear hchk
    go_enter Tryz.func8, Tryz.ntmps8
    go_wp2_with (first | (go_at_call 23; (with_reducible refine (kb'.out _).mono ?_); rintro _ v ⟨rfl, f⟩; have fz := fz.trans f (fun _ _ e => e); have hb := hb.fr f (fun e => e); have c2 := f.cell c2 (fun e => e); have c4 := f.cell c4 (fun e => e); have c19 := f.cell c19 (fun e => e); have rpast := rpast.fr f (fun _ _ e => e); have rguards := rguards.fr f (fun _ _ e => e)) | (go_at_call 24; (with_reducible refine (kn'.out _).mono ?_); rintro _ v ⟨rfl, f⟩; have fz := fz.trans f (fun _ _ e => e); have hb := hb.fr f (fun e => e); have c2 := f.cell c2 (fun e => e); have c4 := f.cell c4 (fun e => e); have c19 := f.cell c19 (fun e => e); have rpast := rpast.fr f (fun _ _ e => e); have rguards := rguards.fr f (fun _ _ e => e)) | (go_at_call 25; (with_reducible refine (ki.out _ fz).mono ?_); rintro _ v ⟨rfl, f⟩; have fz := fz.trans f (fun _ _ e => e); have hb := hb.fr f (fun e => e); have c2 := f.cell c2 (fun e => e); have c4 := f.cell c4 (fun e => e); have c19 := f.cell c19 (fun e => e); have rpast := rpast.fr f (fun _ _ e => e); have rguards := rguards.fr f (fun _ _ e => e)) | (go_at_call 26; (with_reducible refine (kl.out _ fz).mono ?_); rintro _ v ⟨rfl, f⟩; have fz := fz.trans f (fun _ _ e => e); have hb := hb.fr f (fun e => e); have c2 := f.cell c2 (fun e => e); have c4 := f.cell c4 (fun e => e); have c19 := f.cell c19 (fun e => e); have rpast := rpast.fr f (fun _ _ e => e); have rguards := rguards.fr f (fun _ _ e => e)))
    go_ret
    exact ⟨congrArg (fun z => Ending.returned (.int .i64 z)) hv.out, fz⟩
  cases nb
  · have hv : Hid (8 = EC) := hchk.out.symm
    clear hchk
    go_enter Tryz.func8, Tryz.ntmps8
    go_wp2_with (first | (go_at_call 23; (with_reducible refine (kb'.out _).mono ?_); rintro _ v ⟨rfl, f⟩; have fz := fz.trans f (fun _ _ e => e); have hb := hb.fr f (fun e => e); have c2 := f.cell c2 (fun e => e); have c4 := f.cell c4 (fun e => e); have c19 := f.cell c19 (fun e => e); have rpast := rpast.fr f (fun _ _ e => e); have rguards := rguards.fr f (fun _ _ e => e)) | (go_at_call 24; (with_reducible refine (kn'.out _).mono ?_); rintro _ v ⟨rfl, f⟩; have fz := fz.trans f (fun _ _ e => e); have hb := hb.fr f (fun e => e); have c2 := f.cell c2 (fun e => e); have c4 := f.cell c4 (fun e => e); have c19 := f.cell c19 (fun e => e); have rpast := rpast.fr f (fun _ _ e => e); have rguards := rguards.fr f (fun _ _ e => e)) | (go_at_call 25; (with_reducible refine (ki.out _ fz).mono ?_); rintro _ v ⟨rfl, f⟩; have fz := fz.trans f (fun _ _ e => e); have hb := hb.fr f (fun e => e); have c2 := f.cell c2 (fun e => e); have c4 := f.cell c4 (fun e => e); have c19 := f.cell c19 (fun e => e); have rpast := rpast.fr f (fun _ _ e => e); have rguards := rguards.fr f (fun _ _ e => e)) | (go_at_call 26; (with_reducible refine (kl.out _ fz).mono ?_); rintro _ v ⟨rfl, f⟩; have fz := fz.trans f (fun _ _ e => e); have hb := hb.fr f (fun e => e); have c2 := f.cell c2 (fun e => e); have c4 := f.cell c4 (fun e => e); have c19 := f.cell c19 (fun e => e); have rpast := rpast.fr f (fun _ _ e => e); have rguards := rguards.fr f (fun _ _ e => e)))
    go_ret
    exact ⟨congrArg (fun z => Ending.returned (.int .i64 z)) hv.out, fz⟩
  cases ib
  · have hv : Hid (8 = EC) := hchk.out.symm
    clear hchk
    go_enter Tryz.func8, Tryz.ntmps8
    go_wp2_with (first | (go_at_call 23; (with_reducible refine (kb'.out _).mono ?_); rintro _ v ⟨rfl, f⟩; have fz := fz.trans f (fun _ _ e => e); have hb := hb.fr f (fun e => e); have c2 := f.cell c2 (fun e => e); have c4 := f.cell c4 (fun e => e); have c19 := f.cell c19 (fun e => e); have rpast := rpast.fr f (fun _ _ e => e); have rguards := rguards.fr f (fun _ _ e => e)) | (go_at_call 24; (with_reducible refine (kn'.out _).mono ?_); rintro _ v ⟨rfl, f⟩; have fz := fz.trans f (fun _ _ e => e); have hb := hb.fr f (fun e => e); have c2 := f.cell c2 (fun e => e); have c4 := f.cell c4 (fun e => e); have c19 := f.cell c19 (fun e => e); have rpast := rpast.fr f (fun _ _ e => e); have rguards := rguards.fr f (fun _ _ e => e)) | (go_at_call 25; (with_reducible refine (ki.out _ fz).mono ?_); rintro _ v ⟨rfl, f⟩; have fz := fz.trans f (fun _ _ e => e); have hb := hb.fr f (fun e => e); have c2 := f.cell c2 (fun e => e); have c4 := f.cell c4 (fun e => e); have c19 := f.cell c19 (fun e => e); have rpast := rpast.fr f (fun _ _ e => e); have rguards := rguards.fr f (fun _ _ e => e)) | (go_at_call 26; (with_reducible refine (kl.out _ fz).mono ?_); rintro _ v ⟨rfl, f⟩; have fz := fz.trans f (fun _ _ e => e); have hb := hb.fr f (fun e => e); have c2 := f.cell c2 (fun e => e); have c4 := f.cell c4 (fun e => e); have c19 := f.cell c19 (fun e => e); have rpast := rpast.fr f (fun _ _ e => e); have rguards := rguards.fr f (fun _ _ e => e)))
    go_ret
    exact ⟨congrArg (fun z => Ending.returned (.int .i64 z)) hv.out, fz⟩
  cases lb
  rotate_left
  · have hv : Hid (2 = EC) := hchk.out.symm
    clear hchk
    go_enter Tryz.func8, Tryz.ntmps8
    go_wp2_with (first | (go_at_call 23; (with_reducible refine (kb'.out _).mono ?_); rintro _ v ⟨rfl, f⟩; have fz := fz.trans f (fun _ _ e => e); have hb := hb.fr f (fun e => e); have c2 := f.cell c2 (fun e => e); have c4 := f.cell c4 (fun e => e); have c19 := f.cell c19 (fun e => e); have rpast := rpast.fr f (fun _ _ e => e); have rguards := rguards.fr f (fun _ _ e => e)) | (go_at_call 24; (with_reducible refine (kn'.out _).mono ?_); rintro _ v ⟨rfl, f⟩; have fz := fz.trans f (fun _ _ e => e); have hb := hb.fr f (fun e => e); have c2 := f.cell c2 (fun e => e); have c4 := f.cell c4 (fun e => e); have c19 := f.cell c19 (fun e => e); have rpast := rpast.fr f (fun _ _ e => e); have rguards := rguards.fr f (fun _ _ e => e)) | (go_at_call 25; (with_reducible refine (ki.out _ fz).mono ?_); rintro _ v ⟨rfl, f⟩; have fz := fz.trans f (fun _ _ e => e); have hb := hb.fr f (fun e => e); have c2 := f.cell c2 (fun e => e); have c4 := f.cell c4 (fun e => e); have c19 := f.cell c19 (fun e => e); have rpast := rpast.fr f (fun _ _ e => e); have rguards := rguards.fr f (fun _ _ e => e)) | (go_at_call 26; (with_reducible refine (kl.out _ fz).mono ?_); rintro _ v ⟨rfl, f⟩; have fz := fz.trans f (fun _ _ e => e); have hb := hb.fr f (fun e => e); have c2 := f.cell c2 (fun e => e); have c4 := f.cell c4 (fun e => e); have c19 := f.cell c19 (fun e => e); have rpast := rpast.fr f (fun _ _ e => e); have rguards := rguards.fr f (fun _ _ e => e)))
    go_ret
    exact ⟨congrArg (fun z => Ending.returned (.int .i64 z)) hv.out, fz⟩
  replace hchk : Hid (EC = if (chain Id.less x.past && chain (fun a b => decide (a < b)) x.guards) = false then 6 else if decide (x.past = []) ≠ decide (kk = 1) then 10 else 0) := hchk
  go_enter Tryz.func8, Tryz.ntmps8
  go_wp2_with (first | (go_at_call 23; (with_reducible refine (kb'.out _).mono ?_); rintro _ v ⟨rfl, f⟩; have fz := fz.trans f (fun _ _ e => e); have hb := hb.fr f (fun e => e); have c2 := f.cell c2 (fun e => e); have c4 := f.cell c4 (fun e => e); have c19 := f.cell c19 (fun e => e); have rpast := rpast.fr f (fun _ _ e => e); have rguards := rguards.fr f (fun _ _ e => e)) | (go_at_call 24; (with_reducible refine (kn'.out _).mono ?_); rintro _ v ⟨rfl, f⟩; have fz := fz.trans f (fun _ _ e => e); have hb := hb.fr f (fun e => e); have c2 := f.cell c2 (fun e => e); have c4 := f.cell c4 (fun e => e); have c19 := f.cell c19 (fun e => e); have rpast := rpast.fr f (fun _ _ e => e); have rguards := rguards.fr f (fun _ _ e => e)) | (go_at_call 25; (with_reducible refine (ki.out _ fz).mono ?_); rintro _ v ⟨rfl, f⟩; have fz := fz.trans f (fun _ _ e => e); have hb := hb.fr f (fun e => e); have c2 := f.cell c2 (fun e => e); have c4 := f.cell c4 (fun e => e); have c19 := f.cell c19 (fun e => e); have rpast := rpast.fr f (fun _ _ e => e); have rguards := rguards.fr f (fun _ _ e => e)) | (go_at_call 26; (with_reducible refine (kl.out _ fz).mono ?_); rintro _ v ⟨rfl, f⟩; have fz := fz.trans f (fun _ _ e => e); have hb := hb.fr f (fun e => e); have c2 := f.cell c2 (fun e => e); have c4 := f.cell c4 (fun e => e); have c19 := f.cell c19 (fun e => e); have rpast := rpast.fr f (fun _ _ e => e); have rguards := rguards.fr f (fun _ _ e => e)))
  generalize hgv : v = v1 at *
  go_loopw [3] (fun v wr => ∃ (i : Nat), v = .int .i64 ((i : Int) + 1) ∧ Hid (chain Id.less (x.past.take (i + 1)) = true) ∧ (i = 0 ∨ i + 1 ≤ np) ∧ Fr Non v1 wr) (fun v _ => np + 1 - (intOf v).toNat)
  case atStart => exact ⟨0, rfl, chain_one _ _, Or.inl rfl, Fr.refl _ _⟩
  case round =>
    obtain ⟨i, rfl, hrb, hi, hf⟩ := hrel
    by_cases hlt : i + 1 < np
    · have n1 : (i : Int) + 1 < np := by omega
      have n2 : (0 : Int) ≤ i := by omega
      have n3 : (i : Int) < np := by omega
      have n4 : (i : Int).toNat = i := by omega
      have n5 : IntKind.i64.wrap ((i : Int) + 1) = (i : Int) + 1 := IntWalk.i64_in _ (by omega)
      have n6 : (0 : Int) ≤ (i : Int) + 1 := by omega
      have n8 : ((i : Int) + 1).toNat = i + 1 := by omega
      have n9 : (i : Int) + 1 - 1 = i := by omega
      have n10 : IntKind.i64.wrap (i : Int) = (i : Int) := IntWalk.i64_in _ (by omega)
      obtain ⟨y, hy⟩ : ∃ y, x.past[i]? = some y := ⟨_, List.getElem?_eq_getElem (by rw [hnp.out]; omega)⟩
      obtain ⟨z, hz⟩ : ∃ z, x.past[i + 1]? = some z := ⟨_, List.getElem?_eq_getElem (by rw [hnp.out]; omega)⟩
      obtain ⟨b, off, hA, hbB, e0, e1, e2⟩ := Id.at (rpast.fr hf (fun _ _ e => e)) hy
      obtain ⟨b', off', hA', hbB', g0, g1, g2⟩ := Id.at (rpast.fr hf (fun _ _ e => e)) hz
      rw [hA] at hA'
      obtain ⟨rfl, rfl⟩ : b = b' ∧ off = off' := by cases hA'; exact ⟨rfl, rfl⟩
      clear hA' hbB'
      have cc := hf.cell c4 (fun e => e)
      rw [hA] at cc
      have hsn : Hid (chain Id.less (x.past.take (i + 2)) = (chain Id.less (x.past.take (i + 1)) && Id.less y z)) := chain_snoc Id.less x.past hy hz
      have hno : Hid (Id.less y z = false → chain Id.less x.past = false) := chain_bad Id.less x.past hy hz
      have hlim : i + 2 ≤ np := by omega
      have kL := Lib.hid (fun w' => less11_any y z w')
      generalize Id.less y z = lyz at *
      clear hy hz hi hlt hA
      go_upto_region 12 with (fail)
      refine wp_region_held_drew (S := (fun w' => w'.cell? ⟨w.heap.size, 4, none⟩ = some (.slice (some ⟨b, off, none⟩) np x.pastC) ∧ w'.cell? ⟨b, off + i * 3, none⟩ = some (.int .i64 y.b) ∧ w'.cell? ⟨b, off + i * 3 + 1, none⟩ = some (.int .i64 y.s) ∧ w'.cell? ⟨b, off + i * 3 + 2, none⟩ = some (.int .u64 (y.u : Int)) ∧ w'.cell? ⟨b, off + (i + 1) * 3, none⟩ = some (.int .i64 z.b) ∧ w'.cell? ⟨b, off + (i + 1) * 3 + 1, none⟩ = some (.int .i64 z.s) ∧ w'.cell? ⟨b, off + (i + 1) * 3 + 2, none⟩ = some (.int .u64 (z.u : Int)))) (by kernel_rfl) ⟨cc, e0, e1, e2, g0, g1, g2⟩ (fun hHeld => ?_)
      clear hHeld
      have hSr : (fun w' => w'.cell? ⟨w.heap.size, 4, none⟩ = some (.slice (some ⟨b, off, none⟩) np x.pastC) ∧ w'.cell? ⟨b, off + i * 3, none⟩ = some (.int .i64 y.b) ∧ w'.cell? ⟨b, off + i * 3 + 1, none⟩ = some (.int .i64 y.s) ∧ w'.cell? ⟨b, off + i * 3 + 2, none⟩ = some (.int .u64 (y.u : Int)) ∧ w'.cell? ⟨b, off + (i + 1) * 3, none⟩ = some (.int .i64 z.b) ∧ w'.cell? ⟨b, off + (i + 1) * 3 + 1, none⟩ = some (.int .i64 z.s) ∧ w'.cell? ⟨b, off + (i + 1) * 3 + 2, none⟩ = some (.int .u64 (z.u : Int))) wr.drew := ⟨cc, e0, e1, e2, g0, g1, g2⟩
      replace hf := hf.drew
      clear cc e0 e1 e2 g0 g1 g2
      generalize wr.drew = wq at *
      refine wpAnyH_takeL (i := 0) (v := ?_) rfl (by kernel_rfl) (by kernel_rfl) (by kernel_rfl) (fun _ _ _ h => h) (Or.inl ⟨by kernel_rfl, ?_⟩) hSr ?_
      rotate_left
      focus (intro w' hSw; (try dsimp only at hSw); go_simp; (try with_reducible rfl))
      simp only [List.set]
      refine wpAnyH_takeL (i := 1) (v := ?_) rfl (by kernel_rfl) (by kernel_rfl) (by kernel_rfl) (fun _ _ _ h => h) (Or.inl ⟨by kernel_rfl, ?_⟩) hSr ?_
      rotate_left
      focus (intro w' hSw; (try dsimp only at hSw); go_simp; (try with_reducible rfl))
      simp only [List.set]
      refine wpAnyH_takeL (i := 2) (v := ?_) rfl (by kernel_rfl) (by kernel_rfl) (by kernel_rfl) (fun _ _ _ h => h) (Or.inl ⟨by kernel_rfl, ?_⟩) hSr ?_
      rotate_left
      focus (intro w' hSw; (try dsimp only at hSw); go_simp; (try with_reducible rfl))
      simp only [List.set]
      refine wpAnyH_takeL (i := 3) (v := ?_) rfl (by kernel_rfl) (by kernel_rfl) (by kernel_rfl) (fun _ _ _ h => h) (Or.inl ⟨by kernel_rfl, ?_⟩) hSr ?_
      rotate_left
      focus (intro w' hSw; (try dsimp only at hSw); go_simp; (try with_reducible rfl))
      simp only [List.set]
      refine wpAnyH_takeL (i := 4) (v := ?_) rfl (by kernel_rfl) (by kernel_rfl) (by kernel_rfl) (fun _ _ _ h => h) (Or.inl ⟨by kernel_rfl, ?_⟩) hSr ?_
      rotate_left
      focus (intro w' hSw; (try dsimp only at hSw); go_simp; (try with_reducible rfl))
      simp only [List.set]
      refine wpAnyH_takeL (i := 5) (v := ?_) rfl (by kernel_rfl) (by kernel_rfl) (by kernel_rfl) (fun _ _ _ h => h) (Or.inl ⟨by kernel_rfl, ?_⟩) hSr ?_
      rotate_left
      focus (intro w' hSw; (try dsimp only at hSw); go_simp; (try with_reducible rfl))
      simp only [List.set]
      refine wpAnyH_takeL (i := 6) (v := ?_) rfl (by kernel_rfl) (by kernel_rfl) (by kernel_rfl) (fun _ _ _ h => h) (Or.inl ⟨by kernel_rfl, ?_⟩) hSr ?_
      rotate_left
      focus (intro w' hSw; (try dsimp only at hSw); go_simp; (try with_reducible rfl))
      simp only [List.set]
      refine wpAnyH_takeL (i := 7) (v := ?_) rfl (by kernel_rfl) (by kernel_rfl) (by kernel_rfl) (fun _ _ _ h => h) (Or.inl ⟨by kernel_rfl, ?_⟩) hSr ?_
      rotate_left
      focus (intro w' hSw; (try dsimp only at hSw); go_simp; (try with_reducible rfl))
      simp only [List.set]
      refine wpAnyH_takeL (i := 8) (v := ?_) rfl (by kernel_rfl) (by kernel_rfl) (by kernel_rfl) (fun _ _ _ h => h) (Or.inl ⟨by kernel_rfl, ?_⟩) hSr ?_
      rotate_left
      focus (intro w' hSw; (try dsimp only at hSw); go_simp; (try with_reducible rfl))
      simp only [List.set]
      refine wpAnyH_takeL (i := 9) (v := ?_) rfl (by kernel_rfl) (by kernel_rfl) (by kernel_rfl) (fun _ _ _ h => h) (Or.inl ⟨by kernel_rfl, ?_⟩) hSr ?_
      rotate_left
      focus (intro w' hSw; (try dsimp only at hSw); go_simp; (try with_reducible rfl))
      simp only [List.set]
      refine wpAnyH_takeL (i := 10) (v := ?_) rfl (by kernel_rfl) (by kernel_rfl) (by kernel_rfl) (fun _ _ _ h => h) (Or.inl ⟨by kernel_rfl, ?_⟩) hSr ?_
      rotate_left
      focus (intro w' hSw; (try dsimp only at hSw); go_simp; (try with_reducible rfl))
      simp only [List.set]
      refine wpAnyH_onlyG 11 (by kernel_rfl) rfl (by kernel_rfl) (fun K hK => ?_)
      go_simp
      go_wp2_with (go_at_call 27; (with_reducible refine (kL.out _).mono ?_); rintro _ w3 ⟨rfl, f3⟩)
      have hS3 : (fun w' => w'.cell? ⟨w.heap.size, 4, none⟩ = some (.slice (some ⟨b, off, none⟩) np x.pastC) ∧ w'.cell? ⟨b, off + i * 3, none⟩ = some (.int .i64 y.b) ∧ w'.cell? ⟨b, off + i * 3 + 1, none⟩ = some (.int .i64 y.s) ∧ w'.cell? ⟨b, off + i * 3 + 2, none⟩ = some (.int .u64 (y.u : Int)) ∧ w'.cell? ⟨b, off + (i + 1) * 3, none⟩ = some (.int .i64 z.b) ∧ w'.cell? ⟨b, off + (i + 1) * 3 + 1, none⟩ = some (.int .i64 z.s) ∧ w'.cell? ⟨b, off + (i + 1) * 3 + 2, none⟩ = some (.int .u64 (z.u : Int))) w3 := ⟨f3.cell hSr.1 (fun e => e), f3.cell hSr.2.1 (fun e => e), f3.cell hSr.2.2.1 (fun e => e), f3.cell hSr.2.2.2.1 (fun e => e), f3.cell hSr.2.2.2.2.1 (fun e => e), f3.cell hSr.2.2.2.2.2.1 (fun e => e), f3.cell hSr.2.2.2.2.2.2 (fun e => e)⟩
      refine hK.out _ _ hS3 (fun _ => ?_)
      clear hK K
      try simp only [put_lit', List.set]
      replace hf := hf.trans f3 (fun _ _ e => e)
      cases lyz
      · have hv : Hid (6 = EC) := by show _ = _; rw [hchk.out, if_pos (by rw [hno.out rfl]; rfl)]
        clear hchk hno hsn
        refine wpAnyH_takeL (i := 12) (v := ?_) rfl (by kernel_rfl) (by kernel_rfl) (by kernel_rfl) (fun _ _ _ h => h) (Or.inl ⟨by kernel_rfl, ?_⟩) hS3 ?_
        rotate_left
        focus (intro w' hSw; (try dsimp only at hSw); go_simp; (try with_reducible rfl))
        simp only [List.set]
        refine wpAnyH_done (by kernel_rfl) ?_ _
        go_simp
        go_wp2_with (fail)
        go_ret
        exact ⟨congrArg (fun z => Ending.returned (.int .i64 z)) hv.out, fz.trans hf (fun _ _ e => e)⟩
      · have hrb' : Hid (chain Id.less (x.past.take (i + 2)) = true) := by show _ = _; rw [hsn.out, hrb.out]; rfl
        clear hrb hsn hno
        refine wpAnyH_takeL (i := 12) (v := ?_) rfl (by kernel_rfl) (by kernel_rfl) (by kernel_rfl) (fun _ _ _ h => h) (Or.inl ⟨by kernel_rfl, ?_⟩) hS3 ?_
        rotate_left
        focus (intro w' hSw; (try dsimp only at hSw); go_simp; (try with_reducible rfl))
        simp only [List.set]
        refine wpAnyH_done (by kernel_rfl) ?_ _
        go_simp
        go_wp2_with (fail)
        go_roundw
        case rel => exact ⟨i + 1, by first | rfl | go_num, hrb', Or.inr hlim, hf⟩
        case measure => simp [intOf]; omega
    · have n1 : ¬ ((i : Int) + 1 < np) := by omega
      have hpa : chain Id.less x.past = true := by have h := hrb.out; rw [List.take_of_length_le (by rw [hnp.out]; omega)] at h; exact h
      replace hchk : Hid (EC = if chain (fun a b => decide (a < b)) x.guards = false then 6 else if decide (x.past = []) ≠ decide (kk = 1) then 10 else 0) := by show _ = _; rw [hchk.out, hpa, Bool.true_and]
      have e19 := hf.cell c19 (fun e => e)
      have e4 := hf.cell c4 (fun e => e)
      have e2 := hf.cell c2 (fun e => e)
      replace rguards := rguards.fr hf (fun _ _ e => e)
      replace fz := fz.trans hf (fun _ _ e => e)
      clear hrb hpa rpast hlt hi c19 c4 c2 hf hb
      generalize hgw : wr = v2 at *
      go_wp2_with (fail)
      go_loopw [4] (fun v wr => ∃ (i : Nat), v = .int .i64 ((i : Int) + 1) ∧ Hid (chain (fun a b => decide (a < b)) (x.guards.take (i + 1)) = true) ∧ (i = 0 ∨ i + 1 ≤ ng) ∧ Fr Non v2 wr) (fun v _ => ng + 1 - (intOf v).toNat)
      case atStart => exact ⟨0, rfl, chain_one _ _, Or.inl rfl, Fr.refl _ _⟩
      case round =>
        obtain ⟨i, rfl, hrc, hi, hf⟩ := hrel
        by_cases hlt : i + 1 < ng
        · have n1 : (i : Int) + 1 < ng := by omega
          have n2 : (0 : Int) ≤ i := by omega
          have n3 : (i : Int) < ng := by omega
          have n4 : (i : Int).toNat = i := by omega
          have n5 : IntKind.i64.wrap ((i : Int) + 1) = (i : Int) + 1 := IntWalk.i64_in _ (by omega)
          have n6 : (0 : Int) ≤ (i : Int) + 1 := by omega
          have n8 : ((i : Int) + 1).toNat = i + 1 := by omega
          have n9 : (i : Int) + 1 - 1 = i := by omega
          have n10 : IntKind.i64.wrap (i : Int) = (i : Int) := IntWalk.i64_in _ (by omega)
          obtain ⟨y, hy⟩ : ∃ y, x.guards[i]? = some y := ⟨_, List.getElem?_eq_getElem (by rw [hng.out]; omega)⟩
          obtain ⟨z, hz⟩ : ∃ z, x.guards[i + 1]? = some z := ⟨_, List.getElem?_eq_getElem (by rw [hng.out]; omega)⟩
          obtain ⟨b, off, u, hA, hbB, hu, e0⟩ := (rguards.fr hf (fun _ _ e => e)).at (show i < ng by omega)
          obtain ⟨b', off', u', hA', hbB', hu', g0⟩ := (rguards.fr hf (fun _ _ e => e)).at (show i + 1 < ng by omega)
          rw [List.getElem?_map, hy] at hu
          rw [List.getElem?_map, hz] at hu'
          obtain rfl := (Option.some.inj hu).symm
          obtain rfl := (Option.some.inj hu').symm
          rw [hA] at hA'
          obtain ⟨rfl, rfl⟩ : b = b' ∧ off = off' := by cases hA'; exact ⟨rfl, rfl⟩
          replace e0 : wr.cell? ⟨b, off + i, none⟩ = some (.int .i64 y) := e0
          replace g0 : wr.cell? ⟨b, off + (i + 1), none⟩ = some (.int .i64 z) := g0
          clear hA' hbB' hu hu'
          have cc := hf.cell e19 (fun e => e)
          rw [hA] at cc
          have hsn : Hid (chain (fun a b => decide (a < b)) (x.guards.take (i + 2)) = (chain (fun a b => decide (a < b)) (x.guards.take (i + 1)) && decide (y < z))) := chain_snoc (fun (a b : Int) => decide (a < b)) x.guards hy hz
          have hno : Hid (decide (y < z) = false → chain (fun (a b : Int) => decide (a < b)) x.guards = false) := chain_bad (fun (a b : Int) => decide (a < b)) x.guards hy hz
          have hlim : i + 2 ≤ ng := by omega
          clear hy hz hi hlt hA
          go_upto_region 17 with (fail)
          refine wp_region_held_drew (S := (fun w' => w'.cell? ⟨w.heap.size, 19, none⟩ = some (.slice (some ⟨b, off, none⟩) ng x.guardsC) ∧ w'.cell? ⟨b, off + i, none⟩ = some (.int .i64 y) ∧ w'.cell? ⟨b, off + (i + 1), none⟩ = some (.int .i64 z))) (by kernel_rfl) ⟨cc, e0, g0⟩ (fun hHeld => ?_)
          clear hHeld
          have hSr : (fun w' => w'.cell? ⟨w.heap.size, 19, none⟩ = some (.slice (some ⟨b, off, none⟩) ng x.guardsC) ∧ w'.cell? ⟨b, off + i, none⟩ = some (.int .i64 y) ∧ w'.cell? ⟨b, off + (i + 1), none⟩ = some (.int .i64 z)) wr.drew := ⟨cc, e0, g0⟩
          replace hf := hf.drew
          clear cc e0 g0
          generalize wr.drew = wq at *
          by_cases t : y < z
          · have hrc' : Hid (chain (fun a b => decide (a < b)) (x.guards.take (i + 2)) = true) := by show _ = _; rw [hsn.out, hrc.out, decide_eq_true t]; rfl
            have t1 : decide (z ≤ y) = false := decide_eq_false (by omega)
            have t2 : decide (y ≥ z) = false := t1
            clear hrc hsn hno t
            refine wpAnyH_takeL (i := 0) (v := ?_) rfl (by kernel_rfl) (by kernel_rfl) (by kernel_rfl) (fun _ _ _ h => h) (Or.inl ⟨by kernel_rfl, ?_⟩) hSr ?_
            rotate_left
            focus (intro w' hSw; (try dsimp only at hSw); go_simp; (try with_reducible rfl))
            simp only [List.set]
            refine wpAnyH_takeL (i := 1) (v := ?_) rfl (by kernel_rfl) (by kernel_rfl) (by kernel_rfl) (fun _ _ _ h => h) (Or.inl ⟨by kernel_rfl, ?_⟩) hSr ?_
            rotate_left
            focus (intro w' hSw; (try dsimp only at hSw); go_simp; (try with_reducible rfl))
            simp only [List.set]
            refine wpAnyH_takeL (i := 2) (v := ?_) rfl (by kernel_rfl) (by kernel_rfl) (by kernel_rfl) (fun _ _ _ h => h) (Or.inl ⟨by kernel_rfl, ?_⟩) hSr ?_
            rotate_left
            focus (intro w' hSw; (try dsimp only at hSw); go_simp; (try with_reducible rfl))
            simp only [List.set]
            refine wpAnyH_takeL (i := 3) (v := ?_) rfl (by kernel_rfl) (by kernel_rfl) (by kernel_rfl) (fun _ _ _ h => h) (Or.inl ⟨by kernel_rfl, ?_⟩) hSr ?_
            rotate_left
            focus (intro w' hSw; (try dsimp only at hSw); go_simp; (try with_reducible rfl))
            simp only [List.set]
            refine wpAnyH_takeL (i := 4) (v := ?_) rfl (by kernel_rfl) (by kernel_rfl) (by kernel_rfl) (fun _ _ _ h => h) (Or.inl ⟨by kernel_rfl, ?_⟩) hSr ?_
            rotate_left
            focus (intro w' hSw; (try dsimp only at hSw); go_simp; (try with_reducible rfl))
            simp only [List.set]
            refine wpAnyH_takeL (i := 5) (v := ?_) rfl (by kernel_rfl) (by kernel_rfl) (by kernel_rfl) (fun _ _ _ h => h) (Or.inl ⟨by kernel_rfl, ?_⟩) hSr ?_
            rotate_left
            focus (intro w' hSw; (try dsimp only at hSw); go_simp; (try with_reducible rfl))
            simp only [List.set]
            refine wpAnyH_takeL (i := 6) (v := ?_) rfl (by kernel_rfl) (by kernel_rfl) (by kernel_rfl) (fun _ _ _ h => h) (Or.inl ⟨by kernel_rfl, ?_⟩) hSr ?_
            rotate_left
            focus (intro w' hSw; (try dsimp only at hSw); go_simp; (try with_reducible rfl))
            simp only [List.set]
            refine wpAnyH_takeL (i := 7) (v := ?_) rfl (by kernel_rfl) (by kernel_rfl) (by kernel_rfl) (fun _ _ _ h => h) (Or.inl ⟨by kernel_rfl, ?_⟩) hSr ?_
            rotate_left
            focus (intro w' hSw; (try dsimp only at hSw); go_simp; (try with_reducible rfl))
            simp only [List.set]
            refine wpAnyH_takeL (i := 8) (v := ?_) rfl (by kernel_rfl) (by kernel_rfl) (by kernel_rfl) (fun _ _ _ h => h) (Or.inl ⟨by kernel_rfl, ?_⟩) hSr ?_
            rotate_left
            focus (intro w' hSw; (try dsimp only at hSw); go_simp; (try with_reducible rfl))
            simp only [List.set]
            refine wpAnyH_takeL (i := 9) (v := ?_) rfl (by kernel_rfl) (by kernel_rfl) (by kernel_rfl) (fun _ _ _ h => h) (Or.inl ⟨by kernel_rfl, ?_⟩) hSr ?_
            rotate_left
            focus (intro w' hSw; (try dsimp only at hSw); go_simp; (try with_reducible rfl))
            simp only [List.set]
            refine wpAnyH_takeL (i := 10) (v := ?_) rfl (by kernel_rfl) (by kernel_rfl) (by kernel_rfl) (fun _ _ _ h => h) (Or.inl ⟨by kernel_rfl, ?_⟩) hSr ?_
            rotate_left
            focus (intro w' hSw; (try dsimp only at hSw); go_simp; (try with_reducible rfl))
            simp only [List.set]
            refine wpAnyH_takeL (i := 11) (v := ?_) rfl (by kernel_rfl) (by kernel_rfl) (by kernel_rfl) (fun _ _ _ h => h) (Or.inl ⟨by kernel_rfl, ?_⟩) hSr ?_
            rotate_left
            focus (intro w' hSw; (try dsimp only at hSw); go_simp; (try with_reducible rfl))
            simp only [List.set]
            refine wpAnyH_done (by kernel_rfl) ?_ _
            go_simp
            go_wp2_with (fail)
            go_roundw
            case rel => exact ⟨i + 1, by first | rfl | go_num, hrc', Or.inr hlim, hf⟩
            case measure => simp [intOf]; omega
          · have hv : Hid (6 = EC) := by show _ = _; rw [hchk.out, if_pos (by rw [hno.out (decide_eq_false (by omega))])]
            have t1 : decide (z ≤ y) = true := decide_eq_true (by omega)
            have t2 : decide (y ≥ z) = true := t1
            clear hchk hsn hno t
            refine wpAnyH_takeL (i := 0) (v := ?_) rfl (by kernel_rfl) (by kernel_rfl) (by kernel_rfl) (fun _ _ _ h => h) (Or.inl ⟨by kernel_rfl, ?_⟩) hSr ?_
            rotate_left
            focus (intro w' hSw; (try dsimp only at hSw); go_simp; (try with_reducible rfl))
            simp only [List.set]
            refine wpAnyH_takeL (i := 1) (v := ?_) rfl (by kernel_rfl) (by kernel_rfl) (by kernel_rfl) (fun _ _ _ h => h) (Or.inl ⟨by kernel_rfl, ?_⟩) hSr ?_
            rotate_left
            focus (intro w' hSw; (try dsimp only at hSw); go_simp; (try with_reducible rfl))
            simp only [List.set]
            refine wpAnyH_takeL (i := 2) (v := ?_) rfl (by kernel_rfl) (by kernel_rfl) (by kernel_rfl) (fun _ _ _ h => h) (Or.inl ⟨by kernel_rfl, ?_⟩) hSr ?_
            rotate_left
            focus (intro w' hSw; (try dsimp only at hSw); go_simp; (try with_reducible rfl))
            simp only [List.set]
            refine wpAnyH_takeL (i := 3) (v := ?_) rfl (by kernel_rfl) (by kernel_rfl) (by kernel_rfl) (fun _ _ _ h => h) (Or.inl ⟨by kernel_rfl, ?_⟩) hSr ?_
            rotate_left
            focus (intro w' hSw; (try dsimp only at hSw); go_simp; (try with_reducible rfl))
            simp only [List.set]
            refine wpAnyH_takeL (i := 4) (v := ?_) rfl (by kernel_rfl) (by kernel_rfl) (by kernel_rfl) (fun _ _ _ h => h) (Or.inl ⟨by kernel_rfl, ?_⟩) hSr ?_
            rotate_left
            focus (intro w' hSw; (try dsimp only at hSw); go_simp; (try with_reducible rfl))
            simp only [List.set]
            refine wpAnyH_takeL (i := 5) (v := ?_) rfl (by kernel_rfl) (by kernel_rfl) (by kernel_rfl) (fun _ _ _ h => h) (Or.inl ⟨by kernel_rfl, ?_⟩) hSr ?_
            rotate_left
            focus (intro w' hSw; (try dsimp only at hSw); go_simp; (try with_reducible rfl))
            simp only [List.set]
            refine wpAnyH_takeL (i := 6) (v := ?_) rfl (by kernel_rfl) (by kernel_rfl) (by kernel_rfl) (fun _ _ _ h => h) (Or.inl ⟨by kernel_rfl, ?_⟩) hSr ?_
            rotate_left
            focus (intro w' hSw; (try dsimp only at hSw); go_simp; (try with_reducible rfl))
            simp only [List.set]
            refine wpAnyH_takeL (i := 7) (v := ?_) rfl (by kernel_rfl) (by kernel_rfl) (by kernel_rfl) (fun _ _ _ h => h) (Or.inl ⟨by kernel_rfl, ?_⟩) hSr ?_
            rotate_left
            focus (intro w' hSw; (try dsimp only at hSw); go_simp; (try with_reducible rfl))
            simp only [List.set]
            refine wpAnyH_takeL (i := 8) (v := ?_) rfl (by kernel_rfl) (by kernel_rfl) (by kernel_rfl) (fun _ _ _ h => h) (Or.inl ⟨by kernel_rfl, ?_⟩) hSr ?_
            rotate_left
            focus (intro w' hSw; (try dsimp only at hSw); go_simp; (try with_reducible rfl))
            simp only [List.set]
            refine wpAnyH_takeL (i := 9) (v := ?_) rfl (by kernel_rfl) (by kernel_rfl) (by kernel_rfl) (fun _ _ _ h => h) (Or.inl ⟨by kernel_rfl, ?_⟩) hSr ?_
            rotate_left
            focus (intro w' hSw; (try dsimp only at hSw); go_simp; (try with_reducible rfl))
            simp only [List.set]
            refine wpAnyH_takeL (i := 10) (v := ?_) rfl (by kernel_rfl) (by kernel_rfl) (by kernel_rfl) (fun _ _ _ h => h) (Or.inl ⟨by kernel_rfl, ?_⟩) hSr ?_
            rotate_left
            focus (intro w' hSw; (try dsimp only at hSw); go_simp; (try with_reducible rfl))
            simp only [List.set]
            refine wpAnyH_takeL (i := 11) (v := ?_) rfl (by kernel_rfl) (by kernel_rfl) (by kernel_rfl) (fun _ _ _ h => h) (Or.inl ⟨by kernel_rfl, ?_⟩) hSr ?_
            rotate_left
            focus (intro w' hSw; (try dsimp only at hSw); go_simp; (try with_reducible rfl))
            simp only [List.set]
            refine wpAnyH_done (by kernel_rfl) ?_ _
            go_simp
            go_wp2_with (fail)
            go_ret
            exact ⟨congrArg (fun z => Ending.returned (.int .i64 z)) hv.out, fz.trans hf (fun _ _ e => e)⟩
        · have n1 : ¬ ((i : Int) + 1 < ng) := by omega
          have hpa : chain (fun (a b : Int) => decide (a < b)) x.guards = true := by have h := hrc.out; rw [List.take_of_length_le (by rw [hng.out]; omega)] at h; exact h
          replace hchk : Hid (EC = if decide (x.past = []) ≠ decide (kk = 1) then 10 else 0) := by show _ = _; rw [hchk.out, hpa]; rfl
          have c4 := hf.cell e4 (fun e => e)
          have c2 := hf.cell e2 (fun e => e)
          have d19 := hf.cell e19 (fun e => e)
          replace fz := fz.trans hf (fun _ _ e => e)
          clear hrc hpa rguards hlt hi e19 e4 e2 hf
          have hpe : Hid (decide (x.past = []) = decide (np = 0)) := by show _ = _; rw [Bool.eq_iff_iff]; simp only [decide_eq_true_eq]; rw [← hnp.out]; exact List.length_eq_zero_iff.symm
          by_cases p0 : np = 0 <;> by_cases q0 : kk = 1
          · have b1 : ((np : Int) == 0) = true := beq_t (by omega)
            have b2 : (kk == 1) = true := beq_t q0
            have hv : Hid (0 = EC) := by show _ = _; rw [hchk.out, hpe.out, if_neg (by rw [decide_eq_true p0, decide_eq_true q0]; decide)]
            clear hchk hpe p0 q0 hnp
            go_wp2_with (fail)
            go_ret
            exact ⟨congrArg (fun z => Ending.returned (.int .i64 z)) hv.out, fz⟩
          · have b1 : ((np : Int) == 0) = true := beq_t (by omega)
            have b2 : (kk == 1) = false := beq_f q0
            have hv : Hid (10 = EC) := by show _ = _; rw [hchk.out, hpe.out, if_pos (by rw [decide_eq_true p0, decide_eq_false q0]; decide)]
            clear hchk hpe p0 q0 hnp
            go_wp2_with (fail)
            go_ret
            exact ⟨congrArg (fun z => Ending.returned (.int .i64 z)) hv.out, fz⟩
          · have b1 : ((np : Int) == 0) = false := beq_f (by omega)
            have b2 : (kk == 1) = true := beq_t q0
            have hv : Hid (10 = EC) := by show _ = _; rw [hchk.out, hpe.out, if_pos (by rw [decide_eq_false p0, decide_eq_true q0]; decide)]
            clear hchk hpe p0 q0 hnp
            go_wp2_with (fail)
            go_ret
            exact ⟨congrArg (fun z => Ending.returned (.int .i64 z)) hv.out, fz⟩
          · have b1 : ((np : Int) == 0) = false := beq_f (by omega)
            have b2 : (kk == 1) = false := beq_f q0
            have hv : Hid (0 = EC) := by show _ = _; rw [hchk.out, hpe.out, if_neg (by rw [decide_eq_false p0, decide_eq_false q0]; decide)]
            clear hchk hpe p0 q0 hnp
            go_wp2_with (fail)
            go_ret
            exact ⟨congrArg (fun z => Ending.returned (.int .i64 z)) hv.out, fz⟩
end Oq
end Go.Proofs.YtahcddlgghipjaaGreatDoor

namespace Go.Proofs.YtahcddlgghipjaaGreatDoor
open Go.RowKit
attribute [local go_sem ↓] Go.wp_at_zero Go.wp_at_succ
namespace Oq
attribute [local go_sem] Bool.not_false Bool.not_true bne_self_eq_false beq_self_eq_true
attribute [local go_sem ↓] loadAt_op

theorem opcommit_any (k : Int) (w : World) (hk : KindsAt w) : Calls Tryz.prog 9 #[.int .i64 k] w fun e w' => e = .returned (.bool (commit k)) ∧ w = w' := by
  rcases Bool.eq_false_or_eq_true (decide (0 < k)) with h1 | h1
  · rcases Bool.eq_false_or_eq_true (decide (k < 14)) with h2 | h2
    · have a := of_decide_eq_true h1
      have b := of_decide_eq_true h2
      obtain ⟨n, rfl⟩ : ∃ n : Nat, k = (n : Int) := ⟨k.toNat, by omega⟩
      exact opcommit_in n w hk (by omega) (by omega)
    · have hc : Hid (commit k = false) := by
        have b := of_decide_eq_false h2
        show commit k = false
        unfold commit
        simp only [Bool.or_eq_false_iff, beq_eq_false_iff_ne]
        omega
      rw [hc.out]
      clear hc hk
      go_enter Tryz.func9, Tryz.ntmps9
      go_wp2
      go_ret
      exact ⟨rfl, rfl⟩
  · have hc : Hid (commit k = false) := by
      have b := of_decide_eq_false h1
      show commit k = false
      unfold commit
      simp only [Bool.or_eq_false_iff, beq_eq_false_iff_ne]
      omega
    rw [hc.out]
    clear hc hk
    go_enter Tryz.func9, Tryz.ntmps9
    go_wp2
    go_ret
    exact ⟨rfl, rfl⟩

/-- A load of a whole struct out of the middle of a row. -/
theorem ldS_mid {P : Program} {t : TypeId} {d : TypeDesc} (cs : Array Value) (b o : Nat) (hu : P.underlying t = some d) (hd : d.isRow = true) (hi : (P.info? t).map (·.size) = some cs.size) :
    ∀ w', World.rangeAt w' b o cs.toList → (ldS t (.pointer (some ⟨b, o, none⟩))).run P w' = .ok (.agg cs) w' := fun w' h => by
  have := run_loadAt_mid (P := P) w' b o t cs.toList d h hu hd (by rw [hi]; simp)
  unfold ldS
  rw [this]
/-- The cells of some structs in one row. -/
theorem range_flat {s : Nat} (hs : 0 < s) (vs : List Value) (hv : ∀ v ∈ vs, v.cells.size = s) {w : World} {k : Nat} {t : TypeId} (h : Blk w k t (vs.flatMap fun v => v.cells.toList).toArray) {i : Nat} {v : Value} (hi : vs[i]? = some v) : World.rangeAt w k (i * s) v.cells.toList := by
  intro j c hc
  have hl := hv v (List.mem_of_getElem? hi)
  have hj : j < s := by
    have := (List.getElem?_eq_some_iff.1 hc).1
    rw [Array.length_toList] at this
    omega
  rw [h.cell, List.getElem?_toArray, Go.Great.flat_get hs vs hv]
  rw [show (i * s + j) / s = i from by rw [Nat.mul_comm, Nat.mul_add_div hs]; rw [Nat.div_eq_of_lt hj]; rfl, show (i * s + j) % s = j from by rw [Nat.mul_comm, Nat.mul_add_mod, Nat.mod_eq_of_lt hj], hi]
  simpa using hc
theorem Fr.range {w w' : World} {b o : Nat} {cs : List Value} (h : World.rangeAt w b o cs) (hf : Fr Non w w') : World.rangeAt w' b o cs := fun j v hv => hf.cell (h j v hv) (fun e => e)
/-- A literal of four structs. -/
theorem build_ops (x0 x1 x2 x3 : OpL) (w : World) : (Instr.buildSlice 39 4 #[(0, .agg x0.cells), (1, .agg x1.cells), (2, .agg x2.cells), (3, .agg x3.cells)]).run Tryz.prog w =
    .ok (.slice (some ⟨w.heap.size, 0, none⟩) 4 4) (w.alloc (.cells ([Value.agg x0.cells, Value.agg x1.cells, Value.agg x2.cells, Value.agg x3.cells].flatMap fun v => v.cells.toList).toArray 35)) := by
  have hi : (Tryz.prog.info? 35).map (·.size) = some 27 := by kernel_rfl
  have hz : ((Tryz.prog.info? 35).bind (·.zero)).isSome = true := by kernel_rfl
  cases hie : Tryz.prog.info? 35 with
  | none => rw [hie] at hi; cases hi
  | some ie =>
    rw [hie] at hi hz
    have hs : ie.size = 27 := by simpa using hi
    obtain ⟨z, hzz⟩ := Option.isSome_iff_exists.1 hz
    refine run_buildSlice w 39 35 4 _ _ ie z Tryz.underlying39 hie hzz (by rw [hs]; decide) (by rw [hs]; decide) ?_
    rw [hs]
    exact Go.Great.fill_whole (by decide) [Value.agg x0.cells, Value.agg x1.cells, Value.agg x2.cells, Value.agg x3.cells] _ (fun v hv => by
      simp only [List.mem_cons, List.not_mem_nil, or_false] at hv
      rcases hv with rfl | rfl | rfl | rfl <;> rfl) (by simp)
theorem wp_bslice {P : Program} {o : Oper} {a : Act} {w w' : World} {next : Act → World → Prop} {Q : Exit → Act → World → Prop} {t : TypeId} {len : Nat} {parts : Array (Nat × Operand)} {vals : Array (Nat × Value)} {v : Value} (hop : o.op = .buildSlice t len parts) (hv : (parts.map fun (i, x) => (i, a.eval x)) = vals)
    (hrun : (Instr.buildSlice t len vals).run P w = .ok v w') (hk : next (a.put o.dst v) w') : o.wp P a w next Q := by
  unfold Oper.wp execOp
  simp only [hop, hv, Sem.run_bind, hrun, Result.andThen_ok]
  exact hk

set_option maxRecDepth 100000 in
set_option maxHeartbeats 80000000 in
theorem opChecks_law (Al : Option Addr) (cl : Nat) (l : List Int) (how n other kind : Int) (w : World) (hk : KindsAt w) (hrl : Rd w w.heap.size 1 Al l.length (l.map Iv)) (hlc : l.length ≤ cl) (hlc' : cl ≤ 9223372036854775807) (hok : ∀ x ∈ l, I64 x)
    (h0 : -9223372036854775808 ≤ how) (h1 : how ≤ 9223372036854775807) (n0 : -9223372036854775808 ≤ n) (n1 : n ≤ 9223372036854775807) (o0 : -9223372036854775808 ≤ other) (o1 : other ≤ 9223372036854775807) (k0 : -9223372036854775808 ≤ kind) (k1 : kind ≤ 9223372036854775807) :
    Calls Tryz.prog 3 #[.slice Al l.length cl, .int .i64 how, .int .i64 n, .int .i64 other, .int .i64 kind] w (BoolPost true w) := by
  have hi : (Tryz.prog.info? 35).map (·.size) = some 27 := by kernel_rfl
  have hok' := Lib.hid hok
  clear hok
  obtain ⟨nl, hnl⟩ := hid_ex l.length
  rw [hnl.out] at hrl hlc ⊢
  go_enter Tryz.func3, Tryz.ntmps3
  go_wp2_with (fail)
  refine (gen_any _ nl cl Al l _ hnl hrl hlc hlc' hok').mono ?_
  rintro _ w1 ⟨x, rfl, _, _, xchk, xr, xs, xown, f1⟩
  have xok := gen_ok xchk xr xs
  have xat := xown.at
  have xfew := few_of_chk xchk
  have xch := Lib.hid xchk
  have honex := one_cells x
  have hz1 := Blk.new w1 35 OpL.zero.cells
  clear xchk xr xs xown hrl hlc hlc' hok' hnl
  go_upto_region 2 with (first | (refine wpList_store_new rfl 35 (.tmp 11) (.tmp 17) rfl rfl rfl rfl hz1 hi rfl honex ?_; intro w2 hb2 hf2 hs2))
  have fx2 : Fr Non w1 w2 := ((Fr.refl Non w1).alloc (.cells OpL.zero.cells 35)).trans hf2 (fun k hk e => by have e' : k = w1.heap.size := e; omega)
  have fr2 := f1.trans fx2 (fun _ _ e => e)
  have xat2 := OpL.frame xat fx2
  clear hz1 hf2 hs2 f1 fx2 xat honex
  generalize w1.heap.size = ga at *
  go_wp2_with (fail)
  refine (around_any n 23 _ n0 n1 (by omega) (by omega)).mono ?_
  rintro _ _ ⟨rfl, rfl⟩
  have hm := around_bd (n := n) (m := 23) (by omega)
  generalize around n 23 = ff at hm ⊢
  have hwf : IntKind.i64.wrap (ff - 1) = ff - 1 := IntWalk.i64_in _ (by omega)
  go_wp2_with (fail)
  obtain ⟨few, hfew⟩ : ∃ few, few = ff - 1 := ⟨_, rfl⟩
  rw [← hfew]
  have e0 : -9223372036854775808 ≤ few := by omega
  have e1 : few ≤ 9223372036854775807 := by omega
  clear hm hwf hfew
  have hlx := ldS_blk (P := Tryz.prog) (cs := x.cells) ga 35 Tryz.underlying35 rfl hi
  have kb1 := Lib.hid (fun (w' : World) (h : x.at w' w'.heap.size) => bent_any 20 x how n w' h xok xfew (by omega) h0 h1 n0 n1)
  have kb2 := Lib.hid (fun (w' : World) (h : x.at w' w'.heap.size) => bent_any 20 x how few w' h xok xfew (by omega) h0 h1 e0 e1)
  have kb3 := Lib.hid (fun (z : OpL) (zok : z.op.ok) (zfew : Few 40 z.op) (w' : World) (h : z.at w' w'.heap.size) => bent_any 40 z other n w' h zok zfew (by omega) o0 o1 n0 n1)
  have kbs := Lib.hid build_ops
  have kx := Lib.hid (fun (w' : World) (h : x.at w' w'.heap.size) (hk : KindsAt w') => check_any x w' h xok hk)
  rw [xch.out] at kx
  clear h0 h1 n0 n1 o0 o1 e0 e1 xch
  have kx' : Hid (∀ w' : World, x.at w' w'.heap.size → KindsAt w' → Calls Tryz.prog 7 #[.agg x.cells] w' (ErrPost 0 w')) := kx.out
  clear kx
  obtain ⟨CX, hCX⟩ := hid_ex x.cells
  rw [hCX.out] at hlx kb1 kb2 kx' hb2
  refine wp_region_held_drew (S := (fun w' => Blk w' ga 35 CX)) (by kernel_rfl) hb2 (fun hHeld => ?_)
  clear hHeld
  replace hb2 : (fun w' => Blk w' ga 35 CX) w2.drew := hb2
  replace fr2 := fr2.drew
  replace xat2 : x.at w2.drew w2.drew.heap.size := OpL.frame xat2 (Fr.drew (Fr.refl _ _))
  generalize w2.drew = w3 at *
  refine wpAnyH_takeL (i := 0) (v := ?_) rfl (by kernel_rfl) (by kernel_rfl) (by kernel_rfl) (fun _ _ _ h => h) (Or.inl ⟨by kernel_rfl, ?_⟩) hb2 ?_
  rotate_left
  focus (intro w' hSw; (try dsimp only at hSw); go_simp; (try with_reducible rfl))
  simp only [List.set]
  refine wpAnyH_takeL (i := 1) (v := ?_) rfl (by kernel_rfl) (by kernel_rfl) (by kernel_rfl) (fun _ _ _ h => h) (Or.inl ⟨by kernel_rfl, ?_⟩) hb2 ?_
  rotate_left
  focus (intro w' hSw; (try dsimp only at hSw); go_simp; (try with_reducible rfl))
  simp only [List.set]
  refine wpAnyH_takeL (i := 2) (v := ?_) rfl (by kernel_rfl) (by kernel_rfl) (by kernel_rfl) (fun _ _ _ h => h) (Or.inl ⟨by kernel_rfl, ?_⟩) hb2 ?_
  rotate_left
  focus (intro w' hSw; (try dsimp only at hSw); go_simp; (try with_reducible rfl))
  simp only [List.set]
  refine wpAnyH_takeL (i := 3) (v := ?_) rfl (by kernel_rfl) (by kernel_rfl) (by kernel_rfl) (fun _ _ _ h => h) (Or.inl ⟨by kernel_rfl, ?_⟩) hb2 ?_
  rotate_left
  focus (intro w' hSw; (try dsimp only at hSw); go_simp; (try with_reducible rfl))
  simp only [List.set]
  refine wpAnyH_takeL (i := 5) (v := ?_) rfl (by kernel_rfl) (by kernel_rfl) (by kernel_rfl) (fun _ _ _ h => h) (Or.inl ⟨by kernel_rfl, ?_⟩) hb2 ?_
  rotate_left
  focus (intro w' hSw; (try dsimp only at hSw); go_simp; (try with_reducible rfl))
  simp only [List.set]
  refine wpAnyH_takeL (i := 6) (v := ?_) rfl (by kernel_rfl) (by kernel_rfl) (by kernel_rfl) (fun _ _ _ h => h) (Or.inl ⟨by kernel_rfl, ?_⟩) hb2 ?_
  rotate_left
  focus (intro w' hSw; (try dsimp only at hSw); go_simp; (try with_reducible rfl))
  simp only [List.set]
  refine wpAnyH_takeL (i := 7) (v := ?_) rfl (by kernel_rfl) (by kernel_rfl) (by kernel_rfl) (fun _ _ _ h => h) (Or.inl ⟨by kernel_rfl, ?_⟩) hb2 ?_
  rotate_left
  focus (intro w' hSw; (try dsimp only at hSw); go_simp; (try with_reducible rfl))
  simp only [List.set]
  refine wpAnyH_takeL (i := 9) (v := ?_) rfl (by kernel_rfl) (by kernel_rfl) (by kernel_rfl) (fun _ _ _ h => h) (Or.inl ⟨by kernel_rfl, ?_⟩) hb2 ?_
  rotate_left
  focus (intro w' hSw; (try dsimp only at hSw); go_simp; (try with_reducible rfl))
  simp only [List.set]
  refine wpAnyH_takeL (i := 10) (v := ?_) rfl (by kernel_rfl) (by kernel_rfl) (by kernel_rfl) (fun _ _ _ h => h) (Or.inl ⟨by kernel_rfl, ?_⟩) hb2 ?_
  rotate_left
  focus (intro w' hSw; (try dsimp only at hSw); go_simp; (try with_reducible rfl))
  simp only [List.set]
  refine wpAnyH_takeL (i := 11) (v := ?_) rfl (by kernel_rfl) (by kernel_rfl) (by kernel_rfl) (fun _ _ _ h => h) (Or.inl ⟨by kernel_rfl, ?_⟩) hb2 ?_
  rotate_left
  focus (intro w' hSw; (try dsimp only at hSw); go_simp; (try with_reducible rfl))
  simp only [List.set]
  refine wpAnyH_takeL (i := 13) (v := ?_) rfl (by kernel_rfl) (by kernel_rfl) (by kernel_rfl) (fun _ _ _ h => h) (Or.inl ⟨by kernel_rfl, ?_⟩) hb2 ?_
  rotate_left
  focus (intro w' hSw; (try dsimp only at hSw); go_simp; (try with_reducible rfl))
  simp only [List.set]
  refine wpAnyH_takeL (i := 14) (v := ?_) rfl (by kernel_rfl) (by kernel_rfl) (by kernel_rfl) (fun _ _ _ h => h) (Or.inl ⟨by kernel_rfl, ?_⟩) hb2 ?_
  rotate_left
  focus (intro w' hSw; (try dsimp only at hSw); go_simp; (try with_reducible rfl))
  simp only [List.set]
  refine wpAnyH_onlyG 4 (by kernel_rfl) rfl (by kernel_rfl) (fun K hK => ?_)
  go_simp
  go_wp2_with (go_at_call 6; (with_reducible refine (kb1.out _ xat2).mono ?_); rintro _ w4 ⟨y1, rfl, y1ok, _, y1at, f4⟩)
  have hb4 : (fun w' => Blk w' ga 35 CX) w4 := hb2.fr f4 (fun e => e)
  refine hK.out _ _ hb4 (fun _ => ?_)
  clear hK K kb1
  try simp only [put_lit', List.set]
  have xat4 := OpL.frame xat2 f4
  refine wpAnyH_onlyG 8 (by kernel_rfl) rfl (by kernel_rfl) (fun K hK => ?_)
  go_simp
  go_wp2_with (go_at_call 6; (with_reducible refine (kb2.out _ xat4).mono ?_); rintro _ w5 ⟨y2, rfl, y2ok, _, y2at, f5⟩)
  have hb5 : (fun w' => Blk w' ga 35 CX) w5 := hb4.fr f5 (fun e => e)
  refine hK.out _ _ hb5 (fun _ => ?_)
  clear hK K
  try simp only [put_lit', List.set]
  have xat5 := OpL.frame xat4 f5
  have y1at5 := OpL.frame y1at f5
  refine wpAnyH_onlyG 12 (by kernel_rfl) rfl (by kernel_rfl) (fun K hK => ?_)
  go_simp
  go_wp2_with (go_at_call 6; (with_reducible refine (kb2.out _ xat5).mono ?_); rintro _ w6 ⟨z, rfl, zok, zfew, zat, f6⟩)
  have hb6 : (fun w' => Blk w' ga 35 CX) w6 := hb5.fr f6 (fun e => e)
  refine hK.out _ _ hb6 (fun _ => ?_)
  clear hK K kb2
  try simp only [put_lit', List.set]
  have xat6 := OpL.frame xat5 f6
  have y1at6 := OpL.frame y1at5 f6
  have y2at6 := OpL.frame y2at f6
  have kb4 := Lib.hid (kb3.out z zok zfew)
  refine wpAnyH_onlyG 15 (by kernel_rfl) rfl (by kernel_rfl) (fun K hK => ?_)
  go_simp
  go_wp2_with (go_at_call 6; (with_reducible refine (kb4.out _ zat).mono ?_); rintro _ w7 ⟨y3, rfl, y3ok, _, y3at, f7⟩)
  have hb7 : (fun w' => Blk w' ga 35 CX) w7 := hb6.fr f7 (fun e => e)
  refine hK.out _ _ hb7 (fun _ => ?_)
  clear hK K kb3 kb4
  try simp only [put_lit', List.set]
  have f37 := ((f4.trans f5 (fun _ _ e => e)).trans f6 (fun _ _ e => e)).trans f7 (fun _ _ e => e)
  have xat7 := OpL.frame xat6 f7
  have y1at7 := OpL.frame y1at6 f7
  have y2at7 := OpL.frame y2at6 f7
  have fr7 := fr2.trans f37 (fun _ _ e => e)
  clear xat2 xat4 xat5 xat6 y1at y1at5 y1at6 y2at y2at6 zat zok zfew f4 f5 f6 f7 f37 fr2 hb2 hb4 hb5 hb6
  have kbd := Lib.hid (kbs.out x y1 y2 y3 w7)
  rw [hCX.out] at kbd
  obtain ⟨C1, hC1⟩ := hid_ex y1.cells
  obtain ⟨C2, hC2⟩ := hid_ex y2.cells
  obtain ⟨C3, hC3⟩ := hid_ex y3.cells
  rw [hC1.out, hC2.out, hC3.out] at kbd
  rw [hC1.out, hC2.out, hC3.out]
  refine wpAnyH_onlyG 16 (by kernel_rfl) rfl (by kernel_rfl) (fun K hK => ?_)
  have kbe := kbd.out
  refine wp_bslice rfl (by kernel_rfl) kbe ?_
  refine hK.out _ _ (Blk.alloc hb7 _) (fun _ => ?_)
  clear hK K kbe kbd
  simp only [put_lit', List.set]
  have hv27 : ∀ v ∈ [Value.agg CX, Value.agg C1, Value.agg C2, Value.agg C3], v.cells.size = 27 := by
    intro v hv
    simp only [List.mem_cons, List.not_mem_nil, or_false] at hv
    rw [← hCX.out, ← hC1.out, ← hC2.out, ← hC3.out] at hv
    rcases hv with rfl | rfl | rfl | rfl <;> rfl
  have hbk := Blk.new w7 35 ([Value.agg CX, Value.agg C1, Value.agg C2, Value.agg C3].flatMap fun v => v.cells.toList).toArray
  have f78 : Fr Non w7 (w7.alloc (.cells ([Value.agg CX, Value.agg C1, Value.agg C2, Value.agg C3].flatMap fun v => v.cells.toList).toArray 35)) := (Fr.refl Non w7).alloc _
  have hb8 := Blk.alloc hb7 (.cells ([Value.agg CX, Value.agg C1, Value.agg C2, Value.agg C3].flatMap fun v => v.cells.toList).toArray 35)
  have xat8 := OpL.frame xat7 f78
  have y1at8 := OpL.frame y1at7 f78
  have y2at8 := OpL.frame y2at7 f78
  have y3at8 := OpL.frame y3at f78
  have fr8 := fr7.trans f78 (fun _ _ e => e)
  clear f78 xat7 y1at7 y2at7 y3at fr7
  generalize hw8 : w7.alloc (.cells ([Value.agg CX, Value.agg C1, Value.agg C2, Value.agg C3].flatMap fun v => v.cells.toList).toArray 35) = w8 at *
  clear hw8
  generalize w7.heap.size = kb at *
  have hR : Hid (∀ i, i < 4 → ∃ y : OpL, y.op.ok ∧ y.at w8 w8.heap.size ∧ World.rangeAt w8 kb (i * 27) y.cells.toList) := by
    intro i hi4
    have hc : i = 0 ∨ i = 1 ∨ i = 2 ∨ i = 3 := by omega
    rcases hc with rfl | rfl | rfl | rfl
    · exact ⟨x, xok, xat8, by rw [hCX.out]; exact range_flat (v := .agg CX) (i := 0) (by decide) _ hv27 hbk rfl⟩
    · exact ⟨y1, y1ok, y1at8, by rw [hC1.out]; exact range_flat (v := .agg C1) (i := 1) (by decide) _ hv27 hbk rfl⟩
    · exact ⟨y2, y2ok, y2at8, by rw [hC2.out]; exact range_flat (v := .agg C2) (i := 2) (by decide) _ hv27 hbk rfl⟩
    · exact ⟨y3, y3ok, y3at8, by rw [hC3.out]; exact range_flat (v := .agg C3) (i := 3) (by decide) _ hv27 hbk rfl⟩
  have hk8 := hk.fr fr8
  clear hv27 hbk hC1 hC2 hC3 y1at8 y2at8 y3at8 y1ok y2ok y3ok hb7 kbs
  refine wpAnyH_takeL (i := 17) (v := ?_) rfl (by kernel_rfl) (by kernel_rfl) (by kernel_rfl) (fun _ _ _ h => h) (Or.inl ⟨by kernel_rfl, ?_⟩) hb8 ?_
  rotate_left
  focus (intro w' hSw; (try dsimp only at hSw); go_simp; (try with_reducible rfl))
  simp only [List.set]
  refine wpAnyH_done (by kernel_rfl) ?_ _
  go_simp
  go_wp2_with (fail)
  go_loopw [14] (fun v wr => ∃ i : Nat, v = .int .i64 (i : Int) ∧ i ≤ 4 ∧ Fr Non w8 wr) (fun v _ => 4 - (intOf v).toNat)
  case atStart => exact ⟨0, rfl, by omega, Fr.refl _ _⟩
  case round =>
    obtain ⟨i, rfl, hi4, hf⟩ := hrel
    by_cases hlt : i < 4
    · have i1 : (0 : Int) ≤ i := by omega
      have i2 : (i : Int) < 4 := by omega
      have i3 : (i : Int).toNat = i := by omega
      obtain ⟨y, yok, yat, hrg⟩ := hR.out i hlt
      have hyi : (Tryz.prog.info? 35).map (·.size) = some y.cells.size := by show _ = some 27; exact hi
      have hlm := ldS_mid (P := Tryz.prog) y.cells kb (i * 27) Tryz.underlying35 rfl hyi
      have kc1 := Lib.hid (fun (w' : World) (h : y.at w' w'.heap.size) (hk : KindsAt w') => check_any y w' h yok hk)
      have kc2 := Lib.hid (fun (w' : World) (h : y.at w' w'.heap.size) => check11_any y w' h yok)
      generalize y.op.chk = ey at *
      generalize y.cells = CY at *
      generalize CY.toList = CL at *
      have hrw := Fr.range hrg hf
      have yat2 := OpL.frame yat hf
      have hkw := hk8.fr hf
      clear hyi hrg yat yok hlx kx' hb8 xat8
      go_upto_region 7 with (fail)
      refine wp_region_held_drew (S := (fun w' => World.rangeAt w' kb (i * 27) CL)) (by kernel_rfl) hrw (fun hHeld => ?_)
      clear hHeld
      replace hrw : World.rangeAt wr.drew kb (i * 27) CL := hrw
      replace hf := hf.drew
      replace yat2 : y.at wr.drew wr.drew.heap.size := OpL.frame yat2 (Fr.drew (Fr.refl _ _))
      replace hkw : KindsAt wr.drew := hkw
      generalize wr.drew = wq at *
      refine wpAnyH_takeL (i := 0) (v := ?_) rfl (by kernel_rfl) (by kernel_rfl) (by kernel_rfl) (fun _ _ _ h => h) (Or.inl ⟨by kernel_rfl, ?_⟩) hrw ?_
      rotate_left
      focus (intro w' hSw; (try dsimp only at hSw); go_simp; (try with_reducible rfl))
      simp only [List.set]
      refine wpAnyH_takeL (i := 1) (v := ?_) rfl (by kernel_rfl) (by kernel_rfl) (by kernel_rfl) (fun _ _ _ h => h) (Or.inl ⟨by kernel_rfl, ?_⟩) hrw ?_
      rotate_left
      focus (intro w' hSw; (try dsimp only at hSw); go_simp; (try with_reducible rfl))
      simp only [List.set]
      refine wpAnyH_takeL (i := 2) (v := ?_) rfl (by kernel_rfl) (by kernel_rfl) (by kernel_rfl) (fun _ _ _ h => h) (Or.inl ⟨by kernel_rfl, ?_⟩) hrw ?_
      rotate_left
      focus (intro w' hSw; (try dsimp only at hSw); go_simp; (try with_reducible rfl))
      simp only [List.set]
      refine wpAnyH_takeL (i := 3) (v := ?_) rfl (by kernel_rfl) (by kernel_rfl) (by kernel_rfl) (fun _ _ _ h => h) (Or.inl ⟨by kernel_rfl, ?_⟩) hrw ?_
      rotate_left
      focus (intro w' hSw; (try dsimp only at hSw); go_simp; (try with_reducible rfl))
      simp only [List.set]
      refine wpAnyH_takeL (i := 5) (v := ?_) rfl (by kernel_rfl) (by kernel_rfl) (by kernel_rfl) (fun _ _ _ h => h) (Or.inl ⟨by kernel_rfl, ?_⟩) hrw ?_
      rotate_left
      focus (intro w' hSw; (try dsimp only at hSw); go_simp; (try with_reducible rfl))
      simp only [List.set]
      refine wpAnyH_takeL (i := 6) (v := ?_) rfl (by kernel_rfl) (by kernel_rfl) (by kernel_rfl) (fun _ _ _ h => h) (Or.inl ⟨by kernel_rfl, ?_⟩) hrw ?_
      rotate_left
      focus (intro w' hSw; (try dsimp only at hSw); go_simp; (try with_reducible rfl))
      simp only [List.set]
      refine wpAnyH_takeL (i := 7) (v := ?_) rfl (by kernel_rfl) (by kernel_rfl) (by kernel_rfl) (fun _ _ _ h => h) (Or.inl ⟨by kernel_rfl, ?_⟩) hrw ?_
      rotate_left
      focus (intro w' hSw; (try dsimp only at hSw); go_simp; (try with_reducible rfl))
      simp only [List.set]
      refine wpAnyH_takeL (i := 8) (v := ?_) rfl (by kernel_rfl) (by kernel_rfl) (by kernel_rfl) (fun _ _ _ h => h) (Or.inl ⟨by kernel_rfl, ?_⟩) hrw ?_
      rotate_left
      focus (intro w' hSw; (try dsimp only at hSw); go_simp; (try with_reducible rfl))
      simp only [List.set]
      refine wpAnyH_onlyG 4 (by kernel_rfl) rfl (by kernel_rfl) (fun K hK => ?_)
      go_simp
      go_wp2_with (go_at_call 7; (with_reducible refine (kc1.out _ yat2 hkw).mono ?_); rintro _ v1 ⟨rfl, g1⟩)
      have hr1 : World.rangeAt v1 kb (i * 27) CL := Fr.range hrw g1
      refine hK.out _ _ hr1 (fun _ => ?_)
      clear hK K
      try simp only [put_lit', List.set]
      have yat3 := OpL.frame yat2 g1
      refine wpAnyH_onlyG 9 (by kernel_rfl) rfl (by kernel_rfl) (fun K hK => ?_)
      go_simp
      go_wp2_with (go_at_call 8; (with_reducible refine (kc2.out _ yat3).mono ?_); rintro _ v2 ⟨rfl, g2⟩)
      have hr2 : World.rangeAt v2 kb (i * 27) CL := Fr.range hr1 g2
      refine hK.out _ _ hr2 (fun _ => ?_)
      clear hK K
      try simp only [put_lit', List.set]
      have hf2 := (hf.trans g1 (fun _ _ e => e)).trans g2 (fun _ _ e => e)
      refine wpAnyH_takeL (i := 10) (v := ?_) rfl (by kernel_rfl) (by kernel_rfl) (by kernel_rfl) (fun _ _ _ h => h) (Or.inl ⟨by kernel_rfl, ?_⟩) hr2 ?_
      rotate_left
      focus (intro w' hSw; (try dsimp only at hSw); go_simp; (try with_reducible rfl))
      simp only [List.set]
      refine wpAnyH_done (by kernel_rfl) ?_ _
      go_simp
      go_wp2_with (fail)
      go_roundw
      case rel => exact ⟨i + 1, by go_num, by omega, hf2⟩
      case measure => simp [intOf]; omega
    · obtain rfl : i = 4 := by omega
      have xat9 := OpL.frame xat8 hf
      have hb9 : Blk wr ga 35 CX := hb8.fr hf (fun e => e)
      have hk9 := hk8.fr hf
      have fr9 := fr8.trans hf (fun _ _ e => e)
      have hm := around_bd (n := kind) (m := 15) (by omega)
      have kA := Lib.hid (fun w' => around_any kind 15 w' k0 k1 (by omega) (by omega))
      have kL := Lib.hid lives11_any
      have kC := Lib.hid opcommit_any
      have kD := Lib.hid commit11_any
      generalize around kind 15 = kk at *
      generalize hc1 : commit kind = cb1 at *
      generalize hc2 : commit kk = cb2 at *
      clear hR hf hlt hi4 hk8 fr8 xat8 hb8 hk
      go_wp2_with (go_at_call 5; (with_reducible refine kA.out _ |>.mono ?_); rintro _ _ ⟨rfl, rfl⟩)
      have hkz : (0 : Int) == 0 := rfl
      go_wp2_with (first
        | (refine wpList_load_row rfl 35 (.tmp 11) rfl rfl hb9 Tryz.underlying35 rfl (by rw [← hCX.out]; exact hi) ?_)
        | (go_at_call 7; (with_reducible refine (kx'.out _ xat9 hk9).mono ?_); rintro _ v1 ⟨rfl, g1⟩; have hk9 := hk9.fr g1; have fr9 := fr9.trans g1 (fun _ _ e => e))
        | (go_at_call 9; (with_reducible refine (kC.out _ _ hk9).mono ?_); rintro _ _ ⟨rfl, rfl⟩)
        | (go_at_call 10; (with_reducible refine (kD.out _ _).mono ?_); rintro _ _ ⟨rfl, rfl⟩)
        | (go_at_call 11; (with_reducible refine (kL.out _ hk9).mono ?_); rintro _ v2 ⟨rfl, g2⟩; have fr9 := fr9.trans g2 (fun _ _ e => e)))
      go_ret
      exact ⟨rfl, fr9⟩
    end Oq
    end Go.Proofs.YtahcddlgghipjaaGreatDoor

namespace Go.Proofs.YtahcddlgghipjaaGreatDoor
open Go.ChangeShapes Go.WideShapes Go.ChangeAt Go.RowKit

set_option maxRecDepth 100000 in
theorem opChecks_lifted (os : Os) (started : os.Started) (H : Type) (enc : TypeId × Value → H) :
    ReturnsInHanded {} Tryz.checked os 3 .any (fun w args => (Rows.opChecksSpec.pre enc Tryz.prog Tryz.f3 [] false w args ∧ laidMetH Tryz.prog [("huddle/op.kinds", Rows.laid_huddle_op_kinds)] w) ∧ sizedMet enc Tryz.prog Tryz.f3 (OpenSpec.ofChange Rows.opChecksSpec) false w args)
      (Rows.opChecksSpec.post enc Tryz.prog Tryz.f3 false true false false) := by
  refine returnsInHanded_of_change_and (C := Tryz.checked) (X := fun w _ => laidMetH Tryz.prog [("huddle/op.kinds", Rows.laid_huddle_op_kinds)] w) (fun _ _ _ hh h => h.of_heap hh) Tryz.own started (by kernel_rfl) Tryz.func3
    (ChangeSpec.witness_at (enc := enc) (C := Tryz.checked) (os := os) (X := fun w _ => laidMetH Tryz.prog [("huddle/op.kinds", Rows.laid_huddle_op_kinds)] w) false (laidWorld os) #[.slice none 0 0, .int .i64 0, .int .i64 0, .int .i64 0, .int .i64 0] 8 rfl (by kernel_rfl) (by kernel_rfl) (by kernel_rfl) (by kernel_rfl) (by kernel_rfl) (laidWorld_met os _)) ?_
  intro W base args ds gs before hval0 hW _ _ hL _
  have hk := kindsAt_of_laid hL
  have hval : ∀ (j : Nat) t v, Tryz.f3.params[j]? = some t → args[j]? = some v → Value.okWide Tryz.prog W .any base t v := hval0
  have hW' := hW
  obtain ⟨p, q, hA0, hV, rfl, hfz, hnd⟩ := hW
  have hA : DataW.TrodAll enc Tryz.prog W 0 (fun _ => true) true Tryz.f3.params.toList args.toList ds p := hA0
  rw [Tryz.params3] at hA hval
  obtain ⟨v0, v1, v2, v3, v4, d0, d1, d2, d3, d4, p0, p1, p2, p3, p4, rfl, rfl, rfl, h0, h1, h2, h3, h4⟩ := trodAll_five hA
  obtain ⟨A0, c0, l0, rfl, hlc0, hc0, hr0, hok0⟩ := open_ints Tryz.underlying22 Tryz.underlying3 (by kernel_rfl) (hval 0 22 v0 rfl rfl) h0
  obtain ⟨x1, rfl, rfl, rfl, wf1⟩ := open_int Tryz.underlying3 (hval 1 3 v1 rfl rfl) h1
  have bd1 := i64_bd wf1
  obtain ⟨x2, rfl, rfl, rfl, wf2⟩ := open_int Tryz.underlying3 (hval 2 3 v2 rfl rfl) h2
  have bd2 := i64_bd wf2
  obtain ⟨x3, rfl, rfl, rfl, wf3⟩ := open_int Tryz.underlying3 (hval 3 3 v3 rfl rfl) h3
  have bd3 := i64_bd wf3
  obtain ⟨x4, rfl, rfl, rfl, wf4⟩ := open_int Tryz.underlying3 (hval 4 3 v4 rfl rfl) h4
  have bd4 := i64_bd wf4
  refine (Oq.opChecks_law A0 c0 l0 x1 x2 x3 x4 W hk hr0 hlc0 hc0 hok0 bd1.1 bd1.2 bd2.1 bd2.2 bd3.1 bd3.2 bd4.1 bd4.2).mono fun e W' ⟨he, hf⟩ => ?_
  exact ⟨_, he, law_post Tryz.laidOut (by kernel_rfl) rfl (by kernel_rfl) Tryz.underlying4 hW' ⟨rfl, rfl, rfl⟩ hf⟩

theorem opChecks_holds : Rows.OpChecksSaid :=
  OpenClaim.holds_of_wide 3 Tryz.f3 rfl rfl rfl rfl rfl rfl rfl ⟨rfl, rfl, rfl, rfl, rfl⟩ rfl rfl rfl rfl rfl (by kernel_rfl) Tryz.func3 (by kernel_rfl)
    (of_decide_eq_true (by kernel_rfl)) (by unfold Func.isWrapper; rw [if_neg (by decide +kernel)]; exact ⟨rfl, rfl⟩)
    (fun os started H enc _ => opChecks_lifted os started H enc)
end Go.Proofs.YtahcddlgghipjaaGreatDoor

namespace Go.Proofs.YtahcddlgghipjaaGreatDoor
open Go

set_option maxRecDepth 100000 in
theorem opChecks_card_holds : Rows.OpChecksCardSaid :=
  Claim7.holds_tied_plain_at .later [] [.data] true (true, "e0a40b19b49ef146562d89e7521b1752c01c96a1b943ca9f53df84731ef393e7") false
    opChecks_holds (fun _ h => by cases h) (by kernel_rfl) (fun _ h => by cases h) opChecks_row_tie rfl ⟨rfl, rfl⟩ (by kernel_rfl) rfl
    (fun f fn hf hfn => by
      obtain rfl : f = 3 := Option.some.inj ((show Tryz.prog.funcNamed "huddle/huddlelaw11.OpChecks" = some 3 by kernel_rfl).symm.trans hf) |>.symm
      obtain rfl : fn = Tryz.f3 := (Option.some.inj (Tryz.func3.symm.trans hfn)).symm
      exact ⟨by kernel_rfl, fun j t ht => by
        rw [Tryz.params3] at ht
        have hm : t ∈ ([22, 3, 3, 3, 3] : List TypeId) := by
          have h2 := Array.mem_of_getElem? ht
          simpa using h2
        have hall : ([22, 3, 3, 3, 3] : List TypeId).all (fun t => !(Tryz.prog.wantsStandIn t)) = true := by kernel_rfl
        have := List.all_eq_true.1 hall t hm
        exact (by simpa using this : Tryz.prog.wantsStandIn t = false)⟩)
    (by kernel_rfl)
end Go.Proofs.YtahcddlgghipjaaGreatDoor
