/-
  Names: the reference's Less, HasID, Sorted; the program's Less (cmp.Compare, cmp.Or).
  Conditions: as each theorem says.
-/
import Derived.Test.YtahcddlgghipjaaGreatDoorGen1
namespace Go.Proofs.YtahcddlgghipjaaGreatDoor
open Go.RowKit
attribute [local go_sem ↓] Go.wp_at_zero Go.wp_at_succ
namespace Oq

set_option maxHeartbeats 1000000 in
theorem less11_any (x y : Id) (w : World) :
    Calls Tryz.prog 27 #[.agg #[.int .i64 x.b, .int .i64 x.s, .int .u64 (x.u : Int)], .agg #[.int .i64 y.b, .int .i64 y.s, .int .u64 (y.u : Int)]] w (BoolPost (Id.less x y) w) := by
  have hf := ((Fr.refl Non w).alloc (.cells #[.int .i64 x.b, .int .i64 x.s, .int .u64 (x.u : Int)] 27)).alloc (.cells #[.int .i64 y.b, .int .i64 y.s, .int .u64 (y.u : Int)] 27)
  by_cases h1 : x.b = y.b
  · have f1 : (x.b != y.b) = false := by simp [h1]
    by_cases h2 : x.s = y.s
    · have f2 : (x.s != y.s) = false := by simp [h2]
      have hr : Hid (Id.less x y = decide ((x.u : Int) < (y.u : Int))) := by show _ = _; unfold Id.less; rw [if_pos h1, if_pos h2]; simp
      clear h1 h2
      go_enter Tryz.func27, Tryz.ntmps27
      go_wp2
      go_ret
      exact ⟨by rw [hr.out]; simp, hf⟩
    · have f2 : (x.s != y.s) = true := by simp [h2]
      have hr : Hid (Id.less x y = decide (x.s < y.s)) := by show _ = _; unfold Id.less; rw [if_pos h1, if_neg h2]
      clear h1 h2
      go_enter Tryz.func27, Tryz.ntmps27
      go_wp2
      go_ret
      exact ⟨by rw [hr.out]; rfl, hf⟩
  · have f1 : (x.b != y.b) = true := by simp [h1]
    have hr : Hid (Id.less x y = decide (x.b < y.b)) := by show _ = _; unfold Id.less; rw [if_neg h1]
    clear h1
    go_enter Tryz.func27, Tryz.ntmps27
    go_wp2
    go_ret
    exact ⟨by rw [hr.out]; rfl, hf⟩

theorem cell_alloc {w : World} {a : Addr} {v : Value} (h : w.cell? a = some v) (o : Obj) : (w.alloc o).cell? a = some v := ((Fr.refl Non w).alloc o).cell h (fun e => e)
def cmpI (a b : Int) : Int := if a < b then -1 else if b < a then 1 else 0
theorem nani_any (a : Int) (w : World) : Calls Tryz.prog 75 #[.int .i64 a] w fun e w' => e = .returned (.bool false) ∧ w = w' := by
  have h : (a != a) = false := by simp
  go_enter Tryz.func75, Tryz.ntmps75
  go_wp2
  go_ret
  first | exact ⟨rfl, rfl⟩ | exact ⟨by simp, rfl⟩
theorem nanu_any (a : Int) (w : World) : Calls Tryz.prog 76 #[.int .u64 a] w fun e w' => e = .returned (.bool false) ∧ w = w' := by
  have h : (a != a) = false := by simp
  go_enter Tryz.func76, Tryz.ntmps76
  go_wp2
  go_ret
  first | exact ⟨rfl, rfl⟩ | exact ⟨by simp, rfl⟩
theorem cmpi_any (a b : Int) (w : World) : Calls Tryz.prog 32 #[.int .i64 a, .int .i64 b] w fun e w' => e = .returned (.int .i64 (cmpI a b)) ∧ w = w' := by
  have hc : Hid ((a < b ∧ cmpI a b = -1) ∨ (¬ a < b ∧ b < a ∧ cmpI a b = 1) ∨ (¬ a < b ∧ ¬ b < a ∧ cmpI a b = 0)) := by
    show _ ∨ _
    unfold cmpI
    by_cases h1 : a < b
    · simp [h1]
    · by_cases h2 : b < a <;> simp [h1, h2]
  go_enter Tryz.func32, Tryz.ntmps32
  go_wp2_with (fail)
  refine (nani_any a _).mono ?_
  rintro _ _ ⟨rfl, rfl⟩
  go_wp2_with (fail)
  refine (nani_any b _).mono ?_
  rintro _ _ ⟨rfl, rfl⟩
  go_wp2
  all_goals
    go_ret
    refine ⟨congrArg (fun z => Ending.returned (.int .i64 z)) ?_, rfl⟩
    have := hc.out
    omega
theorem cmpu_any (a b : Int) (w : World) : Calls Tryz.prog 33 #[.int .u64 a, .int .u64 b] w fun e w' => e = .returned (.int .i64 (cmpI a b)) ∧ w = w' := by
  have hc : Hid ((a < b ∧ cmpI a b = -1) ∨ (¬ a < b ∧ b < a ∧ cmpI a b = 1) ∨ (¬ a < b ∧ ¬ b < a ∧ cmpI a b = 0)) := by
    show _ ∨ _
    unfold cmpI
    by_cases h1 : a < b
    · simp [h1]
    · by_cases h2 : b < a <;> simp [h1, h2]
  go_enter Tryz.func33, Tryz.ntmps33
  go_wp2_with (fail)
  refine (nanu_any a _).mono ?_
  rintro _ _ ⟨rfl, rfl⟩
  go_wp2_with (fail)
  refine (nanu_any b _).mono ?_
  rintro _ _ ⟨rfl, rfl⟩
  go_wp2
  all_goals
    go_ret
    refine ⟨congrArg (fun z => Ending.returned (.int .i64 z)) ?_, rfl⟩
    have := hc.out
    omega

def orI (a b c : Int) : Int := if a = 0 then if b = 0 then c else b else a
theorem or3_any (a b c : Int) (k : Nat) (w : World) (hk : Blk w k 3 #[.int .i64 a, .int .i64 b, .int .i64 c]) :
    Calls Tryz.prog 31 #[.slice (some ⟨k, 0, none⟩) 3 3] w fun e w' => e = .returned (.int .i64 (orI a b c)) ∧ w = w' := by
  have k0 := hk.cell 0
  have k1 := hk.cell 1
  have k2 := hk.cell 2
  by_cases h1 : a = 0
  · have f1 : (a != 0) = false := by simp [h1]
    by_cases h2 : b = 0
    · have f2 : (b != 0) = false := by simp [h2]
      by_cases h3 : c = 0
      · have f3 : (c != 0) = false := by simp [h3]
        have hr : Hid (orI a b c = 0) := by show _ = _; unfold orI; rw [if_pos h1, if_pos h2, h3]
        clear h1 h2 h3
        go_enter Tryz.func31, Tryz.ntmps31
        go_wp2
        refine wp_loop_rounds 4 ?_
        rw [rounds_succ]
        go_wp2
        rw [rounds_succ]
        go_wp2
        rw [rounds_succ]
        go_wp2
        rw [rounds_succ]
        go_wp2
        go_ret
        exact ⟨by rw [hr.out]; rfl, rfl⟩
      · have f3 : (c != 0) = true := by simp [h3]
        have hr : Hid (orI a b c = c) := by show _ = _; unfold orI; rw [if_pos h1, if_pos h2]
        clear h1 h2 h3
        go_enter Tryz.func31, Tryz.ntmps31
        go_wp2
        refine wp_loop_rounds 4 ?_
        rw [rounds_succ]
        go_wp2
        rw [rounds_succ]
        go_wp2
        rw [rounds_succ]
        go_wp2
        go_ret
        exact ⟨by rw [hr.out]; rfl, rfl⟩
    · have f2 : (b != 0) = true := by simp [h2]
      have hr : Hid (orI a b c = b) := by show _ = _; unfold orI; rw [if_pos h1, if_neg h2]
      clear h1 h2
      go_enter Tryz.func31, Tryz.ntmps31
      go_wp2
      refine wp_loop_rounds 4 ?_
      rw [rounds_succ]
      go_wp2
      rw [rounds_succ]
      go_wp2
      go_ret
      exact ⟨by rw [hr.out]; rfl, rfl⟩
  · have f1 : (a != 0) = true := by simp [h1]
    have hr : Hid (orI a b c = a) := by show _ = _; unfold orI; rw [if_neg h1]
    clear h1
    go_enter Tryz.func31, Tryz.ntmps31
    go_wp2
    refine wp_loop_rounds 4 ?_
    rw [rounds_succ]
    go_wp2
    go_ret
    exact ⟨by rw [hr.out]; rfl, rfl⟩
theorem less_or (x y : Id) : decide (orI (cmpI x.b y.b) (cmpI x.s y.s) (cmpI (x.u : Int) (y.u : Int)) < 0) = Id.less x y := by
  unfold Id.less
  by_cases h1 : x.b = y.b
  · have e1 : cmpI x.b y.b = 0 := by unfold cmpI; rw [if_neg (by omega), if_neg (by omega)]
    rw [if_pos h1, e1]
    by_cases h2 : x.s = y.s
    · have e2 : cmpI x.s y.s = 0 := by unfold cmpI; rw [if_neg (by omega), if_neg (by omega)]
      rw [if_pos h2, e2]
      show decide (cmpI (x.u : Int) (y.u : Int) < 0) = _
      unfold cmpI
      rw [Bool.eq_iff_iff]
      simp only [decide_eq_true_eq]
      split
      · omega
      · split <;> omega
    · rw [if_neg h2]
      have e2 : cmpI x.s y.s ≠ 0 := by unfold cmpI; split; omega; split <;> omega
      show decide ((if cmpI x.s y.s = 0 then _ else cmpI x.s y.s) < 0) = _
      rw [if_neg e2, Bool.eq_iff_iff]
      simp only [decide_eq_true_eq]
      unfold cmpI
      split
      · omega
      · split <;> omega
  · rw [if_neg h1]
    have e1 : cmpI x.b y.b ≠ 0 := by unfold cmpI; split; omega; split <;> omega
    unfold orI
    rw [if_neg e1, Bool.eq_iff_iff]
    simp only [decide_eq_true_eq]
    unfold cmpI
    split
    · omega
    · split <;> omega
set_option maxHeartbeats 1000000 in
theorem opless_any (x y : Id) (w : World) :
    Calls Tryz.prog 20 #[.agg #[.int .i64 x.b, .int .i64 x.s, .int .u64 (x.u : Int)], .agg #[.int .i64 y.b, .int .i64 y.s, .int .u64 (y.u : Int)]] w (BoolPost (Id.less x y) w) := by
  have hf := ((Fr.refl Non w).alloc (.cells #[.int .i64 x.b, .int .i64 x.s, .int .u64 (x.u : Int)] 27)).alloc (.cells #[.int .i64 y.b, .int .i64 y.s, .int .u64 (y.u : Int)] 27)
  have hx := (Blk.new w 27 #[.int .i64 x.b, .int .i64 x.s, .int .u64 (x.u : Int)]).alloc (.cells #[.int .i64 y.b, .int .i64 y.s, .int .u64 (y.u : Int)] 27)
  have hy := Blk.new (w.alloc (.cells #[.int .i64 x.b, .int .i64 x.s, .int .u64 (x.u : Int)] 27)) 27 #[.int .i64 y.b, .int .i64 y.s, .int .u64 (y.u : Int)]
  rw [World.size_alloc] at hy
  have hl := less_or x y
  have hl' := Lib.hid hl
  clear hl
  go_enter Tryz.func20, Tryz.ntmps20
  go_upto_region 1 with (fail)
  generalize (w.alloc (.cells #[.int .i64 x.b, .int .i64 x.s, .int .u64 (x.u : Int)] 27)).alloc (.cells #[.int .i64 y.b, .int .i64 y.s, .int .u64 (y.u : Int)] 27) = w0 at *
  have c0 : w0.drew.cell? ⟨w.heap.size, 0, none⟩ = some (.int .i64 x.b) := hx.cell 0
  have c1 : w0.drew.cell? ⟨w.heap.size, 1, none⟩ = some (.int .i64 x.s) := hx.cell 1
  have c2 : w0.drew.cell? ⟨w.heap.size, 2, none⟩ = some (.int .u64 (x.u : Int)) := hx.cell 2
  have d0 : w0.drew.cell? ⟨w.heap.size + 1, 0, none⟩ = some (.int .i64 y.b) := hy.cell 0
  have d1 : w0.drew.cell? ⟨w.heap.size + 1, 1, none⟩ = some (.int .i64 y.s) := hy.cell 1
  have d2 : w0.drew.cell? ⟨w.heap.size + 1, 2, none⟩ = some (.int .u64 (y.u : Int)) := hy.cell 2
  go_region_held3 (fun w' => w'.cell? ⟨w.heap.size, 0, none⟩ = some (.int .i64 x.b) ∧ w'.cell? ⟨w.heap.size, 1, none⟩ = some (.int .i64 x.s) ∧ w'.cell? ⟨w.heap.size, 2, none⟩ = some (.int .u64 (x.u : Int)) ∧ w'.cell? ⟨w.heap.size + 1, 0, none⟩ = some (.int .i64 y.b) ∧ w'.cell? ⟨w.heap.size + 1, 1, none⟩ = some (.int .i64 y.s) ∧ w'.cell? ⟨w.heap.size + 1, 2, none⟩ = some (.int .u64 (y.u : Int))) ((and_intros <;> first | assumption | (refine cell_alloc ?_ _; assumption))) (first
    | (go_at_call 32; (with_reducible refine (cmpi_any _ _ _).mono ?_); rintro _ _ ⟨rfl, rfl⟩)
    | (go_at_call 33; (with_reducible refine (cmpu_any _ _ _).mono ?_); rintro _ _ ⟨rfl, rfl⟩)
    | (go_at_call 31; (refine (or3_any _ _ _ _ _ (by exact Blk.new _ _ _)).mono ?_); rintro _ _ ⟨rfl, rfl⟩))
  go_wp2
  go_ret
  exact ⟨by rw [← hl'.out]; rfl, hf.drew.alloc _⟩
end Oq
end Go.Proofs.YtahcddlgghipjaaGreatDoor
