/-
  The references' generator of operations (huddleref11.Op): what it answers is right by its form.
  Conditions: fewer than 2^63 numbers, as every slice has.
-/
import Derived.Test.YtahcddlgghipjaaGreatDoorGen2
import Derived.Deep.DeepCutAuto
namespace Go.Proofs.YtahcddlgghipjaaGreatDoor
open Go.RowKit
attribute [local go_sem ↓] Go.wp_at_zero Go.wp_at_succ
namespace Oq
attribute [local go_sem] Bool.not_false Bool.not_true

theorem Iv_one (l : List Int) : ∀ u ∈ l.map Iv, u.oneCell' = true := by
  intro u hu
  obtain ⟨x, _, rfl⟩ := List.mem_map.1 hu
  rfl
def NewI (w : World) (l : List Int) (r : Ending) (w' : World) : Prop :=
  ∃ A c, r = .returned (.slice A l.length c) ∧ Own w' w.heap.size 3 1 A l.length c (l.map Iv) ∧ Fr Non w w'
theorem ints01_any (B n c : Nat) (A : Option Addr) (l : List Int) (m : Nat) (w : World) (hn : Hid (l.length = n)) (hr : Rd w B 1 A n (l.map Iv)) (hc : n ≤ c) (hc' : c ≤ 9223372036854775807) (hm : m ≤ 100000) :
    Calls Tryz.prog 12 #[.slice A n c, .int .i64 (m : Int)] w (NewI w (l.take m)) := by
  have hnil := Own.nil w w.heap.size 3 1
  by_cases h : n ≤ m
  · have ht : Hid (l.take m = l) := List.take_of_length_le (by rw [hn.out]; exact h)
    go_enter Tryz.func12, Tryz.ntmps12
    go_wp2_with (first | (at_builtin; go_loud (refine wpList_app (.tmp 6) (.tmp 12) 22 rfl rfl rfl rfl slInt hnil hr (Iv_one _) (by omega) (by omega) (Nat.le_refl _) ?_); intro A2 c2 w2 hown2 hf2 hat2))
    go_ret
    rw [Nat.zero_add, List.nil_append] at hown2
    unfold NewI
    rw [ht.out, hn.out]
    exact ⟨A2, c2, rfl, hown2, hf2.mono (fun k _ hk => by cases hk)⟩
  · have hrt : Rd w B 1 A m ((l.take m).map Iv) := by rw [List.map_take]; exact hr.take (by omega)
    have hlen : Hid ((l.take m).length = m) := by show _ = _; rw [List.length_take, hn.out]; omega
    go_enter Tryz.func12, Tryz.ntmps12
    go_wp2_with (first | (at_builtin; go_loud (refine wpList_app (.tmp 6) (.tmp 12) 22 rfl rfl rfl rfl slInt hnil hrt (Iv_one _) (by omega) (by omega) (Nat.le_refl _) ?_); intro A2 c2 w2 hown2 hf2 hat2))
    go_ret
    rw [Nat.zero_add, List.nil_append] at hown2
    unfold NewI
    rw [hlen.out]
    exact ⟨A2, c2, rfl, hown2, hf2.mono (fun k _ hk => by cases hk)⟩

theorem commit11_any (k : Int) (w : World) : Calls Tryz.prog 10 #[.int .i64 k] w fun e w' => e = .returned (.bool (commit k)) ∧ w = w' := by
  have hr : Hid (commit k = (k == 1 || k == 2 || k == 3 || k == 4 || k == 13)) := rfl
  by_cases h1 : k = 1
  · have f1 := beq_t h1
    clear h1
    go_enter Tryz.func10, Tryz.ntmps10
    go_wp2
    go_ret
    exact ⟨by rw [hr.out, f1]; rfl, rfl⟩
  have f1 := beq_f h1
  by_cases h2 : k = 2
  · have f2 := beq_t h2
    clear h1 h2
    go_enter Tryz.func10, Tryz.ntmps10
    go_wp2
    go_ret
    exact ⟨by rw [hr.out, f1, f2]; rfl, rfl⟩
  have f2 := beq_f h2
  by_cases h3 : k = 3
  · have f3 := beq_t h3
    clear h1 h2 h3
    go_enter Tryz.func10, Tryz.ntmps10
    go_wp2
    go_ret
    exact ⟨by rw [hr.out, f1, f2, f3]; rfl, rfl⟩
  have f3 := beq_f h3
  by_cases h4 : k = 4
  · have f4 := beq_t h4
    clear h1 h2 h3 h4
    go_enter Tryz.func10, Tryz.ntmps10
    go_wp2
    go_ret
    exact ⟨by rw [hr.out, f1, f2, f3, f4]; rfl, rfl⟩
  have f4 := beq_f h4
  clear h1 h2 h3 h4
  go_enter Tryz.func10, Tryz.ntmps10
  go_wp2
  go_ret
  exact ⟨by rw [hr.out, f1, f2, f3, f4]; rfl, rfl⟩
end Oq
end Go.Proofs.YtahcddlgghipjaaGreatDoor
