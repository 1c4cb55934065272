/-
  The helpers of the statements of layer 4: Around, Open, lives.
  Condition of Around: the bound is from 1 on.
-/
import Derived.Test.YtkppihpdhildjaaPackIn2
import Derived.Test.YtkppihpdhildjaaPackOut
namespace Go.Proofs.Ytkppihpdhildjaa
open Go.RowKit

/-- A number from 0 on, below most, made of any. -/
def around (n m : Int) : Int := (if n < 0 then -(n + 1) else n) % m
theorem around_bd {n m : Int} (h : 1 ≤ m) : 0 ≤ around n m ∧ around n m < m := by
  unfold around
  exact ⟨Int.emod_nonneg _ (by omega), Int.emod_lt_of_pos _ (by omega)⟩
theorem around_any (n m : Int) (w : World) (h0 : -9223372036854775808 ≤ n) (h1 : n ≤ 9223372036854775807) (hm : 1 ≤ m) (hm' : m ≤ 9223372036854775807) :
    Calls Try.prog 12 #[.int .i64 n, .int .i64 m] w fun e w' => e = .returned (.int .i64 (around n m)) ∧ w = w' := by
  by_cases hn : n < 0
  · have he : Hid (around n m = (-(n + 1)).tmod m) := by
      show _ = _
      unfold around
      rw [if_pos hn, Int.tmod_eq_emod_of_nonneg (by omega)]
    go_enter Try.func12, Try.ntmps12
    go_wp2
    go_ret
    refine ⟨congrArg (fun z => Ending.returned (.int .i64 z)) ?_, rfl⟩
    rw [he.out, Int.neg_tmod]
  · have he : Hid (around n m = n % m) := by show _ = _; unfold around; rw [if_neg hn]
    go_enter Try.func12, Try.ntmps12
    go_wp2
    go_ret
    exact ⟨congrArg (fun z => Ending.returned (.int .i64 z)) he.out.symm, rfl⟩

def LivesPost (w : World) (r : Ending) (w' : World) : Prop := r = .returned (.bool true) ∧ Fr Non w w'
theorem lives_any (w : World) : Calls Try.prog 15 #[] w (LivesPost w) := by
  have ho0 : OutAt (w.alloc (.cells #[.slice none 0 0] 26)) w.heap.size w.heap.size none 0 [] := ⟨Blk.new w _ _, Own.nil _ _ _ _, Nat.le_refl _⟩
  go_enter Try.func15, Try.ntmps15
  go_wp2_with (fail)
  refine (outInt_any _ _ _ _ [] (-2) _ ho0 (by omega) (by omega) (by simp)).mono ?_
  rintro _ w1 ⟨rfl, A1, c1, ho1, hf1⟩
  go_wp2_with (fail)
  refine (outText_any _ _ _ _ _ [97, 98] _ ho1 (by decide)).mono ?_
  rintro _ w2 ⟨rfl, A2, c2, ho2, hf2⟩
  go_wp2_with (fail)
  refine (outBool_any _ _ _ _ _ true _ ho2 (by decide)).mono ?_
  rintro _ w3 ⟨rfl, A3, c3, ho3, hf3⟩
  go_wp2_with (fail)
  refine (outNum_any _ _ _ _ _ 200 _ ho3 (by omega) (by decide)).mono ?_
  rintro _ w4 ⟨rfl, A4, c4, ho4, hf4⟩
  go_wp2_with (fail)
  rw [show [] ++ Pk.int (-2) ++ Pk.text [97, 98] ++ Pk.bool true ++ Pk.num 200 = [3, 4, 97, 98, 2, 200, 1] by decide] at ho4
  refine (outBytes_any _ _ _ _ _ _ ho4 (by decide)).mono ?_
  rintro _ w5 ⟨A5, c5, rfl, hown5, hf5⟩
  have hstr : (convert 24 9 (.slice A5 7 c5)).run Try.prog w5 = .ok (.string (str [3, 4, 97, 98, 2, 200, 1])) w5 := run_str 24 5 9 Try.underlying24 Try.underlying5 Try.underlying9 w5 _ _ _ c5 _ hown5.rd
  go_wp2_with (fail)
  go_ret
  refine ⟨congrArg (fun b => Ending.returned (.bool b)) (?_ : _ = true), ?_⟩
  · decide +kernel
  have hf := ((OStep.refl w.heap.size (w.alloc (.cells #[.slice none 0 0] 26)) none).trans hf1).trans ((hf2.trans hf3).trans hf4)
  exact (((Fr.refl Non w).alloc _).trans hf.fr (fun i hi e => by rcases e with e | e; omega; cases e)).trans hf5 (fun _ _ e => e)
end Go.Proofs.Ytkppihpdhildjaa
