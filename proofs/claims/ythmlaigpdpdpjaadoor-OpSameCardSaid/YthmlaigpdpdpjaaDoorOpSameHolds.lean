/-
  OpSame: whatever the input is, where the one listed variable is as its text lays it, the law returns true, and nothing that was there has turned.
  Condition: none.
-/
import Derived.Test.YthmlaigpdpdpjaaDoorLawOpen
import Derived.Test.YthmlaigpdpdpjaaDoorOpenInts
import Derived.Test.YthmlaigpdpdpjaaDoorOpSameLaw
import Derived.Test.YthmlaigpdpdpjaaDoorKinds
import Derived.ChangeVars
import Derived.JoinedOf
import Derived.RowKitTokens
import Derived.LaidLaws
namespace Go.Proofs.YthmlaigpdpdpjaaDoor
open Go.ChangeShapes Go.WideShapes Go.ChangeAt Go.RowKit

set_option maxRecDepth 100000 in
theorem opSame_lifted (os : Os) (started : os.Started) (H : Type) (enc : TypeId × Value → H) :
    ReturnsInHanded {} Tryd.checked os 7 .any (fun w args => (Rows.opSameSpec.pre enc Tryd.prog Tryd.f7 [] false w args ∧ laidMetH Tryd.prog [("huddle/op.kinds", Rows.laid_huddle_op_kinds)] w) ∧ sizedMet enc Tryd.prog Tryd.f7 (OpenSpec.ofChange Rows.opSameSpec) false w args)
      (Rows.opSameSpec.post enc Tryd.prog Tryd.f7 false true false false) := by
  refine returnsInHanded_of_change_and (C := Tryd.checked) (X := fun w _ => laidMetH Tryd.prog [("huddle/op.kinds", Rows.laid_huddle_op_kinds)] w) (fun _ _ _ hh h => h.of_heap hh) Tryd.own started (by kernel_rfl) Tryd.func7
    (ChangeSpec.witness_at (enc := enc) (C := Tryd.checked) (os := os) (X := fun w _ => laidMetH Tryd.prog [("huddle/op.kinds", Rows.laid_huddle_op_kinds)] w) false (laidWorld os) #[.slice none 0 0, .slice none 0 0, .int .i64 0, .int .i64 0] 8 rfl (by kernel_rfl) (by kernel_rfl) (by kernel_rfl) (by kernel_rfl) (by kernel_rfl) (laidWorld_met os _)) ?_
  intro W base args ds gs before hval0 hW _ _ hL _
  have hk := kindsAt_of_laid hL
  have hval : ∀ (j : Nat) t v, Tryd.f7.params[j]? = some t → args[j]? = some v → Value.okWide Tryd.prog W .any base t v := hval0
  have hW' := hW
  obtain ⟨p, q, hA0, hV, rfl, hfz, hnd⟩ := hW
  have hA : DataW.TrodAll enc Tryd.prog W 0 (fun _ => true) true Tryd.f7.params.toList args.toList ds p := hA0
  rw [Tryd.params7] at hA hval
  obtain ⟨v0, v1, v2, v3, d0, d1, d2, d3, p0, p1, p2, p3, rfl, rfl, rfl, h0, h1, h2, h3⟩ := trodAll_four hA
  obtain ⟨A0, c0, l0, rfl, hlc0, hc0, hr0, hok0⟩ := open_ints Tryd.underlying22 Tryd.underlying3 (by kernel_rfl) (hval 0 22 v0 rfl rfl) h0
  obtain ⟨A1, c1, l1, rfl, hlc1, hc1, hr1, hok1⟩ := open_ints Tryd.underlying22 Tryd.underlying3 (by kernel_rfl) (hval 1 22 v1 rfl rfl) h1
  obtain ⟨x2, rfl, rfl, rfl, wf2⟩ := open_int Tryd.underlying3 (hval 2 3 v2 rfl rfl) h2
  have bd2 := i64_bd wf2
  obtain ⟨x3, rfl, rfl, rfl, wf3⟩ := open_int Tryd.underlying3 (hval 3 3 v3 rfl rfl) h3
  have bd3 := i64_bd wf3
  refine (Oq.opSame_law A0 c0 l0 A1 c1 l1 x2 x3 W hk hr0 hlc0 hc0 hok0 hr1 hlc1 hc1 hok1 bd2.1 bd2.2 bd3.1 bd3.2).mono fun e W' ⟨he, hf⟩ => ?_
  exact ⟨_, he, law_post Tryd.laidOut (by kernel_rfl) rfl (by kernel_rfl) Tryd.underlying4 hW' ⟨rfl, rfl, rfl⟩ hf⟩

theorem opSame_holds : Rows.OpSameSaid :=
  OpenClaim.holds_of_wide 7 Tryd.f7 rfl rfl rfl rfl rfl rfl rfl ⟨rfl, rfl, rfl, rfl, rfl⟩ rfl rfl rfl rfl rfl (by kernel_rfl) Tryd.func7 (by kernel_rfl)
    (of_decide_eq_true (by kernel_rfl)) (by unfold Func.isWrapper; rw [if_neg (by decide +kernel)]; exact ⟨rfl, rfl⟩)
    (fun os started H enc _ => opSame_lifted os started H enc)
end Go.Proofs.YthmlaigpdpdpjaaDoor
