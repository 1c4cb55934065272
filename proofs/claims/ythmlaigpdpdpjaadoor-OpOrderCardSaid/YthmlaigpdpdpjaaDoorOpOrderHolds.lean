/-
  OpOrder: whatever the input is, where the one listed variable is as its text lays it, the law returns true, and nothing that was there has turned.
  Condition: none.
-/
import Derived.Test.YthmlaigpdpdpjaaDoorLawOpen
import Derived.Test.YthmlaigpdpdpjaaDoorOpenIdent
import Derived.Test.YthmlaigpdpdpjaaDoorOpOrder
import Derived.Test.YthmlaigpdpdpjaaDoorKinds
import Derived.ChangeVars
import Derived.JoinedOf
import Derived.RowKitTokens
import Derived.LaidLaws
namespace Go.Proofs.YthmlaigpdpdpjaaDoor
open Go.ChangeShapes Go.WideShapes Go.ChangeAt Go.RowKit

set_option maxRecDepth 100000 in
theorem opOrder_lifted (os : Os) (started : os.Started) (H : Type) (enc : TypeId × Value → H) :
    ReturnsInHanded {} Tryd.checked os 5 .any (fun w args => (Rows.opOrderSpec.pre enc Tryd.prog Tryd.f5 [] false w args ∧ laidMetH Tryd.prog [("huddle/op.kinds", Rows.laid_huddle_op_kinds)] w) ∧ sizedMet enc Tryd.prog Tryd.f5 (OpenSpec.ofChange Rows.opOrderSpec) false w args)
      (Rows.opOrderSpec.post enc Tryd.prog Tryd.f5 false true false false) := by
  refine returnsInHanded_of_change_and (C := Tryd.checked) (X := fun w _ => laidMetH Tryd.prog [("huddle/op.kinds", Rows.laid_huddle_op_kinds)] w) (fun _ _ _ hh h => h.of_heap hh) Tryd.own started (by kernel_rfl) Tryd.func5
    (ChangeSpec.witness_at (enc := enc) (C := Tryd.checked) (os := os) (X := fun w _ => laidMetH Tryd.prog [("huddle/op.kinds", Rows.laid_huddle_op_kinds)] w) false (laidWorld os) #[.agg #[.int .i64 0, .int .i64 0, .int .u64 0], .agg #[.int .i64 0, .int .i64 0, .int .u64 0], .agg #[.int .i64 0, .int .i64 0, .int .u64 0], .int .i64 0] 8 rfl (by kernel_rfl) (by kernel_rfl) (by kernel_rfl) (by kernel_rfl) (by kernel_rfl) (laidWorld_met os _)) ?_
  intro W base args ds gs before hval0 hW _ _ hL _
  have hk := kindsAt_of_laid hL
  have hval : ∀ (j : Nat) t v, Tryd.f5.params[j]? = some t → args[j]? = some v → Value.okWide Tryd.prog W .any base t v := hval0
  have hW' := hW
  obtain ⟨p, q, hA0, hV, rfl, hfz, hnd⟩ := hW
  have hA : DataW.TrodAll enc Tryd.prog W 0 (fun _ => true) true Tryd.f5.params.toList args.toList ds p := hA0
  rw [Tryd.params5] at hA hval
  obtain ⟨v0, v1, v2, v3, d0, d1, d2, d3, p0, p1, p2, p3, rfl, rfl, rfl, h0, h1, h2, h3⟩ := trodAll_four hA
  obtain ⟨i0, rfl⟩ := open_ident (hval 0 28 v0 rfl rfl) h0
  obtain ⟨i1, rfl⟩ := open_ident (hval 1 28 v1 rfl rfl) h1
  obtain ⟨i2, rfl⟩ := open_ident (hval 2 28 v2 rfl rfl) h2
  obtain ⟨x3, rfl, rfl, rfl, wf3⟩ := open_int Tryd.underlying3 (hval 3 3 v3 rfl rfl) h3
  have bd3 := i64_bd wf3
  refine (Oq.opOrder_law i0 i1 i2 x3 W hk bd3.1 bd3.2).mono fun e W' ⟨he, hf⟩ => ?_
  exact ⟨_, he, law_post Tryd.laidOut (by kernel_rfl) rfl (by kernel_rfl) Tryd.underlying4 hW' ⟨rfl, rfl, rfl⟩ hf⟩

theorem opOrder_holds : Rows.OpOrderSaid :=
  OpenClaim.holds_of_wide 5 Tryd.f5 rfl rfl rfl rfl rfl rfl rfl ⟨rfl, rfl, rfl, rfl, rfl⟩ rfl rfl rfl rfl rfl (by kernel_rfl) Tryd.func5 (by kernel_rfl)
    (of_decide_eq_true (by kernel_rfl)) (by unfold Func.isWrapper; rw [if_neg (by decide +kernel)]; exact ⟨rfl, rfl⟩)
    (fun os started H enc _ => opOrder_lifted os started H enc)
end Go.Proofs.YthmlaigpdpdpjaaDoor
