/-
  OpRound: whatever the input is, where the one listed variable is as its text lays it, the law returns true, and nothing that was there has turned.
  Condition: none.
-/
import Derived.Test.YthmlaigpdpdpjaaDoorLawOpen
import Derived.Test.YthmlaigpdpdpjaaDoorTrodSix
import Derived.Test.YthmlaigpdpdpjaaDoorOpenInts
import Derived.Test.YthmlaigpdpdpjaaDoorOpRound
import Derived.Test.YthmlaigpdpdpjaaDoorKinds
import Derived.ChangeVars
import Derived.JoinedOf
import Derived.RowKitTokens
import Derived.LaidLaws
namespace Go.Proofs.YthmlaigpdpdpjaaDoor
open Go.ChangeShapes Go.WideShapes Go.ChangeAt Go.RowKit

set_option maxRecDepth 100000 in
theorem opRound_lifted (os : Os) (started : os.Started) (H : Type) (enc : TypeId × Value → H) :
    ReturnsInHanded {} Tryd.checked os 3 .any (fun w args => (Rows.opRoundSpec.pre enc Tryd.prog Tryd.f3 [] false w args ∧ laidMetH Tryd.prog [("huddle/op.kinds", Rows.laid_huddle_op_kinds)] w) ∧ sizedMet enc Tryd.prog Tryd.f3 (OpenSpec.ofChange Rows.opRoundSpec) false w args)
      (Rows.opRoundSpec.post enc Tryd.prog Tryd.f3 false true false false) := by
  refine returnsInHanded_of_change_and (C := Tryd.checked) (X := fun w _ => laidMetH Tryd.prog [("huddle/op.kinds", Rows.laid_huddle_op_kinds)] w) (fun _ _ _ hh h => h.of_heap hh) Tryd.own started (by kernel_rfl) Tryd.func3
    (ChangeSpec.witness_at (enc := enc) (C := Tryd.checked) (os := os) (X := fun w _ => laidMetH Tryd.prog [("huddle/op.kinds", Rows.laid_huddle_op_kinds)] w) false (laidWorld os) #[.slice none 0 0, .int .i64 0, .int .i64 0, .int .i64 0, .int .u8 0, .slice none 0 0] 8 rfl (by kernel_rfl) (by kernel_rfl) (by kernel_rfl) (by kernel_rfl) (by kernel_rfl) (laidWorld_met os _)) ?_
  intro W base args ds gs before hval0 hW _ _ hL _
  have hk := kindsAt_of_laid hL
  have hval : ∀ (j : Nat) t v, Tryd.f3.params[j]? = some t → args[j]? = some v → Value.okWide Tryd.prog W .any base t v := hval0
  have hW' := hW
  obtain ⟨p, q, hA0, hV, rfl, hfz, hnd⟩ := hW
  have hA : DataW.TrodAll enc Tryd.prog W 0 (fun _ => true) true Tryd.f3.params.toList args.toList ds p := hA0
  rw [Tryd.params3] at hA hval
  obtain ⟨v0, v1, v2, v3, v4, v5, d0, d1, d2, d3, d4, d5, p0, p1, p2, p3, p4, p5, rfl, rfl, rfl, h0, h1, h2, h3, h4, h5⟩ := trodAll_six hA
  obtain ⟨A0, c0, l0, rfl, hlc0, hc0, hr0, hok0⟩ := open_ints Tryd.underlying22 Tryd.underlying3 (by kernel_rfl) (hval 0 22 v0 rfl rfl) h0
  obtain ⟨x1, rfl, rfl, rfl, wf1⟩ := open_int Tryd.underlying3 (hval 1 3 v1 rfl rfl) h1
  have bd1 := i64_bd wf1
  obtain ⟨x2, rfl, rfl, rfl, wf2⟩ := open_int Tryd.underlying3 (hval 2 3 v2 rfl rfl) h2
  have bd2 := i64_bd wf2
  obtain ⟨x3, rfl, rfl, rfl, wf3⟩ := open_int Tryd.underlying3 (hval 3 3 v3 rfl rfl) h3
  have bd3 := i64_bd wf3
  obtain ⟨y4, rfl, rfl, rfl, wf4⟩ := open_int Tryd.underlying5 (hval 4 5 v4 rfl rfl) h4
  obtain ⟨x4, rfl⟩ := u8_bd wf4
  obtain ⟨A5, c5, l5, rfl, hlc5, hc5, hr5⟩ := open_bytes Tryd.underlying23 Tryd.underlying5 (by kernel_rfl) (hval 5 23 v5 rfl rfl) h5
  refine (Oq.opRound_law A0 c0 l0 x1 x2 x3 x4 A5 c5 l5 W hk hr0 hlc0 hc0 hok0 bd1.1 bd1.2 bd2.1 bd2.2 bd3.1 bd3.2 hr5 hlc5 hc5).mono fun e W' ⟨he, hf⟩ => ?_
  exact ⟨_, he, law_post Tryd.laidOut (by kernel_rfl) rfl (by kernel_rfl) Tryd.underlying4 hW' ⟨rfl, rfl, rfl⟩ hf⟩

theorem opRound_holds : Rows.OpRoundSaid :=
  OpenClaim.holds_of_wide 3 Tryd.f3 rfl rfl rfl rfl rfl rfl rfl ⟨rfl, rfl, rfl, rfl, rfl⟩ rfl rfl rfl rfl rfl (by kernel_rfl) Tryd.func3 (by kernel_rfl)
    (of_decide_eq_true (by kernel_rfl)) (by unfold Func.isWrapper; rw [if_neg (by decide +kernel)]; exact ⟨rfl, rfl⟩)
    (fun os started H enc _ => opRound_lifted os started H enc)
end Go.Proofs.YthmlaigpdpdpjaaDoor
