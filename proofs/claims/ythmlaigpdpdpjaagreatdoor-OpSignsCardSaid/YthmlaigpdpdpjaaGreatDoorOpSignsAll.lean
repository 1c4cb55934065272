/-
  OpSigns: whatever the input is, where the one listed variable is as its text lays it, the law returns true, and nothing that was there has turned.
    Condition: none.
  OpSigns: the tied card.
    Condition: none.
-/
import Derived.Test.YthmlaigpdpdpjaaGreatDoorLawOpen
import Derived.Test.YthmlaigpdpdpjaaGreatDoorOpenInts
import Derived.Test.YthmlaigpdpdpjaaGreatDoorOpSigns
import Derived.Test.YthmlaigpdpdpjaaGreatDoorKinds
import Derived.ChangeVars
import Derived.JoinedOf
import Derived.RowKitTokens
import Derived.LaidLaws
import Derived.Test.YthmlaigpdpdpjaaGreatDoorTie
import Derived.Test.YthmlaigpdpdpjaaGreatDoorCards
import Derived.SevenTiedAt
namespace Go.Proofs.YthmlaigpdpdpjaaGreatDoor
open Go.ChangeShapes Go.WideShapes Go.ChangeAt Go.RowKit

set_option maxRecDepth 100000 in
theorem opSigns_lifted (os : Os) (started : os.Started) (H : Type) (enc : TypeId × Value → H) :
    ReturnsInHanded {} Tryz.checked os 5 .any (fun w args => (Rows.opSignsSpec.pre enc Tryz.prog Tryz.f5 [] false w args ∧ laidMetH Tryz.prog [("huddle/op.kinds", Rows.laid_huddle_op_kinds)] w) ∧ sizedMet enc Tryz.prog Tryz.f5 (OpenSpec.ofChange Rows.opSignsSpec) false w args)
      (Rows.opSignsSpec.post enc Tryz.prog Tryz.f5 false true false false) := by
  refine returnsInHanded_of_change_and (C := Tryz.checked) (X := fun w _ => laidMetH Tryz.prog [("huddle/op.kinds", Rows.laid_huddle_op_kinds)] w) (fun _ _ _ hh h => h.of_heap hh) Tryz.own started (by kernel_rfl) Tryz.func5
    (ChangeSpec.witness_at (enc := enc) (C := Tryz.checked) (os := os) (X := fun w _ => laidMetH Tryz.prog [("huddle/op.kinds", Rows.laid_huddle_op_kinds)] w) false (laidWorld os) #[.slice none 0 0, .int .i64 0, .int .i64 0] 8 rfl (by kernel_rfl) (by kernel_rfl) (by kernel_rfl) (by kernel_rfl) (by kernel_rfl) (laidWorld_met os _)) ?_
  intro W base args ds gs before hval0 hW _ _ hL _
  have hk := kindsAt_of_laid hL
  have hval : ∀ (j : Nat) t v, Tryz.f5.params[j]? = some t → args[j]? = some v → Value.okWide Tryz.prog W .any base t v := hval0
  have hW' := hW
  obtain ⟨p, q, hA0, hV, rfl, hfz, hnd⟩ := hW
  have hA : DataW.TrodAll enc Tryz.prog W 0 (fun _ => true) true Tryz.f5.params.toList args.toList ds p := hA0
  rw [Tryz.params5] at hA hval
  obtain ⟨v0, v1, v2, d0, d1, d2, p0, p1, p2, rfl, rfl, rfl, h0, h1, h2⟩ := trodAll_three hA
  obtain ⟨A0, c0, l0, rfl, hlc0, hc0, hr0, hok0⟩ := open_ints Tryz.underlying22 Tryz.underlying3 (by kernel_rfl) (hval 0 22 v0 rfl rfl) h0
  obtain ⟨x1, rfl, rfl, rfl, wf1⟩ := open_int Tryz.underlying3 (hval 1 3 v1 rfl rfl) h1
  have bd1 := i64_bd wf1
  obtain ⟨x2, rfl, rfl, rfl, wf2⟩ := open_int Tryz.underlying3 (hval 2 3 v2 rfl rfl) h2
  have bd2 := i64_bd wf2
  refine (Oq.opSigns_law A0 c0 l0 x1 x2 W hk hr0 hlc0 hc0 hok0 bd1.1 bd1.2 bd2.1 bd2.2).mono fun e W' ⟨he, hf⟩ => ?_
  exact ⟨_, he, law_post Tryz.laidOut (by kernel_rfl) rfl (by kernel_rfl) Tryz.underlying4 hW' ⟨rfl, rfl, rfl⟩ hf⟩

theorem opSigns_holds : Rows.OpSignsSaid :=
  OpenClaim.holds_of_wide 5 Tryz.f5 rfl rfl rfl rfl rfl rfl rfl ⟨rfl, rfl, rfl, rfl, rfl⟩ rfl rfl rfl rfl rfl (by kernel_rfl) Tryz.func5 (by kernel_rfl)
    (of_decide_eq_true (by kernel_rfl)) (by unfold Func.isWrapper; rw [if_neg (by decide +kernel)]; exact ⟨rfl, rfl⟩)
    (fun os started H enc _ => opSigns_lifted os started H enc)
end Go.Proofs.YthmlaigpdpdpjaaGreatDoor

namespace Go.Proofs.YthmlaigpdpdpjaaGreatDoor
open Go

set_option maxRecDepth 100000 in
theorem opSigns_card_holds : Rows.OpSignsCardSaid :=
  Claim7.holds_tied_plain_at .later [] [.data] true (true, "a86f0e2e3a6d6ae0acf804c2a7f606bf46d2136768d5dc578bbad353475d05a0") false
    opSigns_holds (fun _ h => by cases h) (by kernel_rfl) (fun _ h => by cases h) opSigns_row_tie rfl ⟨rfl, rfl⟩ (by kernel_rfl) rfl
    (fun f fn hf hfn => by
      obtain rfl : f = 5 := Option.some.inj ((show Tryz.prog.funcNamed "huddle/huddlelaw11.OpSigns" = some 5 by kernel_rfl).symm.trans hf) |>.symm
      obtain rfl : fn = Tryz.f5 := (Option.some.inj (Tryz.func5.symm.trans hfn)).symm
      exact ⟨by kernel_rfl, fun j t ht => by
        rw [Tryz.params5] at ht
        have hm : t ∈ ([22, 3, 3] : List TypeId) := by
          have h2 := Array.mem_of_getElem? ht
          simpa using h2
        have hall : ([22, 3, 3] : List TypeId).all (fun t => !(Tryz.prog.wantsStandIn t)) = true := by kernel_rfl
        have := List.all_eq_true.1 hall t hm
        exact (by simpa using this : Tryz.prog.wantsStandIn t = false)⟩)
    (by kernel_rfl)
end Go.Proofs.YthmlaigpdpdpjaaGreatDoor
