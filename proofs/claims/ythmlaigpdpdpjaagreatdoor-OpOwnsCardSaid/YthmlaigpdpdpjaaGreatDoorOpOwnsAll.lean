/-
  OpOwns: whatever the input is, where the one listed variable is as its text lays it, the law returns true, and nothing that was there has turned.
    Condition: none.
  OpOwns: the tied card.
    Condition: none.
-/
import Derived.Test.YthmlaigpdpdpjaaGreatDoorLawOpen
import Derived.Test.YthmlaigpdpdpjaaGreatDoorOpenInts
import Derived.Test.YthmlaigpdpdpjaaGreatDoorOpOwns
import Derived.Test.YthmlaigpdpdpjaaGreatDoorKinds
import Derived.ChangeVars
import Derived.JoinedOf
import Derived.RowKitTokens
import Derived.LaidLaws
import Derived.Test.YthmlaigpdpdpjaaGreatDoorTie
import Derived.Test.YthmlaigpdpdpjaaGreatDoorCards
import Derived.SevenTiedAt
namespace Go.Proofs.YthmlaigpdpdpjaaGreatDoor
open Go.ChangeShapes Go.WideShapes Go.ChangeAt Go.RowKit

set_option maxRecDepth 100000 in
theorem opOwns_lifted (os : Os) (started : os.Started) (H : Type) (enc : TypeId × Value → H) :
    ReturnsInHanded {} Tryz.checked os 4 .any (fun w args => (Rows.opOwnsSpec.pre enc Tryz.prog Tryz.f4 [] false w args ∧ laidMetH Tryz.prog [("huddle/op.kinds", Rows.laid_huddle_op_kinds)] w) ∧ sizedMet enc Tryz.prog Tryz.f4 (OpenSpec.ofChange Rows.opOwnsSpec) false w args)
      (Rows.opOwnsSpec.post enc Tryz.prog Tryz.f4 false true false false) := by
  refine returnsInHanded_of_change_and (C := Tryz.checked) (X := fun w _ => laidMetH Tryz.prog [("huddle/op.kinds", Rows.laid_huddle_op_kinds)] w) (fun _ _ _ hh h => h.of_heap hh) Tryz.own started (by kernel_rfl) Tryz.func4
    (ChangeSpec.witness_at (enc := enc) (C := Tryz.checked) (os := os) (X := fun w _ => laidMetH Tryz.prog [("huddle/op.kinds", Rows.laid_huddle_op_kinds)] w) false (laidWorld os) #[.slice none 0 0] 8 rfl (by kernel_rfl) (by kernel_rfl) (by kernel_rfl) (by kernel_rfl) (by kernel_rfl) (laidWorld_met os _)) ?_
  intro W base args ds gs before hval0 hW _ _ hL _
  have hk := kindsAt_of_laid hL
  have hval : ∀ (j : Nat) t v, Tryz.f4.params[j]? = some t → args[j]? = some v → Value.okWide Tryz.prog W .any base t v := hval0
  have hW' := hW
  obtain ⟨p, q, hA0, hV, rfl, hfz, hnd⟩ := hW
  have hA : DataW.TrodAll enc Tryz.prog W 0 (fun _ => true) true Tryz.f4.params.toList args.toList ds p := hA0
  rw [Tryz.params4] at hA hval
  obtain ⟨v0, d0, rfl, rfl, h0⟩ := trodAll_one hA
  obtain ⟨A0, c0, l0, rfl, hlc0, hc0, hr0, hok0⟩ := open_ints Tryz.underlying22 Tryz.underlying3 (by kernel_rfl) (hval 0 22 v0 rfl rfl) h0
  refine (Oq.opOwns_law A0 c0 l0 W hk hr0 hlc0 hc0 hok0).mono fun e W' ⟨he, hf⟩ => ?_
  exact ⟨_, he, law_post Tryz.laidOut (by kernel_rfl) rfl (by kernel_rfl) Tryz.underlying4 hW' ⟨rfl, rfl, rfl⟩ hf⟩

theorem opOwns_holds : Rows.OpOwnsSaid :=
  OpenClaim.holds_of_wide 4 Tryz.f4 rfl rfl rfl rfl rfl rfl rfl ⟨rfl, rfl, rfl, rfl, rfl⟩ rfl rfl rfl rfl rfl (by kernel_rfl) Tryz.func4 (by kernel_rfl)
    (of_decide_eq_true (by kernel_rfl)) (by unfold Func.isWrapper; rw [if_neg (by decide +kernel)]; exact ⟨rfl, rfl⟩)
    (fun os started H enc _ => opOwns_lifted os started H enc)
end Go.Proofs.YthmlaigpdpdpjaaGreatDoor

namespace Go.Proofs.YthmlaigpdpdpjaaGreatDoor
open Go

set_option maxRecDepth 100000 in
theorem opOwns_card_holds : Rows.OpOwnsCardSaid :=
  Claim7.holds_tied_plain_at .later [] [.data] true (true, "a86f0e2e3a6d6ae0acf804c2a7f606bf46d2136768d5dc578bbad353475d05a0") false
    opOwns_holds (fun _ h => by cases h) (by kernel_rfl) (fun _ h => by cases h) opOwns_row_tie rfl ⟨rfl, rfl⟩ (by kernel_rfl) rfl
    (fun f fn hf hfn => by
      obtain rfl : f = 4 := Option.some.inj ((show Tryz.prog.funcNamed "huddle/huddlelaw11.OpOwns" = some 4 by kernel_rfl).symm.trans hf) |>.symm
      obtain rfl : fn = Tryz.f4 := (Option.some.inj (Tryz.func4.symm.trans hfn)).symm
      exact ⟨by kernel_rfl, fun j t ht => by
        rw [Tryz.params4] at ht
        have hm : t ∈ ([22] : List TypeId) := by
          have h2 := Array.mem_of_getElem? ht
          simpa using h2
        have hall : ([22] : List TypeId).all (fun t => !(Tryz.prog.wantsStandIn t)) = true := by kernel_rfl
        have := List.all_eq_true.1 hall t hm
        exact (by simpa using this : Tryz.prog.wantsStandIn t = false)⟩)
    (by kernel_rfl)
end Go.Proofs.YthmlaigpdpdpjaaGreatDoor
