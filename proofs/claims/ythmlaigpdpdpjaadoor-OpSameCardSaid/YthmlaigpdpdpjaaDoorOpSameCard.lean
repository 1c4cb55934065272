/-
  OpSame: the tied card.
  Condition: none.
-/
import Derived.Test.YthmlaigpdpdpjaaDoorOpSameHolds
import Derived.Test.YthmlaigpdpdpjaaDoorTie
import Derived.Test.YthmlaigpdpdpjaaDoorCards
import Derived.SevenTiedAt
namespace Go.Proofs.YthmlaigpdpdpjaaDoor
open Go

set_option maxRecDepth 100000 in
theorem opSame_card_holds : Rows.OpSameCardSaid :=
  Claim7.holds_tied_plain_at .later [] [.data] true (true, "4017466a5e9b2906d6f1280fe387addeffcf3904cab4b5c9f54ece5cfe6bead9") false
    opSame_holds (fun _ h => by cases h) (by kernel_rfl) (fun _ h => by cases h) opSame_row_tie rfl ⟨rfl, rfl⟩ (by kernel_rfl) rfl
    (fun f fn hf hfn => by
      obtain rfl : f = 7 := Option.some.inj ((show Tryd.prog.funcNamed "huddle/huddlelaw11.OpSame" = some 7 by kernel_rfl).symm.trans hf) |>.symm
      obtain rfl : fn = Tryd.f7 := (Option.some.inj (Tryd.func7.symm.trans hfn)).symm
      exact ⟨by kernel_rfl, fun j t ht => by
        rw [Tryd.params7] at ht
        have hm : t ∈ ([22, 22, 3, 3] : List TypeId) := by
          have h2 := Array.mem_of_getElem? ht
          simpa using h2
        have hall : ([22, 22, 3, 3] : List TypeId).all (fun t => !(Tryd.prog.wantsStandIn t)) = true := by kernel_rfl
        have := List.all_eq_true.1 hall t hm
        exact (by simpa using this : Tryd.prog.wantsStandIn t = false)⟩)
    (by kernel_rfl)
end Go.Proofs.YthmlaigpdpdpjaaDoor
