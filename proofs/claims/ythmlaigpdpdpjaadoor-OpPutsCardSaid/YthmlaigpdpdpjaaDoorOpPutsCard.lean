/-
  OpPuts: the tied card.
  Condition: none.
-/
import Derived.Test.YthmlaigpdpdpjaaDoorOpPutsHolds
import Derived.Test.YthmlaigpdpdpjaaDoorTie
import Derived.Test.YthmlaigpdpdpjaaDoorCards
import Derived.SevenTiedAt
namespace Go.Proofs.YthmlaigpdpdpjaaDoor
open Go

set_option maxRecDepth 100000 in
theorem opPuts_card_holds : Rows.OpPutsCardSaid :=
  Claim7.holds_tied_plain_at .later [] [.data] true (true, "4017466a5e9b2906d6f1280fe387addeffcf3904cab4b5c9f54ece5cfe6bead9") false
    opPuts_holds (fun _ h => by cases h) (by kernel_rfl) (fun _ h => by cases h) opPuts_row_tie rfl ⟨rfl, rfl⟩ (by kernel_rfl) rfl
    (fun f fn hf hfn => by
      obtain rfl : f = 6 := Option.some.inj ((show Tryd.prog.funcNamed "huddle/huddlelaw11.OpPuts" = some 6 by kernel_rfl).symm.trans hf) |>.symm
      obtain rfl : fn = Tryd.f6 := (Option.some.inj (Tryd.func6.symm.trans hfn)).symm
      exact ⟨by kernel_rfl, fun j t ht => by
        rw [Tryd.params6] at ht
        have hm : t ∈ ([22, 3, 3, 33] : List TypeId) := by
          have h2 := Array.mem_of_getElem? ht
          simpa using h2
        have hall : ([22, 3, 3, 33] : List TypeId).all (fun t => !(Tryd.prog.wantsStandIn t)) = true := by kernel_rfl
        have := List.all_eq_true.1 hall t hm
        exact (by simpa using this : Tryd.prog.wantsStandIn t = false)⟩)
    (by kernel_rfl)
end Go.Proofs.YthmlaigpdpdpjaaDoor
