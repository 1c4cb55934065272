/-
  bits.LeadingZeros64 of P - 1: three.
-/
import Derived.Test.YtlcomikbmbnddaaCommon
namespace Go.Proofs.Ytlcomikbmbnddaa
open Go.RowKit

set_option maxRecDepth 100000 in
theorem len64_order (w : World) : Calls Try.prog 50 #[.int .u64 2305843009213693950] w fun e w' => e = .returned (.int .i64 61) ∧ w = w' := by
  go_enter Try.func50, Try.ntmps50
  go_wp2
  go_ret
  refine ⟨congrArg (fun z => Ending.returned (.int .i64 z)) ?_, rfl⟩

  decide +kernel
theorem lz64_order (w : World) : Calls Try.prog 44 #[.int .u64 2305843009213693950] w fun e w' => e = .returned (.int .i64 3) ∧ w = w' := by
  go_enter Try.func44, Try.ntmps44
  go_wp2_with (fail)
  refine (len64_order _).mono ?_
  rintro _ _ ⟨rfl, rfl⟩
  go_wp2
  go_ret
  exact ⟨rfl, rfl⟩

end Go.Proofs.Ytlcomikbmbnddaa
