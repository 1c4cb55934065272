/-
  SignChecks: whatever the input is, the law returns true, and nothing that was there has turned.
  Condition: none.
-/
import Derived.Test.YtlcomikbmbnddaaLawOpen
import Derived.Test.YtlcomikbmbnddaaTrodFive
import Derived.Test.YtlcomikbmbnddaaOpenSig
import Derived.Test.YtlcomikbmbnddaaSignChecks
namespace Go.Proofs.Ytlcomikbmbnddaa
open Go.ChangeShapes Go.WideShapes Go.ChangeAt Go.RowKit

set_option maxRecDepth 100000 in
theorem signChecks_lifted (os : Os) (started : os.Started) (H : Type) (enc : TypeId × Value → H) :
    ReturnsInHanded {} Try.checked os 4 .any (Rows.signChecksSpec.pre6 enc Try.prog Try.f4 Rows.signChecksRow.domain false) (Rows.signChecksSpec.post enc Try.prog Try.f4 false true false false) := by
  refine returnsInHanded_of_change (C := Try.checked) Try.own started (by kernel_rfl) Try.func4
    (ChangeSpec.witness6 (enc := enc) (C := Try.checked) false ⟨#[], #[.int .u64 0, .slice none 0 0, .int .u64 0, .agg #[.int .u64 0, .int .u64 0], .int .i64 0], []⟩ 8 (by kernel_rfl) (by kernel_rfl) (by kernel_rfl) (by kernel_rfl)) ?_
  intro W base args ds gs before hval0 hW hcnd _
  have hval : ∀ (j : Nat) t v, Try.f4.params[j]? = some t → args[j]? = some v → Value.okWide Try.prog W .any base t v := hval0
  have hW' := hW
  obtain ⟨p, q, hA0, hV, rfl, hfz, hnd⟩ := hW
  have hA : DataW.TrodAll enc Try.prog W 0 (fun _ => true) true Try.f4.params.toList args.toList ds p := hA0
  rw [Try.params4] at hA hval
  obtain ⟨v0, v1, v2, v3, v4, d0, d1, d2, d3, d4, p0, p1, p2, p3, p4, rfl, rfl, rfl, h0, h1, h2, h3, h4⟩ := trodAll_five hA
  obtain ⟨y0, rfl, rfl, rfl, wf0⟩ := open_int Try.underlying22 (hval 0 22 v0 rfl rfl) h0
  obtain ⟨x0, rfl, hb0⟩ := u64_bd wf0
  obtain ⟨A1, c1, l1, rfl, hlc1, hc1, hr1⟩ := open_bytes Try.underlying23 Try.underlying5 (by kernel_rfl) (hval 1 23 v1 rfl rfl) h1
  obtain ⟨y2, rfl, rfl, rfl, wf2⟩ := open_int Try.underlying22 (hval 2 22 v2 rfl rfl) h2
  obtain ⟨x2, rfl, hb2⟩ := u64_bd wf2
  obtain ⟨R3, S3, rfl, hR3, hS3⟩ := open_sig (hval 3 28 v3 rfl rfl) h3
  obtain ⟨x4, rfl, rfl, rfl, wf4⟩ := open_int Try.underlying3 (hval 4 3 v4 rfl rfl) h4
  have bd4 := i64_bd wf4
  refine (checks_any x0 A1 c1 l1 x2 R3 S3 x4 W hb0 hr1 hlc1 hc1 hb2 hR3 hS3 bd4.1 bd4.2).mono fun e W' ⟨he, hf⟩ => ?_
  exact ⟨_, he, law_post Try.laidOut (by kernel_rfl) rfl (by kernel_rfl) Try.underlying4 hW' ⟨rfl, rfl, rfl⟩ hf⟩

theorem signChecks_holds : Rows.SignChecksSaid :=
  OpenClaim.holds_of_wide 4 Try.f4 rfl rfl rfl rfl rfl rfl rfl ⟨rfl, rfl, rfl, rfl, rfl⟩ rfl rfl rfl rfl rfl (by kernel_rfl) Try.func4 (by kernel_rfl)
    (of_decide_eq_true (by kernel_rfl)) (by unfold Func.isWrapper; rw [if_neg (by decide +kernel)]; exact ⟨rfl, rfl⟩)
    (fun os started H enc _ => signChecks_lifted os started H enc)
end Go.Proofs.Ytlcomikbmbnddaa
