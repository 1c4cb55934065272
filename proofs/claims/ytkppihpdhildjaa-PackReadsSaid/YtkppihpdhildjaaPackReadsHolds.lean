/-
  PackReads: whatever the input is, the law returns true, and nothing that was there has turned.
  Condition: none.
-/
import Derived.Test.YtkppihpdhildjaaLawOpen
import Derived.Test.YtkppihpdhildjaaPackOpen
import Derived.Test.YtkppihpdhildjaaPackReads
import Derived.Test.YtkppihpdhildjaaTrodFive
namespace Go.Proofs.Ytkppihpdhildjaa
open Go.ChangeShapes Go.WideShapes Go.ChangeAt Go.RowKit

set_option maxRecDepth 100000 in
theorem packReads_lifted (os : Os) (started : os.Started) (H : Type) (enc : TypeId × Value → H) :
    ReturnsInHanded {} Try.checked os 9 .any (Rows.packReadsSpec.pre6 enc Try.prog Try.f9 Rows.packReadsRow.domain false) (Rows.packReadsSpec.post enc Try.prog Try.f9 false true false false) := by
  refine returnsInHanded_of_change (C := Try.checked) Try.own started (by kernel_rfl) Try.func9
    (ChangeSpec.witness6 (enc := enc) (C := Try.checked) false ⟨#[], #[.slice none 0 0, .slice none 0 0, .slice none 0 0, .int .i64 0, .int .u8 0], []⟩ 8 (by kernel_rfl) (by kernel_rfl) (by kernel_rfl) (by kernel_rfl)) ?_
  intro W base args ds gs before hval0 hW hcnd _
  have hval : ∀ (j : Nat) t v, Try.f9.params[j]? = some t → args[j]? = some v → Value.okWide Try.prog W .any base t v := hval0
  have hW' := hW
  obtain ⟨p, q, hA0, hV, rfl, hfz, hnd⟩ := hW
  have hA : DataW.TrodAll enc Try.prog W 0 (fun _ => true) true Try.f9.params.toList args.toList ds p := hA0
  rw [Try.params9] at hA hval
  obtain ⟨v0, v1, v2, v3, v4, d0, d1, d2, d3, d4, p0, p1, p2, p3, p4, rfl, rfl, rfl, h0, h1, h2, h3, h4⟩ := trodAll_five hA
  obtain ⟨A0, c0, l0, rfl, hlc0, hc0, hr0⟩ := open_bytes Try.underlying24 Try.underlying5 (by kernel_rfl) (hval 0 24 v0 rfl rfl) h0
  obtain ⟨A1, c1, l1, rfl, hlc1, hc1, hr1, hok1⟩ := open_ods (hval 1 31 v1 rfl rfl) h1
  obtain ⟨A2, c2, l2, rfl, hlc2, hc2, hr2, hok2⟩ := open_ods (hval 2 31 v2 rfl rfl) h2
  obtain ⟨x3, rfl, rfl, rfl, wf3⟩ := open_int Try.underlying3 (hval 3 3 v3 rfl rfl) h3
  have bd3 := i64_bd wf3
  obtain ⟨y4, rfl, rfl, rfl, wf4⟩ := open_int Try.underlying5 (hval 4 5 v4 rfl rfl) h4
  obtain ⟨x4, rfl⟩ := u8_bd wf4
  refine (reads_any A0 A1 A2 c0 c1 c2 l0 l1 l2 x3 x4 W hr0 hlc0 hc0 hr1 (Nat.le_trans hlc1 hc1) hok1 hr2 (Nat.le_trans hlc2 hc2) hok2 bd3.1 bd3.2).mono fun e W' ⟨he, hf⟩ => ?_
  exact ⟨_, he, law_post Try.laidOut (by kernel_rfl) rfl (by kernel_rfl) Try.underlying4 hW' ⟨rfl, rfl, rfl⟩ hf⟩

theorem packReads_holds : Rows.PackReadsSaid :=
  OpenClaim.holds_of_wide 9 Try.f9 rfl rfl rfl rfl rfl rfl rfl ⟨rfl, rfl, rfl, rfl, rfl⟩ rfl rfl rfl rfl rfl (by kernel_rfl) Try.func9 (by kernel_rfl)
    (of_decide_eq_true (by kernel_rfl)) (by unfold Func.isWrapper; rw [if_neg (by decide +kernel)]; exact ⟨rfl, rfl⟩)
    (fun os started H enc _ => packReads_lifted os started H enc)
end Go.Proofs.Ytkppihpdhildjaa
