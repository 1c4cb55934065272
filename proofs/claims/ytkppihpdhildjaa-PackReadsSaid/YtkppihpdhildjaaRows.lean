/-
  No cell of these rows narrows 'for every input' (looked for: loops, veiled, ifaces, maps, wideKeys, modest, calm, conditions, laid).
  DERIVED. THE GIVEN ROWS OF THIS SEAT. 9 by the template 'for every input the law returns true; each argument reads behind the call as it read before'; 0 by the template 'total and deterministic' (their statements: YtkppihpdhildjaaTotals.lean).
  GIVEN WITH THE SEED: the statements are not yours to turn. If you find one false, say at which input.
  Laid BY PROGRAM, IN A SANDBOX (cutbox-rows.mjs): the forced cells as the released guide's own fill.sh prints them over the translation 825c061f1480f7f9… (all of the seat's roots in one cut). By AI agents, Wed Nov 11 2026. No macro, syntax, notation, axiom, sorry.
-/
import Derived.Test.YtkppihpdhildjaaChecked
import GoSem.Claim
import GoSem.ClaimJoined
import GoSem.ClaimMapViews
import Derived.JoinedTies
import Derived.KernelRfl
namespace Go.Proofs.Ytkppihpdhildjaa
/- THE CELL 'sum', in the pinned program and in every row, IS THE sha256 OF THE DUMP (.gsa) THAT YtkppihpdhildjaaProg.lean LOADS. Nothing in Lean hashes anything: it is a label: what it is worth is what the hold of that sum in a sandbox is worth. -/
noncomputable def Try.pinned : Pinned := { name := "ytkppihpdhildjaa", sum := "825c061f1480f7f913fe7ea278c02268f59bc02ef7c18cca5729d4fa09c43596", checked := Try.checked }
namespace Rows
def none {H : Type} : Left H := { results := [], args := [] }

/-- 'huddlelaw04.PackSizes': WHATEVER THE INPUT: true; the input reads as it did. -/
def packSizesSpec : ChangeSpec := { name := "packSizes", fn := fun _ => fun
  | [d1, d2] => { results := [.lit (.bool true)], args := [d1, d2] }
  | _ => none }
def packSizesRow : OpenClaim := { program := "ytkppihpdhildjaa", sum := "825c061f1480f7f913fe7ea278c02268f59bc02ef7c18cca5729d4fa09c43596", func := "huddle/huddlelaw04.PackSizes", spec := "packSizes", apart := false }
def PackSizesSaid : Prop := packSizesRow.holds Try.pinned (OpenSpec.ofChange packSizesSpec)

/-- ITS FALSE NEIGHBOUR: 'it returns false'. Refute it at one input. -/
def packSizesWrong : ChangeSpec := { name := "packSizes", fn := fun _ => fun
  | [d1, d2] => { results := [.lit (.bool false)], args := [d1, d2] }
  | _ => none }
def PackSizesWrongFalsely : Prop := packSizesRow.holds Try.pinned (OpenSpec.ofChange packSizesWrong)

/-- 'huddlelaw04.PackWrites': WHATEVER THE INPUT: true; the input reads as it did. -/
def packWritesSpec : ChangeSpec := { name := "packWrites", fn := fun _ => fun
  | [d] => { results := [.lit (.bool true)], args := [d] }
  | _ => none }
def packWritesRow : OpenClaim := { program := "ytkppihpdhildjaa", sum := "825c061f1480f7f913fe7ea278c02268f59bc02ef7c18cca5729d4fa09c43596", func := "huddle/huddlelaw04.PackWrites", spec := "packWrites", apart := false }
def PackWritesSaid : Prop := packWritesRow.holds Try.pinned (OpenSpec.ofChange packWritesSpec)

/-- ITS FALSE NEIGHBOUR: 'it returns false'. Refute it at one input. -/
def packWritesWrong : ChangeSpec := { name := "packWrites", fn := fun _ => fun
  | [d] => { results := [.lit (.bool false)], args := [d] }
  | _ => none }
def PackWritesWrongFalsely : Prop := packWritesRow.holds Try.pinned (OpenSpec.ofChange packWritesWrong)

/-- 'huddlelaw04.PackOwns': WHATEVER THE INPUT: true; the input reads as it did. -/
def packOwnsSpec : ChangeSpec := { name := "packOwns", fn := fun _ => fun
  | [d1, d2] => { results := [.lit (.bool true)], args := [d1, d2] }
  | _ => none }
def packOwnsRow : OpenClaim := { program := "ytkppihpdhildjaa", sum := "825c061f1480f7f913fe7ea278c02268f59bc02ef7c18cca5729d4fa09c43596", func := "huddle/huddlelaw04.PackOwns", spec := "packOwns", apart := false }
def PackOwnsSaid : Prop := packOwnsRow.holds Try.pinned (OpenSpec.ofChange packOwnsSpec)

/-- ITS FALSE NEIGHBOUR: 'it returns false'. Refute it at one input. -/
def packOwnsWrong : ChangeSpec := { name := "packOwns", fn := fun _ => fun
  | [d1, d2] => { results := [.lit (.bool false)], args := [d1, d2] }
  | _ => none }
def PackOwnsWrongFalsely : Prop := packOwnsRow.holds Try.pinned (OpenSpec.ofChange packOwnsWrong)

/-- 'huddlelaw04.PackNumbers': WHATEVER THE INPUT: true; the input reads as it did. -/
def packNumbersSpec : ChangeSpec := { name := "packNumbers", fn := fun _ => fun
  | [d1, d2] => { results := [.lit (.bool true)], args := [d1, d2] }
  | _ => none }
def packNumbersRow : OpenClaim := { program := "ytkppihpdhildjaa", sum := "825c061f1480f7f913fe7ea278c02268f59bc02ef7c18cca5729d4fa09c43596", func := "huddle/huddlelaw04.PackNumbers", spec := "packNumbers", apart := false }
def PackNumbersSaid : Prop := packNumbersRow.holds Try.pinned (OpenSpec.ofChange packNumbersSpec)

/-- ITS FALSE NEIGHBOUR: 'it returns false'. Refute it at one input. -/
def packNumbersWrong : ChangeSpec := { name := "packNumbers", fn := fun _ => fun
  | [d1, d2] => { results := [.lit (.bool false)], args := [d1, d2] }
  | _ => none }
def PackNumbersWrongFalsely : Prop := packNumbersRow.holds Try.pinned (OpenSpec.ofChange packNumbersWrong)

/-- 'huddlelaw04.PackMany': WHATEVER THE INPUT: true; the input reads as it did. -/
def packManySpec : ChangeSpec := { name := "packMany", fn := fun _ => fun
  | [d1, d2, d3] => { results := [.lit (.bool true)], args := [d1, d2, d3] }
  | _ => none }
def packManyRow : OpenClaim := { program := "ytkppihpdhildjaa", sum := "825c061f1480f7f913fe7ea278c02268f59bc02ef7c18cca5729d4fa09c43596", func := "huddle/huddlelaw04.PackMany", spec := "packMany", apart := false }
def PackManySaid : Prop := packManyRow.holds Try.pinned (OpenSpec.ofChange packManySpec)

/-- ITS FALSE NEIGHBOUR: 'it returns false'. Refute it at one input. -/
def packManyWrong : ChangeSpec := { name := "packMany", fn := fun _ => fun
  | [d1, d2, d3] => { results := [.lit (.bool false)], args := [d1, d2, d3] }
  | _ => none }
def PackManyWrongFalsely : Prop := packManyRow.holds Try.pinned (OpenSpec.ofChange packManyWrong)

/-- 'huddlelaw04.PackOnce': WHATEVER THE INPUT: true; the input reads as it did. -/
def packOnceSpec : ChangeSpec := { name := "packOnce", fn := fun _ => fun
  | [d1, d2] => { results := [.lit (.bool true)], args := [d1, d2] }
  | _ => none }
def packOnceRow : OpenClaim := { program := "ytkppihpdhildjaa", sum := "825c061f1480f7f913fe7ea278c02268f59bc02ef7c18cca5729d4fa09c43596", func := "huddle/huddlelaw04.PackOnce", spec := "packOnce", unfollowed := true, recurses := true, apart := false }
def PackOnceSaid : Prop := packOnceRow.holds Try.pinned (OpenSpec.ofChange packOnceSpec)

/-- ITS FALSE NEIGHBOUR: 'it returns false'. Refute it at one input. -/
def packOnceWrong : ChangeSpec := { name := "packOnce", fn := fun _ => fun
  | [d1, d2] => { results := [.lit (.bool false)], args := [d1, d2] }
  | _ => none }
def PackOnceWrongFalsely : Prop := packOnceRow.holds Try.pinned (OpenSpec.ofChange packOnceWrong)

/-- 'huddlelaw04.PackReads': WHATEVER THE INPUT: true; the input reads as it did. -/
def packReadsSpec : ChangeSpec := { name := "packReads", fn := fun _ => fun
  | [d1, d2, d3, d4, d5] => { results := [.lit (.bool true)], args := [d1, d2, d3, d4, d5] }
  | _ => none }
def packReadsRow : OpenClaim := { program := "ytkppihpdhildjaa", sum := "825c061f1480f7f913fe7ea278c02268f59bc02ef7c18cca5729d4fa09c43596", func := "huddle/huddlelaw04.PackReads", spec := "packReads", unfollowed := true, recurses := true, apart := false }
def PackReadsSaid : Prop := packReadsRow.holds Try.pinned (OpenSpec.ofChange packReadsSpec)

/-- ITS FALSE NEIGHBOUR: 'it returns false'. Refute it at one input. -/
def packReadsWrong : ChangeSpec := { name := "packReads", fn := fun _ => fun
  | [d1, d2, d3, d4, d5] => { results := [.lit (.bool false)], args := [d1, d2, d3, d4, d5] }
  | _ => none }
def PackReadsWrongFalsely : Prop := packReadsRow.holds Try.pinned (OpenSpec.ofChange packReadsWrong)

/-- 'huddlelaw04.PackPrefix': WHATEVER THE INPUT: true; the input reads as it did. -/
def packPrefixSpec : ChangeSpec := { name := "packPrefix", fn := fun _ => fun
  | [d1, d2] => { results := [.lit (.bool true)], args := [d1, d2] }
  | _ => none }
def packPrefixRow : OpenClaim := { program := "ytkppihpdhildjaa", sum := "825c061f1480f7f913fe7ea278c02268f59bc02ef7c18cca5729d4fa09c43596", func := "huddle/huddlelaw04.PackPrefix", spec := "packPrefix", unfollowed := true, recurses := true, apart := false }
def PackPrefixSaid : Prop := packPrefixRow.holds Try.pinned (OpenSpec.ofChange packPrefixSpec)

/-- ITS FALSE NEIGHBOUR: 'it returns false'. Refute it at one input. -/
def packPrefixWrong : ChangeSpec := { name := "packPrefix", fn := fun _ => fun
  | [d1, d2] => { results := [.lit (.bool false)], args := [d1, d2] }
  | _ => none }
def PackPrefixWrongFalsely : Prop := packPrefixRow.holds Try.pinned (OpenSpec.ofChange packPrefixWrong)

/-- 'huddlelaw04.PackRound': WHATEVER THE INPUT: true; the input reads as it did. -/
def packRoundSpec : ChangeSpec := { name := "packRound", fn := fun _ => fun
  | [d] => { results := [.lit (.bool true)], args := [d] }
  | _ => none }
def packRoundRow : OpenClaim := { program := "ytkppihpdhildjaa", sum := "825c061f1480f7f913fe7ea278c02268f59bc02ef7c18cca5729d4fa09c43596", func := "huddle/huddlelaw04.PackRound", spec := "packRound", unfollowed := true, recurses := true, apart := false }
def PackRoundSaid : Prop := packRoundRow.holds Try.pinned (OpenSpec.ofChange packRoundSpec)

/-- ITS FALSE NEIGHBOUR: 'it returns false'. Refute it at one input. -/
def packRoundWrong : ChangeSpec := { name := "packRound", fn := fun _ => fun
  | [d] => { results := [.lit (.bool false)], args := [d] }
  | _ => none }
def PackRoundWrongFalsely : Prop := packRoundRow.holds Try.pinned (OpenSpec.ofChange packRoundWrong)

/- THE SECOND FORM. 'bulk': how many values and letters a reading holds, each counted each time it is reached (what is shared counts as often as it is met; a slice's spare places count too). A statement '..UptoSaid' is the law's where the arguments, and the package variables that the reading takes, are together of bulk at most 1048576: NARROWER than '..Said'. Prove '..Said' where nothing that the law and all that it calls make is longer than what came in: it says more and counts as full. Else prove '..UptoSaid'. A law counts once. -/
mutual
def uptoBulk {H : Type} : DataW H → Nat
  | .lit (.string bytes) => bytes.length + 1
  | .lit _ => 1
  | .nil => 1
  | .ptr d => uptoBulk d + 1
  | .slice elems spare => uptoBulkAll elems + uptoBulkAll spare + 1
  | .agg parts => uptoBulkAll parts + 1
  | .iface _ d => uptoBulk d + 1
  | .map entries => uptoBulkEntries entries + 1
  | .held _ => 1
def uptoBulkAll {H : Type} : List (DataW H) → Nat
  | [] => 0
  | d :: r => uptoBulk d + uptoBulkAll r
def uptoBulkEntries {H : Type} : List (Lit × DataW H) → Nat
  | [] => 0
  | x :: r => uptoBulkEntry x + uptoBulkEntries r
def uptoBulkEntry {H : Type} : Lit × DataW H → Nat
  | (.string bytes, d) => bytes.length + uptoBulk d + 1
  | (_, d) => uptoBulk d + 1
 end
def uptoSmall : (H : Type) → List (DataW H) → Bool := fun _ ds => decide (uptoBulkAll ds ≤ 1048576)
def OpenSpec.upto (s : _root_.Go.ChangeSpec) : _root_.Go.OpenSpec := { _root_.Go.OpenSpec.ofChange s with cond := some uptoSmall }

/-- 'huddlelaw04.PackSizes', WHERE WHAT IT READS IS OF BULK AT MOST 1048576: true; the input reads as it did. -/
def packSizesUptoRow : OpenClaim := { program := "ytkppihpdhildjaa", sum := "825c061f1480f7f913fe7ea278c02268f59bc02ef7c18cca5729d4fa09c43596", func := "huddle/huddlelaw04.PackSizes", spec := "packSizes", apart := false, narrowed := true }
def PackSizesUptoSaid : Prop := packSizesUptoRow.holds Try.pinned (OpenSpec.upto packSizesSpec)

/-- 'huddlelaw04.PackWrites', WHERE WHAT IT READS IS OF BULK AT MOST 1048576: true; the input reads as it did. -/
def packWritesUptoRow : OpenClaim := { program := "ytkppihpdhildjaa", sum := "825c061f1480f7f913fe7ea278c02268f59bc02ef7c18cca5729d4fa09c43596", func := "huddle/huddlelaw04.PackWrites", spec := "packWrites", apart := false, narrowed := true }
def PackWritesUptoSaid : Prop := packWritesUptoRow.holds Try.pinned (OpenSpec.upto packWritesSpec)

/-- 'huddlelaw04.PackOwns', WHERE WHAT IT READS IS OF BULK AT MOST 1048576: true; the input reads as it did. -/
def packOwnsUptoRow : OpenClaim := { program := "ytkppihpdhildjaa", sum := "825c061f1480f7f913fe7ea278c02268f59bc02ef7c18cca5729d4fa09c43596", func := "huddle/huddlelaw04.PackOwns", spec := "packOwns", apart := false, narrowed := true }
def PackOwnsUptoSaid : Prop := packOwnsUptoRow.holds Try.pinned (OpenSpec.upto packOwnsSpec)

/-- 'huddlelaw04.PackNumbers', WHERE WHAT IT READS IS OF BULK AT MOST 1048576: true; the input reads as it did. -/
def packNumbersUptoRow : OpenClaim := { program := "ytkppihpdhildjaa", sum := "825c061f1480f7f913fe7ea278c02268f59bc02ef7c18cca5729d4fa09c43596", func := "huddle/huddlelaw04.PackNumbers", spec := "packNumbers", apart := false, narrowed := true }
def PackNumbersUptoSaid : Prop := packNumbersUptoRow.holds Try.pinned (OpenSpec.upto packNumbersSpec)

/-- 'huddlelaw04.PackMany', WHERE WHAT IT READS IS OF BULK AT MOST 1048576: true; the input reads as it did. -/
def packManyUptoRow : OpenClaim := { program := "ytkppihpdhildjaa", sum := "825c061f1480f7f913fe7ea278c02268f59bc02ef7c18cca5729d4fa09c43596", func := "huddle/huddlelaw04.PackMany", spec := "packMany", apart := false, narrowed := true }
def PackManyUptoSaid : Prop := packManyUptoRow.holds Try.pinned (OpenSpec.upto packManySpec)

/-- 'huddlelaw04.PackOnce', WHERE WHAT IT READS IS OF BULK AT MOST 1048576: true; the input reads as it did. -/
def packOnceUptoRow : OpenClaim := { program := "ytkppihpdhildjaa", sum := "825c061f1480f7f913fe7ea278c02268f59bc02ef7c18cca5729d4fa09c43596", func := "huddle/huddlelaw04.PackOnce", spec := "packOnce", unfollowed := true, recurses := true, apart := false, narrowed := true }
def PackOnceUptoSaid : Prop := packOnceUptoRow.holds Try.pinned (OpenSpec.upto packOnceSpec)

/-- 'huddlelaw04.PackReads', WHERE WHAT IT READS IS OF BULK AT MOST 1048576: true; the input reads as it did. -/
def packReadsUptoRow : OpenClaim := { program := "ytkppihpdhildjaa", sum := "825c061f1480f7f913fe7ea278c02268f59bc02ef7c18cca5729d4fa09c43596", func := "huddle/huddlelaw04.PackReads", spec := "packReads", unfollowed := true, recurses := true, apart := false, narrowed := true }
def PackReadsUptoSaid : Prop := packReadsUptoRow.holds Try.pinned (OpenSpec.upto packReadsSpec)

/-- 'huddlelaw04.PackPrefix', WHERE WHAT IT READS IS OF BULK AT MOST 1048576: true; the input reads as it did. -/
def packPrefixUptoRow : OpenClaim := { program := "ytkppihpdhildjaa", sum := "825c061f1480f7f913fe7ea278c02268f59bc02ef7c18cca5729d4fa09c43596", func := "huddle/huddlelaw04.PackPrefix", spec := "packPrefix", unfollowed := true, recurses := true, apart := false, narrowed := true }
def PackPrefixUptoSaid : Prop := packPrefixUptoRow.holds Try.pinned (OpenSpec.upto packPrefixSpec)

/-- 'huddlelaw04.PackRound', WHERE WHAT IT READS IS OF BULK AT MOST 1048576: true; the input reads as it did. -/
def packRoundUptoRow : OpenClaim := { program := "ytkppihpdhildjaa", sum := "825c061f1480f7f913fe7ea278c02268f59bc02ef7c18cca5729d4fa09c43596", func := "huddle/huddlelaw04.PackRound", spec := "packRound", unfollowed := true, recurses := true, apart := false, narrowed := true }
def PackRoundUptoSaid : Prop := packRoundUptoRow.holds Try.pinned (OpenSpec.upto packRoundSpec)

end Rows
end Go.Proofs.Ytkppihpdhildjaa
