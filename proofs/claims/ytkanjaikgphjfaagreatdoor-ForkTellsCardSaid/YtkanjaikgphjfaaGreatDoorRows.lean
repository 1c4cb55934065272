/-
  NARROWER THAN 'FOR EVERY INPUT', by the rows' own cells (each row's printed sentence says how): ForkMore: laid · ForkVoid: laid · ForkTells: laid · ForkRow: laid · ForkOnce: laid · ForkProof: laid.
  DERIVED. THE GIVEN ROWS OF THIS SEAT. 6 by the template 'for every input the law returns true; each argument reads behind the call as it read before'; 0 by the template 'total and deterministic' (their statements: YtkanjaikgphjfaaGreatDoorTotals.lean).
  GIVEN WITH THE SEED: the statements are not yours to turn. If you find one false, say at which input.
  Laid BY PROGRAM, IN A SANDBOX (cutbox-rows.mjs): the forced cells as the released guide's own fill.sh prints them over the translation 9c931a468856e843… (all of the seat's roots in one cut). By AI agents, Wed Nov 11 2026. No macro, syntax, notation, axiom, sorry.
-/
import Derived.Test.YtkanjaikgphjfaaGreatDoorChecked
import GoSem.Claim
import GoSem.ClaimJoined
import GoSem.ClaimMapViews
import Derived.JoinedTies
import Derived.KernelRfl
namespace Go.Proofs.YtkanjaikgphjfaaGreatDoor
/- THE CELL 'sum', in the pinned program and in every row, IS THE sha256 OF THE DUMP (.gsa) THAT YtkanjaikgphjfaaGreatDoorProg.lean LOADS. Nothing in Lean hashes anything: it is a label: what it is worth is what the hold of that sum in a sandbox is worth. -/
noncomputable def Tryz.pinned : Pinned := { name := "ytkanjaikgphjfaagreatdoor", sum := "9c931a468856e84356eb97e15200ee16f3e4b21f9a128b3433b99c5c2f0a9ad5", checked := Tryz.checked }
namespace Rows
def none {H : Type} : Left H := { results := [], args := [] }

/- WHAT THE LISTED PACKAGE-LEVEL VARIABLES READ AS WHEN THE CALL BEGINS. Each datum BY PROGRAM (the guide's laid-datum.mjs) off the statement by which the dump's own 'gosem.cut.vars' lays the variable. In a bare row this is a premise. The card (YtkanjaikgphjfaaGreatDoorCards.lean) ties it to the program's text. -/
def laid_huddle_op_kinds {H : Type} : DataW H := .agg [.lit (.int .i64 0), .lit (.int .i64 2064), .lit (.int .i64 32793), .lit (.int .i64 21), .lit (.int .i64 16), .lit (.int .i64 12), .lit (.int .i64 480), .lit (.int .i64 640), .lit (.int .i64 512), .lit (.int .i64 31744), .lit (.int .i64 8704), .lit (.int .i64 8705), .lit (.int .i64 512), .lit (.int .i64 33299)]

/-- 'huddlelaw13.ForkMore': WHATEVER THE INPUT: true; the input reads as it did. -/
def forkMoreSpec : ChangeSpec := { name := "forkMore", fn := fun _ => fun
  | [d1, d2] => { results := [.lit (.bool true)], args := [d1, d2] }
  | _ => none }
def forkMoreRow : OpenClaim := { program := "ytkanjaikgphjfaagreatdoor", sum := "9c931a468856e84356eb97e15200ee16f3e4b21f9a128b3433b99c5c2f0a9ad5", func := "huddle/huddlelaw13.ForkMore", spec := "forkMore", unfollowed := true, recurses := true, named := ["huddle/op.kinds"], plainKeys := false, apart := false, laid := [("huddle/op.kinds", laid_huddle_op_kinds)] }
def ForkMoreSaid : Prop := forkMoreRow.holds Tryz.pinned (OpenSpec.ofChange forkMoreSpec)

/-- ITS FALSE NEIGHBOUR: 'it returns false'. Refute it at one input. -/
def forkMoreWrong : ChangeSpec := { name := "forkMore", fn := fun _ => fun
  | [d1, d2] => { results := [.lit (.bool false)], args := [d1, d2] }
  | _ => none }
def ForkMoreWrongFalsely : Prop := forkMoreRow.holds Tryz.pinned (OpenSpec.ofChange forkMoreWrong)

/-- 'huddlelaw13.ForkVoid': WHATEVER THE INPUT: true; the input reads as it did. -/
def forkVoidSpec : ChangeSpec := { name := "forkVoid", fn := fun _ => fun
  | [d1, d2] => { results := [.lit (.bool true)], args := [d1, d2] }
  | _ => none }
def forkVoidRow : OpenClaim := { program := "ytkanjaikgphjfaagreatdoor", sum := "9c931a468856e84356eb97e15200ee16f3e4b21f9a128b3433b99c5c2f0a9ad5", func := "huddle/huddlelaw13.ForkVoid", spec := "forkVoid", unfollowed := true, recurses := true, named := ["huddle/op.kinds"], plainKeys := false, apart := false, laid := [("huddle/op.kinds", laid_huddle_op_kinds)] }
def ForkVoidSaid : Prop := forkVoidRow.holds Tryz.pinned (OpenSpec.ofChange forkVoidSpec)

/-- ITS FALSE NEIGHBOUR: 'it returns false'. Refute it at one input. -/
def forkVoidWrong : ChangeSpec := { name := "forkVoid", fn := fun _ => fun
  | [d1, d2] => { results := [.lit (.bool false)], args := [d1, d2] }
  | _ => none }
def ForkVoidWrongFalsely : Prop := forkVoidRow.holds Tryz.pinned (OpenSpec.ofChange forkVoidWrong)

/-- 'huddlelaw13.ForkTells': WHATEVER THE INPUT: true; the input reads as it did. -/
def forkTellsSpec : ChangeSpec := { name := "forkTells", fn := fun _ => fun
  | [d1, d2, d3] => { results := [.lit (.bool true)], args := [d1, d2, d3] }
  | _ => none }
def forkTellsRow : OpenClaim := { program := "ytkanjaikgphjfaagreatdoor", sum := "9c931a468856e84356eb97e15200ee16f3e4b21f9a128b3433b99c5c2f0a9ad5", func := "huddle/huddlelaw13.ForkTells", spec := "forkTells", unfollowed := true, recurses := true, named := ["huddle/op.kinds"], plainKeys := false, apart := false, laid := [("huddle/op.kinds", laid_huddle_op_kinds)] }
def ForkTellsSaid : Prop := forkTellsRow.holds Tryz.pinned (OpenSpec.ofChange forkTellsSpec)

/-- ITS FALSE NEIGHBOUR: 'it returns false'. Refute it at one input. -/
def forkTellsWrong : ChangeSpec := { name := "forkTells", fn := fun _ => fun
  | [d1, d2, d3] => { results := [.lit (.bool false)], args := [d1, d2, d3] }
  | _ => none }
def ForkTellsWrongFalsely : Prop := forkTellsRow.holds Tryz.pinned (OpenSpec.ofChange forkTellsWrong)

/-- 'huddlelaw13.ForkRow': WHATEVER THE INPUT: true; the input reads as it did. -/
def forkRowSpec : ChangeSpec := { name := "forkRow", fn := fun _ => fun
  | [d1, d2, d3, d4] => { results := [.lit (.bool true)], args := [d1, d2, d3, d4] }
  | _ => none }
def forkRowRow : OpenClaim := { program := "ytkanjaikgphjfaagreatdoor", sum := "9c931a468856e84356eb97e15200ee16f3e4b21f9a128b3433b99c5c2f0a9ad5", func := "huddle/huddlelaw13.ForkRow", spec := "forkRow", unfollowed := true, recurses := true, named := ["huddle/op.kinds"], plainKeys := false, apart := false, laid := [("huddle/op.kinds", laid_huddle_op_kinds)] }
def ForkRowSaid : Prop := forkRowRow.holds Tryz.pinned (OpenSpec.ofChange forkRowSpec)

/-- ITS FALSE NEIGHBOUR: 'it returns false'. Refute it at one input. -/
def forkRowWrong : ChangeSpec := { name := "forkRow", fn := fun _ => fun
  | [d1, d2, d3, d4] => { results := [.lit (.bool false)], args := [d1, d2, d3, d4] }
  | _ => none }
def ForkRowWrongFalsely : Prop := forkRowRow.holds Tryz.pinned (OpenSpec.ofChange forkRowWrong)

/-- 'huddlelaw13.ForkOnce': WHATEVER THE INPUT: true; the input reads as it did. -/
def forkOnceSpec : ChangeSpec := { name := "forkOnce", fn := fun _ => fun
  | [d] => { results := [.lit (.bool true)], args := [d] }
  | _ => none }
def forkOnceRow : OpenClaim := { program := "ytkanjaikgphjfaagreatdoor", sum := "9c931a468856e84356eb97e15200ee16f3e4b21f9a128b3433b99c5c2f0a9ad5", func := "huddle/huddlelaw13.ForkOnce", spec := "forkOnce", unfollowed := true, recurses := true, named := ["huddle/op.kinds"], plainKeys := false, apart := false, laid := [("huddle/op.kinds", laid_huddle_op_kinds)] }
def ForkOnceSaid : Prop := forkOnceRow.holds Tryz.pinned (OpenSpec.ofChange forkOnceSpec)

/-- ITS FALSE NEIGHBOUR: 'it returns false'. Refute it at one input. -/
def forkOnceWrong : ChangeSpec := { name := "forkOnce", fn := fun _ => fun
  | [d] => { results := [.lit (.bool false)], args := [d] }
  | _ => none }
def ForkOnceWrongFalsely : Prop := forkOnceRow.holds Tryz.pinned (OpenSpec.ofChange forkOnceWrong)

/-- 'huddlelaw13.ForkProof': WHATEVER THE INPUT: true; the input reads as it did. -/
def forkProofSpec : ChangeSpec := { name := "forkProof", fn := fun _ => fun
  | [d1, d2, d3] => { results := [.lit (.bool true)], args := [d1, d2, d3] }
  | _ => none }
def forkProofRow : OpenClaim := { program := "ytkanjaikgphjfaagreatdoor", sum := "9c931a468856e84356eb97e15200ee16f3e4b21f9a128b3433b99c5c2f0a9ad5", func := "huddle/huddlelaw13.ForkProof", spec := "forkProof", unfollowed := true, recurses := true, named := ["huddle/op.kinds"], plainKeys := false, apart := false, laid := [("huddle/op.kinds", laid_huddle_op_kinds)] }
def ForkProofSaid : Prop := forkProofRow.holds Tryz.pinned (OpenSpec.ofChange forkProofSpec)

/-- ITS FALSE NEIGHBOUR: 'it returns false'. Refute it at one input. -/
def forkProofWrong : ChangeSpec := { name := "forkProof", fn := fun _ => fun
  | [d1, d2, d3] => { results := [.lit (.bool false)], args := [d1, d2, d3] }
  | _ => none }
def ForkProofWrongFalsely : Prop := forkProofRow.holds Tryz.pinned (OpenSpec.ofChange forkProofWrong)

/- THE SECOND FORM. 'bulk': how many values and letters a reading holds, each counted each time it is reached (what is shared counts as often as it is met; a slice's spare places count too). A statement '..UptoSaid' is the law's where the arguments, and the package variables that the reading takes, are together of bulk at most 1048576: NARROWER than '..Said'. Prove '..Said' where nothing that the law and all that it calls make is longer than what came in: it says more and counts as full. Else prove '..UptoSaid'. A law counts once. -/
mutual
def uptoBulk {H : Type} : DataW H → Nat
  | .lit (.string bytes) => bytes.length + 1
  | .lit _ => 1
  | .nil => 1
  | .ptr d => uptoBulk d + 1
  | .slice elems spare => uptoBulkAll elems + uptoBulkAll spare + 1
  | .agg parts => uptoBulkAll parts + 1
  | .iface _ d => uptoBulk d + 1
  | .map entries => uptoBulkEntries entries + 1
  | .held _ => 1
def uptoBulkAll {H : Type} : List (DataW H) → Nat
  | [] => 0
  | d :: r => uptoBulk d + uptoBulkAll r
def uptoBulkEntries {H : Type} : List (Lit × DataW H) → Nat
  | [] => 0
  | x :: r => uptoBulkEntry x + uptoBulkEntries r
def uptoBulkEntry {H : Type} : Lit × DataW H → Nat
  | (.string bytes, d) => bytes.length + uptoBulk d + 1
  | (_, d) => uptoBulk d + 1
 end
def uptoSmall : (H : Type) → List (DataW H) → Bool := fun _ ds => decide (uptoBulkAll ds ≤ 1048576)
def OpenSpec.upto (s : _root_.Go.ChangeSpec) : _root_.Go.OpenSpec := { _root_.Go.OpenSpec.ofChange s with cond := some uptoSmall }

/-- 'huddlelaw13.ForkMore', WHERE WHAT IT READS IS OF BULK AT MOST 1048576: true; the input reads as it did. -/
def forkMoreUptoRow : OpenClaim := { program := "ytkanjaikgphjfaagreatdoor", sum := "9c931a468856e84356eb97e15200ee16f3e4b21f9a128b3433b99c5c2f0a9ad5", func := "huddle/huddlelaw13.ForkMore", spec := "forkMore", unfollowed := true, recurses := true, named := ["huddle/op.kinds"], plainKeys := false, apart := false, laid := [("huddle/op.kinds", laid_huddle_op_kinds)], narrowed := true }
def ForkMoreUptoSaid : Prop := forkMoreUptoRow.holds Tryz.pinned (OpenSpec.upto forkMoreSpec)

/-- 'huddlelaw13.ForkVoid', WHERE WHAT IT READS IS OF BULK AT MOST 1048576: true; the input reads as it did. -/
def forkVoidUptoRow : OpenClaim := { program := "ytkanjaikgphjfaagreatdoor", sum := "9c931a468856e84356eb97e15200ee16f3e4b21f9a128b3433b99c5c2f0a9ad5", func := "huddle/huddlelaw13.ForkVoid", spec := "forkVoid", unfollowed := true, recurses := true, named := ["huddle/op.kinds"], plainKeys := false, apart := false, laid := [("huddle/op.kinds", laid_huddle_op_kinds)], narrowed := true }
def ForkVoidUptoSaid : Prop := forkVoidUptoRow.holds Tryz.pinned (OpenSpec.upto forkVoidSpec)

/-- 'huddlelaw13.ForkTells', WHERE WHAT IT READS IS OF BULK AT MOST 1048576: true; the input reads as it did. -/
def forkTellsUptoRow : OpenClaim := { program := "ytkanjaikgphjfaagreatdoor", sum := "9c931a468856e84356eb97e15200ee16f3e4b21f9a128b3433b99c5c2f0a9ad5", func := "huddle/huddlelaw13.ForkTells", spec := "forkTells", unfollowed := true, recurses := true, named := ["huddle/op.kinds"], plainKeys := false, apart := false, laid := [("huddle/op.kinds", laid_huddle_op_kinds)], narrowed := true }
def ForkTellsUptoSaid : Prop := forkTellsUptoRow.holds Tryz.pinned (OpenSpec.upto forkTellsSpec)

/-- 'huddlelaw13.ForkRow', WHERE WHAT IT READS IS OF BULK AT MOST 1048576: true; the input reads as it did. -/
def forkRowUptoRow : OpenClaim := { program := "ytkanjaikgphjfaagreatdoor", sum := "9c931a468856e84356eb97e15200ee16f3e4b21f9a128b3433b99c5c2f0a9ad5", func := "huddle/huddlelaw13.ForkRow", spec := "forkRow", unfollowed := true, recurses := true, named := ["huddle/op.kinds"], plainKeys := false, apart := false, laid := [("huddle/op.kinds", laid_huddle_op_kinds)], narrowed := true }
def ForkRowUptoSaid : Prop := forkRowUptoRow.holds Tryz.pinned (OpenSpec.upto forkRowSpec)

/-- 'huddlelaw13.ForkOnce', WHERE WHAT IT READS IS OF BULK AT MOST 1048576: true; the input reads as it did. -/
def forkOnceUptoRow : OpenClaim := { program := "ytkanjaikgphjfaagreatdoor", sum := "9c931a468856e84356eb97e15200ee16f3e4b21f9a128b3433b99c5c2f0a9ad5", func := "huddle/huddlelaw13.ForkOnce", spec := "forkOnce", unfollowed := true, recurses := true, named := ["huddle/op.kinds"], plainKeys := false, apart := false, laid := [("huddle/op.kinds", laid_huddle_op_kinds)], narrowed := true }
def ForkOnceUptoSaid : Prop := forkOnceUptoRow.holds Tryz.pinned (OpenSpec.upto forkOnceSpec)

/-- 'huddlelaw13.ForkProof', WHERE WHAT IT READS IS OF BULK AT MOST 1048576: true; the input reads as it did. -/
def forkProofUptoRow : OpenClaim := { program := "ytkanjaikgphjfaagreatdoor", sum := "9c931a468856e84356eb97e15200ee16f3e4b21f9a128b3433b99c5c2f0a9ad5", func := "huddle/huddlelaw13.ForkProof", spec := "forkProof", unfollowed := true, recurses := true, named := ["huddle/op.kinds"], plainKeys := false, apart := false, laid := [("huddle/op.kinds", laid_huddle_op_kinds)], narrowed := true }
def ForkProofUptoSaid : Prop := forkProofUptoRow.holds Tryz.pinned (OpenSpec.upto forkProofSpec)

end Rows
end Go.Proofs.YtkanjaikgphjfaaGreatDoor
