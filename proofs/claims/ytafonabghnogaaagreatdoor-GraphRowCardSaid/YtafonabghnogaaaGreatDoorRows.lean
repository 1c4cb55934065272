/-
  NARROWER THAN 'FOR EVERY INPUT', by the rows' own cells (each row's printed sentence says how): GraphRaw: laid · GraphRow: laid · GraphSeq: laid · GraphAdds: laid · GraphOrder: laid · GraphFull: laid · GraphOwn: laid · GraphPasts: laid · GraphHeads: laid.
  DERIVED. THE GIVEN ROWS OF THIS SEAT. 9 by the template 'for every input the law returns true; each argument reads behind the call as it read before'; 0 by the template 'total and deterministic' (their statements: YtafonabghnogaaaGreatDoorTotals.lean).
  GIVEN WITH THE SEED: the statements are not yours to turn. If you find one false, say at which input.
  Laid BY PROGRAM, IN A SANDBOX (cutbox-rows.mjs): the forced cells as the released guide's own fill.sh prints them over the translation dcee4289d37b135d… (all of the seat's roots in one cut). By AI agents, Wed Nov 11 2026. No macro, syntax, notation, axiom, sorry.
-/
import Derived.Test.YtafonabghnogaaaGreatDoorChecked
import GoSem.Claim
import GoSem.ClaimJoined
import GoSem.ClaimMapViews
import Derived.JoinedTies
import Derived.KernelRfl
namespace Go.Proofs.YtafonabghnogaaaGreatDoor
/- THE CELL 'sum', in the pinned program and in every row, IS THE sha256 OF THE DUMP (.gsa) THAT YtafonabghnogaaaGreatDoorProg.lean LOADS. Nothing in Lean hashes anything: it is a label: what it is worth is what the hold of that sum in a sandbox is worth. -/
noncomputable def Tryz.pinned : Pinned := { name := "ytafonabghnogaaagreatdoor", sum := "dcee4289d37b135d141e5479123df9b8f10980de9e9a14122608498c4ea15bde", checked := Tryz.checked }
namespace Rows
def none {H : Type} : Left H := { results := [], args := [] }

/- WHAT THE LISTED PACKAGE-LEVEL VARIABLES READ AS WHEN THE CALL BEGINS. Each datum BY PROGRAM (the guide's laid-datum.mjs) off the statement by which the dump's own 'gosem.cut.vars' lays the variable. In a bare row this is a premise. The card (YtafonabghnogaaaGreatDoorCards.lean) ties it to the program's text. -/
def laid_huddle_op_kinds {H : Type} : DataW H := .agg [.lit (.int .i64 0), .lit (.int .i64 2064), .lit (.int .i64 32793), .lit (.int .i64 21), .lit (.int .i64 16), .lit (.int .i64 12), .lit (.int .i64 480), .lit (.int .i64 640), .lit (.int .i64 512), .lit (.int .i64 31744), .lit (.int .i64 8704), .lit (.int .i64 8705), .lit (.int .i64 512), .lit (.int .i64 33299)]

/-- 'huddlelaw12.GraphRaw': WHATEVER THE INPUT: true; the input reads as it did. -/
def graphRawSpec : ChangeSpec := { name := "graphRaw", fn := fun _ => fun
  | [d1, d2, d3] => { results := [.lit (.bool true)], args := [d1, d2, d3] }
  | _ => none }
def graphRawRow : OpenClaim := { program := "ytafonabghnogaaagreatdoor", sum := "dcee4289d37b135d141e5479123df9b8f10980de9e9a14122608498c4ea15bde", func := "huddle/huddlelaw12.GraphRaw", spec := "graphRaw", unfollowed := true, recurses := true, named := ["huddle/op.kinds"], plainKeys := false, apart := false, laid := [("huddle/op.kinds", laid_huddle_op_kinds)] }
def GraphRawSaid : Prop := graphRawRow.holds Tryz.pinned (OpenSpec.ofChange graphRawSpec)

/-- ITS FALSE NEIGHBOUR: 'it returns false'. Refute it at one input. -/
def graphRawWrong : ChangeSpec := { name := "graphRaw", fn := fun _ => fun
  | [d1, d2, d3] => { results := [.lit (.bool false)], args := [d1, d2, d3] }
  | _ => none }
def GraphRawWrongFalsely : Prop := graphRawRow.holds Tryz.pinned (OpenSpec.ofChange graphRawWrong)

/-- 'huddlelaw12.GraphRow': WHATEVER THE INPUT: true; the input reads as it did. -/
def graphRowSpec : ChangeSpec := { name := "graphRow", fn := fun _ => fun
  | [d1, d2] => { results := [.lit (.bool true)], args := [d1, d2] }
  | _ => none }
def graphRowRow : OpenClaim := { program := "ytafonabghnogaaagreatdoor", sum := "dcee4289d37b135d141e5479123df9b8f10980de9e9a14122608498c4ea15bde", func := "huddle/huddlelaw12.GraphRow", spec := "graphRow", unfollowed := true, recurses := true, named := ["huddle/op.kinds"], plainKeys := false, apart := false, laid := [("huddle/op.kinds", laid_huddle_op_kinds)] }
def GraphRowSaid : Prop := graphRowRow.holds Tryz.pinned (OpenSpec.ofChange graphRowSpec)

/-- ITS FALSE NEIGHBOUR: 'it returns false'. Refute it at one input. -/
def graphRowWrong : ChangeSpec := { name := "graphRow", fn := fun _ => fun
  | [d1, d2] => { results := [.lit (.bool false)], args := [d1, d2] }
  | _ => none }
def GraphRowWrongFalsely : Prop := graphRowRow.holds Tryz.pinned (OpenSpec.ofChange graphRowWrong)

/-- 'huddlelaw12.GraphSeq': WHATEVER THE INPUT: true; the input reads as it did. -/
def graphSeqSpec : ChangeSpec := { name := "graphSeq", fn := fun _ => fun
  | [d] => { results := [.lit (.bool true)], args := [d] }
  | _ => none }
def graphSeqRow : OpenClaim := { program := "ytafonabghnogaaagreatdoor", sum := "dcee4289d37b135d141e5479123df9b8f10980de9e9a14122608498c4ea15bde", func := "huddle/huddlelaw12.GraphSeq", spec := "graphSeq", unfollowed := true, recurses := true, named := ["huddle/op.kinds"], plainKeys := false, apart := false, laid := [("huddle/op.kinds", laid_huddle_op_kinds)] }
def GraphSeqSaid : Prop := graphSeqRow.holds Tryz.pinned (OpenSpec.ofChange graphSeqSpec)

/-- ITS FALSE NEIGHBOUR: 'it returns false'. Refute it at one input. -/
def graphSeqWrong : ChangeSpec := { name := "graphSeq", fn := fun _ => fun
  | [d] => { results := [.lit (.bool false)], args := [d] }
  | _ => none }
def GraphSeqWrongFalsely : Prop := graphSeqRow.holds Tryz.pinned (OpenSpec.ofChange graphSeqWrong)

/-- 'huddlelaw12.GraphAdds': WHATEVER THE INPUT: true; the input reads as it did. -/
def graphAddsSpec : ChangeSpec := { name := "graphAdds", fn := fun _ => fun
  | [d1, d2, d3] => { results := [.lit (.bool true)], args := [d1, d2, d3] }
  | _ => none }
def graphAddsRow : OpenClaim := { program := "ytafonabghnogaaagreatdoor", sum := "dcee4289d37b135d141e5479123df9b8f10980de9e9a14122608498c4ea15bde", func := "huddle/huddlelaw12.GraphAdds", spec := "graphAdds", unfollowed := true, recurses := true, named := ["huddle/op.kinds"], plainKeys := false, apart := false, laid := [("huddle/op.kinds", laid_huddle_op_kinds)] }
def GraphAddsSaid : Prop := graphAddsRow.holds Tryz.pinned (OpenSpec.ofChange graphAddsSpec)

/-- ITS FALSE NEIGHBOUR: 'it returns false'. Refute it at one input. -/
def graphAddsWrong : ChangeSpec := { name := "graphAdds", fn := fun _ => fun
  | [d1, d2, d3] => { results := [.lit (.bool false)], args := [d1, d2, d3] }
  | _ => none }
def GraphAddsWrongFalsely : Prop := graphAddsRow.holds Tryz.pinned (OpenSpec.ofChange graphAddsWrong)

/-- 'huddlelaw12.GraphOrder': WHATEVER THE INPUT: true; the input reads as it did. -/
def graphOrderSpec : ChangeSpec := { name := "graphOrder", fn := fun _ => fun
  | [d] => { results := [.lit (.bool true)], args := [d] }
  | _ => none }
def graphOrderRow : OpenClaim := { program := "ytafonabghnogaaagreatdoor", sum := "dcee4289d37b135d141e5479123df9b8f10980de9e9a14122608498c4ea15bde", func := "huddle/huddlelaw12.GraphOrder", spec := "graphOrder", unfollowed := true, recurses := true, named := ["huddle/op.kinds"], plainKeys := false, apart := false, laid := [("huddle/op.kinds", laid_huddle_op_kinds)] }
def GraphOrderSaid : Prop := graphOrderRow.holds Tryz.pinned (OpenSpec.ofChange graphOrderSpec)

/-- ITS FALSE NEIGHBOUR: 'it returns false'. Refute it at one input. -/
def graphOrderWrong : ChangeSpec := { name := "graphOrder", fn := fun _ => fun
  | [d] => { results := [.lit (.bool false)], args := [d] }
  | _ => none }
def GraphOrderWrongFalsely : Prop := graphOrderRow.holds Tryz.pinned (OpenSpec.ofChange graphOrderWrong)

/-- 'huddlelaw12.GraphFull': WHATEVER THE INPUT: true; the input reads as it did. -/
def graphFullSpec : ChangeSpec := { name := "graphFull", fn := fun _ => fun
  | [d] => { results := [.lit (.bool true)], args := [d] }
  | _ => none }
def graphFullRow : OpenClaim := { program := "ytafonabghnogaaagreatdoor", sum := "dcee4289d37b135d141e5479123df9b8f10980de9e9a14122608498c4ea15bde", func := "huddle/huddlelaw12.GraphFull", spec := "graphFull", unfollowed := true, recurses := true, named := ["huddle/op.kinds"], plainKeys := false, apart := false, laid := [("huddle/op.kinds", laid_huddle_op_kinds)] }
def GraphFullSaid : Prop := graphFullRow.holds Tryz.pinned (OpenSpec.ofChange graphFullSpec)

/-- ITS FALSE NEIGHBOUR: 'it returns false'. Refute it at one input. -/
def graphFullWrong : ChangeSpec := { name := "graphFull", fn := fun _ => fun
  | [d] => { results := [.lit (.bool false)], args := [d] }
  | _ => none }
def GraphFullWrongFalsely : Prop := graphFullRow.holds Tryz.pinned (OpenSpec.ofChange graphFullWrong)

/-- 'huddlelaw12.GraphOwn': WHATEVER THE INPUT: true; the input reads as it did. -/
def graphOwnSpec : ChangeSpec := { name := "graphOwn", fn := fun _ => fun
  | [d] => { results := [.lit (.bool true)], args := [d] }
  | _ => none }
def graphOwnRow : OpenClaim := { program := "ytafonabghnogaaagreatdoor", sum := "dcee4289d37b135d141e5479123df9b8f10980de9e9a14122608498c4ea15bde", func := "huddle/huddlelaw12.GraphOwn", spec := "graphOwn", unfollowed := true, recurses := true, named := ["huddle/op.kinds"], plainKeys := false, apart := false, laid := [("huddle/op.kinds", laid_huddle_op_kinds)] }
def GraphOwnSaid : Prop := graphOwnRow.holds Tryz.pinned (OpenSpec.ofChange graphOwnSpec)

/-- ITS FALSE NEIGHBOUR: 'it returns false'. Refute it at one input. -/
def graphOwnWrong : ChangeSpec := { name := "graphOwn", fn := fun _ => fun
  | [d] => { results := [.lit (.bool false)], args := [d] }
  | _ => none }
def GraphOwnWrongFalsely : Prop := graphOwnRow.holds Tryz.pinned (OpenSpec.ofChange graphOwnWrong)

/-- 'huddlelaw12.GraphPasts': WHATEVER THE INPUT: true; the input reads as it did. -/
def graphPastsSpec : ChangeSpec := { name := "graphPasts", fn := fun _ => fun
  | [d1, d2, d3, d4] => { results := [.lit (.bool true)], args := [d1, d2, d3, d4] }
  | _ => none }
def graphPastsRow : OpenClaim := { program := "ytafonabghnogaaagreatdoor", sum := "dcee4289d37b135d141e5479123df9b8f10980de9e9a14122608498c4ea15bde", func := "huddle/huddlelaw12.GraphPasts", spec := "graphPasts", unfollowed := true, recurses := true, named := ["huddle/op.kinds"], plainKeys := false, apart := false, laid := [("huddle/op.kinds", laid_huddle_op_kinds)] }
def GraphPastsSaid : Prop := graphPastsRow.holds Tryz.pinned (OpenSpec.ofChange graphPastsSpec)

/-- ITS FALSE NEIGHBOUR: 'it returns false'. Refute it at one input. -/
def graphPastsWrong : ChangeSpec := { name := "graphPasts", fn := fun _ => fun
  | [d1, d2, d3, d4] => { results := [.lit (.bool false)], args := [d1, d2, d3, d4] }
  | _ => none }
def GraphPastsWrongFalsely : Prop := graphPastsRow.holds Tryz.pinned (OpenSpec.ofChange graphPastsWrong)

/-- 'huddlelaw12.GraphHeads': WHATEVER THE INPUT: true; the input reads as it did. -/
def graphHeadsSpec : ChangeSpec := { name := "graphHeads", fn := fun _ => fun
  | [d1, d2, d3] => { results := [.lit (.bool true)], args := [d1, d2, d3] }
  | _ => none }
def graphHeadsRow : OpenClaim := { program := "ytafonabghnogaaagreatdoor", sum := "dcee4289d37b135d141e5479123df9b8f10980de9e9a14122608498c4ea15bde", func := "huddle/huddlelaw12.GraphHeads", spec := "graphHeads", unfollowed := true, recurses := true, named := ["huddle/op.kinds"], plainKeys := false, apart := false, laid := [("huddle/op.kinds", laid_huddle_op_kinds)] }
def GraphHeadsSaid : Prop := graphHeadsRow.holds Tryz.pinned (OpenSpec.ofChange graphHeadsSpec)

/-- ITS FALSE NEIGHBOUR: 'it returns false'. Refute it at one input. -/
def graphHeadsWrong : ChangeSpec := { name := "graphHeads", fn := fun _ => fun
  | [d1, d2, d3] => { results := [.lit (.bool false)], args := [d1, d2, d3] }
  | _ => none }
def GraphHeadsWrongFalsely : Prop := graphHeadsRow.holds Tryz.pinned (OpenSpec.ofChange graphHeadsWrong)

/- THE SECOND FORM. 'bulk': how many values and letters a reading holds, each counted each time it is reached (what is shared counts as often as it is met; a slice's spare places count too). A statement '..UptoSaid' is the law's where the arguments, and the package variables that the reading takes, are together of bulk at most 1048576: NARROWER than '..Said'. Prove '..Said' where nothing that the law and all that it calls make is longer than what came in: it says more and counts as full. Else prove '..UptoSaid'. A law counts once. -/
mutual
def uptoBulk {H : Type} : DataW H → Nat
  | .lit (.string bytes) => bytes.length + 1
  | .lit _ => 1
  | .nil => 1
  | .ptr d => uptoBulk d + 1
  | .slice elems spare => uptoBulkAll elems + uptoBulkAll spare + 1
  | .agg parts => uptoBulkAll parts + 1
  | .iface _ d => uptoBulk d + 1
  | .map entries => uptoBulkEntries entries + 1
  | .held _ => 1
def uptoBulkAll {H : Type} : List (DataW H) → Nat
  | [] => 0
  | d :: r => uptoBulk d + uptoBulkAll r
def uptoBulkEntries {H : Type} : List (Lit × DataW H) → Nat
  | [] => 0
  | x :: r => uptoBulkEntry x + uptoBulkEntries r
def uptoBulkEntry {H : Type} : Lit × DataW H → Nat
  | (.string bytes, d) => bytes.length + uptoBulk d + 1
  | (_, d) => uptoBulk d + 1
 end
def uptoSmall : (H : Type) → List (DataW H) → Bool := fun _ ds => decide (uptoBulkAll ds ≤ 1048576)
def OpenSpec.upto (s : _root_.Go.ChangeSpec) : _root_.Go.OpenSpec := { _root_.Go.OpenSpec.ofChange s with cond := some uptoSmall }

/-- 'huddlelaw12.GraphRaw', WHERE WHAT IT READS IS OF BULK AT MOST 1048576: true; the input reads as it did. -/
def graphRawUptoRow : OpenClaim := { program := "ytafonabghnogaaagreatdoor", sum := "dcee4289d37b135d141e5479123df9b8f10980de9e9a14122608498c4ea15bde", func := "huddle/huddlelaw12.GraphRaw", spec := "graphRaw", unfollowed := true, recurses := true, named := ["huddle/op.kinds"], plainKeys := false, apart := false, laid := [("huddle/op.kinds", laid_huddle_op_kinds)], narrowed := true }
def GraphRawUptoSaid : Prop := graphRawUptoRow.holds Tryz.pinned (OpenSpec.upto graphRawSpec)

/-- 'huddlelaw12.GraphRow', WHERE WHAT IT READS IS OF BULK AT MOST 1048576: true; the input reads as it did. -/
def graphRowUptoRow : OpenClaim := { program := "ytafonabghnogaaagreatdoor", sum := "dcee4289d37b135d141e5479123df9b8f10980de9e9a14122608498c4ea15bde", func := "huddle/huddlelaw12.GraphRow", spec := "graphRow", unfollowed := true, recurses := true, named := ["huddle/op.kinds"], plainKeys := false, apart := false, laid := [("huddle/op.kinds", laid_huddle_op_kinds)], narrowed := true }
def GraphRowUptoSaid : Prop := graphRowUptoRow.holds Tryz.pinned (OpenSpec.upto graphRowSpec)

/-- 'huddlelaw12.GraphSeq', WHERE WHAT IT READS IS OF BULK AT MOST 1048576: true; the input reads as it did. -/
def graphSeqUptoRow : OpenClaim := { program := "ytafonabghnogaaagreatdoor", sum := "dcee4289d37b135d141e5479123df9b8f10980de9e9a14122608498c4ea15bde", func := "huddle/huddlelaw12.GraphSeq", spec := "graphSeq", unfollowed := true, recurses := true, named := ["huddle/op.kinds"], plainKeys := false, apart := false, laid := [("huddle/op.kinds", laid_huddle_op_kinds)], narrowed := true }
def GraphSeqUptoSaid : Prop := graphSeqUptoRow.holds Tryz.pinned (OpenSpec.upto graphSeqSpec)

/-- 'huddlelaw12.GraphAdds', WHERE WHAT IT READS IS OF BULK AT MOST 1048576: true; the input reads as it did. -/
def graphAddsUptoRow : OpenClaim := { program := "ytafonabghnogaaagreatdoor", sum := "dcee4289d37b135d141e5479123df9b8f10980de9e9a14122608498c4ea15bde", func := "huddle/huddlelaw12.GraphAdds", spec := "graphAdds", unfollowed := true, recurses := true, named := ["huddle/op.kinds"], plainKeys := false, apart := false, laid := [("huddle/op.kinds", laid_huddle_op_kinds)], narrowed := true }
def GraphAddsUptoSaid : Prop := graphAddsUptoRow.holds Tryz.pinned (OpenSpec.upto graphAddsSpec)

/-- 'huddlelaw12.GraphOrder', WHERE WHAT IT READS IS OF BULK AT MOST 1048576: true; the input reads as it did. -/
def graphOrderUptoRow : OpenClaim := { program := "ytafonabghnogaaagreatdoor", sum := "dcee4289d37b135d141e5479123df9b8f10980de9e9a14122608498c4ea15bde", func := "huddle/huddlelaw12.GraphOrder", spec := "graphOrder", unfollowed := true, recurses := true, named := ["huddle/op.kinds"], plainKeys := false, apart := false, laid := [("huddle/op.kinds", laid_huddle_op_kinds)], narrowed := true }
def GraphOrderUptoSaid : Prop := graphOrderUptoRow.holds Tryz.pinned (OpenSpec.upto graphOrderSpec)

/-- 'huddlelaw12.GraphFull', WHERE WHAT IT READS IS OF BULK AT MOST 1048576: true; the input reads as it did. -/
def graphFullUptoRow : OpenClaim := { program := "ytafonabghnogaaagreatdoor", sum := "dcee4289d37b135d141e5479123df9b8f10980de9e9a14122608498c4ea15bde", func := "huddle/huddlelaw12.GraphFull", spec := "graphFull", unfollowed := true, recurses := true, named := ["huddle/op.kinds"], plainKeys := false, apart := false, laid := [("huddle/op.kinds", laid_huddle_op_kinds)], narrowed := true }
def GraphFullUptoSaid : Prop := graphFullUptoRow.holds Tryz.pinned (OpenSpec.upto graphFullSpec)

/-- 'huddlelaw12.GraphOwn', WHERE WHAT IT READS IS OF BULK AT MOST 1048576: true; the input reads as it did. -/
def graphOwnUptoRow : OpenClaim := { program := "ytafonabghnogaaagreatdoor", sum := "dcee4289d37b135d141e5479123df9b8f10980de9e9a14122608498c4ea15bde", func := "huddle/huddlelaw12.GraphOwn", spec := "graphOwn", unfollowed := true, recurses := true, named := ["huddle/op.kinds"], plainKeys := false, apart := false, laid := [("huddle/op.kinds", laid_huddle_op_kinds)], narrowed := true }
def GraphOwnUptoSaid : Prop := graphOwnUptoRow.holds Tryz.pinned (OpenSpec.upto graphOwnSpec)

/-- 'huddlelaw12.GraphPasts', WHERE WHAT IT READS IS OF BULK AT MOST 1048576: true; the input reads as it did. -/
def graphPastsUptoRow : OpenClaim := { program := "ytafonabghnogaaagreatdoor", sum := "dcee4289d37b135d141e5479123df9b8f10980de9e9a14122608498c4ea15bde", func := "huddle/huddlelaw12.GraphPasts", spec := "graphPasts", unfollowed := true, recurses := true, named := ["huddle/op.kinds"], plainKeys := false, apart := false, laid := [("huddle/op.kinds", laid_huddle_op_kinds)], narrowed := true }
def GraphPastsUptoSaid : Prop := graphPastsUptoRow.holds Tryz.pinned (OpenSpec.upto graphPastsSpec)

/-- 'huddlelaw12.GraphHeads', WHERE WHAT IT READS IS OF BULK AT MOST 1048576: true; the input reads as it did. -/
def graphHeadsUptoRow : OpenClaim := { program := "ytafonabghnogaaagreatdoor", sum := "dcee4289d37b135d141e5479123df9b8f10980de9e9a14122608498c4ea15bde", func := "huddle/huddlelaw12.GraphHeads", spec := "graphHeads", unfollowed := true, recurses := true, named := ["huddle/op.kinds"], plainKeys := false, apart := false, laid := [("huddle/op.kinds", laid_huddle_op_kinds)], narrowed := true }
def GraphHeadsUptoSaid : Prop := graphHeadsUptoRow.holds Tryz.pinned (OpenSpec.upto graphHeadsSpec)

end Rows
end Go.Proofs.YtafonabghnogaaaGreatDoor
