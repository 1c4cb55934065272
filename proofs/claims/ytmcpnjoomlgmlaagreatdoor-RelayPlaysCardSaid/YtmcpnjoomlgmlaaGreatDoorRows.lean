/-
  NARROWER THAN 'FOR EVERY INPUT', by the rows' own cells (each row's printed sentence says how): RelayPlays: laid · RelayRow: laid.
  DERIVED. THE GIVEN ROWS OF THIS SEAT. 2 by the template 'for every input the law returns true; each argument reads behind the call as it read before'; 0 by the template 'total and deterministic' (their statements: YtmcpnjoomlgmlaaGreatDoorTotals.lean).
  GIVEN WITH THE SEED: the statements are not yours to turn. If you find one false, say at which input.
  Laid BY PROGRAM, IN A SANDBOX (cutbox-rows.mjs): the forced cells as the released guide's own fill.sh prints them over the translation 5b773e4ec820c6ba… (all of the seat's roots in one cut). By AI agents, Wed Nov 11 2026. No macro, syntax, notation, axiom, sorry.
-/
import Derived.Test.YtmcpnjoomlgmlaaGreatDoorChecked
import GoSem.Claim
import GoSem.ClaimJoined
import GoSem.ClaimMapViews
import Derived.JoinedTies
import Derived.KernelRfl
namespace Go.Proofs.YtmcpnjoomlgmlaaGreatDoor
/- THE CELL 'sum', in the pinned program and in every row, IS THE sha256 OF THE DUMP (.gsa) THAT YtmcpnjoomlgmlaaGreatDoorProg.lean LOADS. Nothing in Lean hashes anything: it is a label: what it is worth is what the hold of that sum in a sandbox is worth. -/
noncomputable def Tryz.pinned : Pinned := { name := "ytmcpnjoomlgmlaagreatdoor", sum := "5b773e4ec820c6bafe68fc5cef7cd4094d890238e6f5c8ee9543c613e379ce82", checked := Tryz.checked }
namespace Rows
def none {H : Type} : Left H := { results := [], args := [] }

/- WHAT THE LISTED PACKAGE-LEVEL VARIABLES READ AS WHEN THE CALL BEGINS. Each datum BY PROGRAM (the guide's laid-datum.mjs) off the statement by which the dump's own 'gosem.cut.vars' lays the variable. In a bare row this is a premise. The card (YtmcpnjoomlgmlaaGreatDoorCards.lean) ties it to the program's text. -/
def laid_huddle_op_kinds {H : Type} : DataW H := .agg [.lit (.int .i64 0), .lit (.int .i64 2064), .lit (.int .i64 32793), .lit (.int .i64 21), .lit (.int .i64 16), .lit (.int .i64 12), .lit (.int .i64 480), .lit (.int .i64 640), .lit (.int .i64 512), .lit (.int .i64 31744), .lit (.int .i64 8704), .lit (.int .i64 8705), .lit (.int .i64 512), .lit (.int .i64 33299)]

/-- 'huddlelaw31.RelayPlays': WHATEVER THE INPUT: true; the input reads as it did. -/
def relayPlaysSpec : ChangeSpec := { name := "relayPlays", fn := fun _ => fun
  | [d1, d2, d3] => { results := [.lit (.bool true)], args := [d1, d2, d3] }
  | _ => none }
def relayPlaysRow : OpenClaim := { program := "ytmcpnjoomlgmlaagreatdoor", sum := "5b773e4ec820c6bafe68fc5cef7cd4094d890238e6f5c8ee9543c613e379ce82", func := "huddle/huddlelaw31.RelayPlays", spec := "relayPlays", unfollowed := true, recurses := true, named := ["huddle/op.kinds"], plainKeys := false, apart := false, laid := [("huddle/op.kinds", laid_huddle_op_kinds)] }
def RelayPlaysSaid : Prop := relayPlaysRow.holds Tryz.pinned (OpenSpec.ofChange relayPlaysSpec)

/-- ITS FALSE NEIGHBOUR: 'it returns false'. Refute it at one input. -/
def relayPlaysWrong : ChangeSpec := { name := "relayPlays", fn := fun _ => fun
  | [d1, d2, d3] => { results := [.lit (.bool false)], args := [d1, d2, d3] }
  | _ => none }
def RelayPlaysWrongFalsely : Prop := relayPlaysRow.holds Tryz.pinned (OpenSpec.ofChange relayPlaysWrong)

/-- 'huddlelaw31.RelayRow': WHATEVER THE INPUT: true; the input reads as it did. -/
def relayRowSpec : ChangeSpec := { name := "relayRow", fn := fun _ => fun
  | [d1, d2] => { results := [.lit (.bool true)], args := [d1, d2] }
  | _ => none }
def relayRowRow : OpenClaim := { program := "ytmcpnjoomlgmlaagreatdoor", sum := "5b773e4ec820c6bafe68fc5cef7cd4094d890238e6f5c8ee9543c613e379ce82", func := "huddle/huddlelaw31.RelayRow", spec := "relayRow", unfollowed := true, recurses := true, named := ["huddle/op.kinds"], plainKeys := false, apart := false, laid := [("huddle/op.kinds", laid_huddle_op_kinds)] }
def RelayRowSaid : Prop := relayRowRow.holds Tryz.pinned (OpenSpec.ofChange relayRowSpec)

/-- ITS FALSE NEIGHBOUR: 'it returns false'. Refute it at one input. -/
def relayRowWrong : ChangeSpec := { name := "relayRow", fn := fun _ => fun
  | [d1, d2] => { results := [.lit (.bool false)], args := [d1, d2] }
  | _ => none }
def RelayRowWrongFalsely : Prop := relayRowRow.holds Tryz.pinned (OpenSpec.ofChange relayRowWrong)

/- THE SECOND FORM. 'bulk': how many values and letters a reading holds, each counted each time it is reached (what is shared counts as often as it is met; a slice's spare places count too). A statement '..UptoSaid' is the law's where the arguments, and the package variables that the reading takes, are together of bulk at most 1048576: NARROWER than '..Said'. Prove '..Said' where nothing that the law and all that it calls make is longer than what came in: it says more and counts as full. Else prove '..UptoSaid'. A law counts once. -/
mutual
def uptoBulk {H : Type} : DataW H → Nat
  | .lit (.string bytes) => bytes.length + 1
  | .lit _ => 1
  | .nil => 1
  | .ptr d => uptoBulk d + 1
  | .slice elems spare => uptoBulkAll elems + uptoBulkAll spare + 1
  | .agg parts => uptoBulkAll parts + 1
  | .iface _ d => uptoBulk d + 1
  | .map entries => uptoBulkEntries entries + 1
  | .held _ => 1
def uptoBulkAll {H : Type} : List (DataW H) → Nat
  | [] => 0
  | d :: r => uptoBulk d + uptoBulkAll r
def uptoBulkEntries {H : Type} : List (Lit × DataW H) → Nat
  | [] => 0
  | x :: r => uptoBulkEntry x + uptoBulkEntries r
def uptoBulkEntry {H : Type} : Lit × DataW H → Nat
  | (.string bytes, d) => bytes.length + uptoBulk d + 1
  | (_, d) => uptoBulk d + 1
 end
def uptoSmall : (H : Type) → List (DataW H) → Bool := fun _ ds => decide (uptoBulkAll ds ≤ 1048576)
def OpenSpec.upto (s : _root_.Go.ChangeSpec) : _root_.Go.OpenSpec := { _root_.Go.OpenSpec.ofChange s with cond := some uptoSmall }

/-- 'huddlelaw31.RelayPlays', WHERE WHAT IT READS IS OF BULK AT MOST 1048576: true; the input reads as it did. -/
def relayPlaysUptoRow : OpenClaim := { program := "ytmcpnjoomlgmlaagreatdoor", sum := "5b773e4ec820c6bafe68fc5cef7cd4094d890238e6f5c8ee9543c613e379ce82", func := "huddle/huddlelaw31.RelayPlays", spec := "relayPlays", unfollowed := true, recurses := true, named := ["huddle/op.kinds"], plainKeys := false, apart := false, laid := [("huddle/op.kinds", laid_huddle_op_kinds)], narrowed := true }
def RelayPlaysUptoSaid : Prop := relayPlaysUptoRow.holds Tryz.pinned (OpenSpec.upto relayPlaysSpec)

/-- 'huddlelaw31.RelayRow', WHERE WHAT IT READS IS OF BULK AT MOST 1048576: true; the input reads as it did. -/
def relayRowUptoRow : OpenClaim := { program := "ytmcpnjoomlgmlaagreatdoor", sum := "5b773e4ec820c6bafe68fc5cef7cd4094d890238e6f5c8ee9543c613e379ce82", func := "huddle/huddlelaw31.RelayRow", spec := "relayRow", unfollowed := true, recurses := true, named := ["huddle/op.kinds"], plainKeys := false, apart := false, laid := [("huddle/op.kinds", laid_huddle_op_kinds)], narrowed := true }
def RelayRowUptoSaid : Prop := relayRowUptoRow.holds Tryz.pinned (OpenSpec.upto relayRowSpec)

end Rows
end Go.Proofs.YtmcpnjoomlgmlaaGreatDoor
