/-
  NARROWER THAN 'FOR EVERY INPUT', by the rows' own cells (each row's printed sentence says how): OpRound: laid · OpShort: laid · OpOrder: laid · OpPuts: laid · OpSame: laid.
  DERIVED. THE GIVEN ROWS OF THIS SEAT. 5 by the template 'for every input the law returns true; each argument reads behind the call as it read before'; 0 by the template 'total and deterministic' (their statements: YthmlaigpdpdpjaaDoorTotals.lean).
  GIVEN WITH THE SEED: the statements are not yours to turn. If you find one false, say at which input.
  Laid BY PROGRAM, IN A SANDBOX (cutbox-rows.mjs): the forced cells as the released guide's own fill.sh prints them over the translation 9f9afddd90a792a4… (all of the seat's roots in one cut). By AI agents, Wed Nov 11 2026. No macro, syntax, notation, axiom, sorry.
-/
import Derived.Test.YthmlaigpdpdpjaaDoorChecked
import GoSem.Claim
import GoSem.ClaimJoined
import GoSem.ClaimMapViews
import Derived.JoinedTies
import Derived.KernelRfl
namespace Go.Proofs.YthmlaigpdpdpjaaDoor
/- THE CELL 'sum', in the pinned program and in every row, IS THE sha256 OF THE DUMP (.gsa) THAT YthmlaigpdpdpjaaDoorProg.lean LOADS. Nothing in Lean hashes anything: it is a label: what it is worth is what the hold of that sum in a sandbox is worth. -/
noncomputable def Tryd.pinned : Pinned := { name := "ythmlaigpdpdpjaadoor", sum := "9f9afddd90a792a4e8ceb9242816f8091ae73f13fabe5804061fe6ec3804484d", checked := Tryd.checked }
namespace Rows
def none {H : Type} : Left H := { results := [], args := [] }

/- WHAT THE LISTED PACKAGE-LEVEL VARIABLES READ AS WHEN THE CALL BEGINS. Each datum BY PROGRAM (the guide's laid-datum.mjs) off the statement by which the dump's own 'gosem.cut.vars' lays the variable. In a bare row this is a premise. The card (YthmlaigpdpdpjaaDoorCards.lean) ties it to the program's text. -/
def laid_huddle_op_kinds {H : Type} : DataW H := .agg [.lit (.int .i64 0), .lit (.int .i64 2064), .lit (.int .i64 32793), .lit (.int .i64 21), .lit (.int .i64 16), .lit (.int .i64 12), .lit (.int .i64 480), .lit (.int .i64 640), .lit (.int .i64 512), .lit (.int .i64 31744), .lit (.int .i64 8704), .lit (.int .i64 8705), .lit (.int .i64 512), .lit (.int .i64 33299)]

/-- 'huddlelaw11.OpRound': WHATEVER THE INPUT: true; the input reads as it did. -/
def opRoundSpec : ChangeSpec := { name := "opRound", fn := fun _ => fun
  | [d1, d2, d3, d4, d5, d6] => { results := [.lit (.bool true)], args := [d1, d2, d3, d4, d5, d6] }
  | _ => none }
def opRoundRow : OpenClaim := { program := "ythmlaigpdpdpjaadoor", sum := "9f9afddd90a792a4e8ceb9242816f8091ae73f13fabe5804061fe6ec3804484d", func := "huddle/huddlelaw11.OpRound", spec := "opRound", unfollowed := true, recurses := true, named := ["huddle/op.kinds"], apart := false, laid := [("huddle/op.kinds", laid_huddle_op_kinds)] }
def OpRoundSaid : Prop := opRoundRow.holds Tryd.pinned (OpenSpec.ofChange opRoundSpec)

/-- ITS FALSE NEIGHBOUR: 'it returns false'. Refute it at one input. -/
def opRoundWrong : ChangeSpec := { name := "opRound", fn := fun _ => fun
  | [d1, d2, d3, d4, d5, d6] => { results := [.lit (.bool false)], args := [d1, d2, d3, d4, d5, d6] }
  | _ => none }
def OpRoundWrongFalsely : Prop := opRoundRow.holds Tryd.pinned (OpenSpec.ofChange opRoundWrong)

/-- 'huddlelaw11.OpShort': WHATEVER THE INPUT: true; the input reads as it did. -/
def opShortSpec : ChangeSpec := { name := "opShort", fn := fun _ => fun
  | [d1, d2, d3] => { results := [.lit (.bool true)], args := [d1, d2, d3] }
  | _ => none }
def opShortRow : OpenClaim := { program := "ythmlaigpdpdpjaadoor", sum := "9f9afddd90a792a4e8ceb9242816f8091ae73f13fabe5804061fe6ec3804484d", func := "huddle/huddlelaw11.OpShort", spec := "opShort", unfollowed := true, recurses := true, named := ["huddle/op.kinds"], apart := false, laid := [("huddle/op.kinds", laid_huddle_op_kinds)] }
def OpShortSaid : Prop := opShortRow.holds Tryd.pinned (OpenSpec.ofChange opShortSpec)

/-- ITS FALSE NEIGHBOUR: 'it returns false'. Refute it at one input. -/
def opShortWrong : ChangeSpec := { name := "opShort", fn := fun _ => fun
  | [d1, d2, d3] => { results := [.lit (.bool false)], args := [d1, d2, d3] }
  | _ => none }
def OpShortWrongFalsely : Prop := opShortRow.holds Tryd.pinned (OpenSpec.ofChange opShortWrong)

/-- 'huddlelaw11.OpOrder': WHATEVER THE INPUT: true; the input reads as it did. -/
def opOrderSpec : ChangeSpec := { name := "opOrder", fn := fun _ => fun
  | [d1, d2, d3, d4] => { results := [.lit (.bool true)], args := [d1, d2, d3, d4] }
  | _ => none }
def opOrderRow : OpenClaim := { program := "ythmlaigpdpdpjaadoor", sum := "9f9afddd90a792a4e8ceb9242816f8091ae73f13fabe5804061fe6ec3804484d", func := "huddle/huddlelaw11.OpOrder", spec := "opOrder", unfollowed := true, recurses := true, named := ["huddle/op.kinds"], apart := false, laid := [("huddle/op.kinds", laid_huddle_op_kinds)] }
def OpOrderSaid : Prop := opOrderRow.holds Tryd.pinned (OpenSpec.ofChange opOrderSpec)

/-- ITS FALSE NEIGHBOUR: 'it returns false'. Refute it at one input. -/
def opOrderWrong : ChangeSpec := { name := "opOrder", fn := fun _ => fun
  | [d1, d2, d3, d4] => { results := [.lit (.bool false)], args := [d1, d2, d3, d4] }
  | _ => none }
def OpOrderWrongFalsely : Prop := opOrderRow.holds Tryd.pinned (OpenSpec.ofChange opOrderWrong)

/-- 'huddlelaw11.OpPuts': WHATEVER THE INPUT: true; the input reads as it did. -/
def opPutsSpec : ChangeSpec := { name := "opPuts", fn := fun _ => fun
  | [d1, d2, d3, d4] => { results := [.lit (.bool true)], args := [d1, d2, d3, d4] }
  | _ => none }
def opPutsRow : OpenClaim := { program := "ythmlaigpdpdpjaadoor", sum := "9f9afddd90a792a4e8ceb9242816f8091ae73f13fabe5804061fe6ec3804484d", func := "huddle/huddlelaw11.OpPuts", spec := "opPuts", unfollowed := true, recurses := true, named := ["huddle/op.kinds"], apart := false, laid := [("huddle/op.kinds", laid_huddle_op_kinds)] }
def OpPutsSaid : Prop := opPutsRow.holds Tryd.pinned (OpenSpec.ofChange opPutsSpec)

/-- ITS FALSE NEIGHBOUR: 'it returns false'. Refute it at one input. -/
def opPutsWrong : ChangeSpec := { name := "opPuts", fn := fun _ => fun
  | [d1, d2, d3, d4] => { results := [.lit (.bool false)], args := [d1, d2, d3, d4] }
  | _ => none }
def OpPutsWrongFalsely : Prop := opPutsRow.holds Tryd.pinned (OpenSpec.ofChange opPutsWrong)

/-- 'huddlelaw11.OpSame': WHATEVER THE INPUT: true; the input reads as it did. -/
def opSameSpec : ChangeSpec := { name := "opSame", fn := fun _ => fun
  | [d1, d2, d3, d4] => { results := [.lit (.bool true)], args := [d1, d2, d3, d4] }
  | _ => none }
def opSameRow : OpenClaim := { program := "ythmlaigpdpdpjaadoor", sum := "9f9afddd90a792a4e8ceb9242816f8091ae73f13fabe5804061fe6ec3804484d", func := "huddle/huddlelaw11.OpSame", spec := "opSame", unfollowed := true, recurses := true, named := ["huddle/op.kinds"], apart := false, laid := [("huddle/op.kinds", laid_huddle_op_kinds)] }
def OpSameSaid : Prop := opSameRow.holds Tryd.pinned (OpenSpec.ofChange opSameSpec)

/-- ITS FALSE NEIGHBOUR: 'it returns false'. Refute it at one input. -/
def opSameWrong : ChangeSpec := { name := "opSame", fn := fun _ => fun
  | [d1, d2, d3, d4] => { results := [.lit (.bool false)], args := [d1, d2, d3, d4] }
  | _ => none }
def OpSameWrongFalsely : Prop := opSameRow.holds Tryd.pinned (OpenSpec.ofChange opSameWrong)

/- THE SECOND FORM. 'bulk': how many values and letters a reading holds, each counted each time it is reached (what is shared counts as often as it is met; a slice's spare places count too). A statement '..UptoSaid' is the law's where the arguments, and the package variables that the reading takes, are together of bulk at most 1048576: NARROWER than '..Said'. Prove '..Said' where nothing that the law and all that it calls make is longer than what came in: it says more and counts as full. Else prove '..UptoSaid'. A law counts once. -/
mutual
def uptoBulk {H : Type} : DataW H → Nat
  | .lit (.string bytes) => bytes.length + 1
  | .lit _ => 1
  | .nil => 1
  | .ptr d => uptoBulk d + 1
  | .slice elems spare => uptoBulkAll elems + uptoBulkAll spare + 1
  | .agg parts => uptoBulkAll parts + 1
  | .iface _ d => uptoBulk d + 1
  | .map entries => uptoBulkEntries entries + 1
  | .held _ => 1
def uptoBulkAll {H : Type} : List (DataW H) → Nat
  | [] => 0
  | d :: r => uptoBulk d + uptoBulkAll r
def uptoBulkEntries {H : Type} : List (Lit × DataW H) → Nat
  | [] => 0
  | x :: r => uptoBulkEntry x + uptoBulkEntries r
def uptoBulkEntry {H : Type} : Lit × DataW H → Nat
  | (.string bytes, d) => bytes.length + uptoBulk d + 1
  | (_, d) => uptoBulk d + 1
 end
def uptoSmall : (H : Type) → List (DataW H) → Bool := fun _ ds => decide (uptoBulkAll ds ≤ 1048576)
def OpenSpec.upto (s : _root_.Go.ChangeSpec) : _root_.Go.OpenSpec := { _root_.Go.OpenSpec.ofChange s with cond := some uptoSmall }

/-- 'huddlelaw11.OpRound', WHERE WHAT IT READS IS OF BULK AT MOST 1048576: true; the input reads as it did. -/
def opRoundUptoRow : OpenClaim := { program := "ythmlaigpdpdpjaadoor", sum := "9f9afddd90a792a4e8ceb9242816f8091ae73f13fabe5804061fe6ec3804484d", func := "huddle/huddlelaw11.OpRound", spec := "opRound", unfollowed := true, recurses := true, named := ["huddle/op.kinds"], apart := false, laid := [("huddle/op.kinds", laid_huddle_op_kinds)], narrowed := true }
def OpRoundUptoSaid : Prop := opRoundUptoRow.holds Tryd.pinned (OpenSpec.upto opRoundSpec)

/-- 'huddlelaw11.OpShort', WHERE WHAT IT READS IS OF BULK AT MOST 1048576: true; the input reads as it did. -/
def opShortUptoRow : OpenClaim := { program := "ythmlaigpdpdpjaadoor", sum := "9f9afddd90a792a4e8ceb9242816f8091ae73f13fabe5804061fe6ec3804484d", func := "huddle/huddlelaw11.OpShort", spec := "opShort", unfollowed := true, recurses := true, named := ["huddle/op.kinds"], apart := false, laid := [("huddle/op.kinds", laid_huddle_op_kinds)], narrowed := true }
def OpShortUptoSaid : Prop := opShortUptoRow.holds Tryd.pinned (OpenSpec.upto opShortSpec)

/-- 'huddlelaw11.OpOrder', WHERE WHAT IT READS IS OF BULK AT MOST 1048576: true; the input reads as it did. -/
def opOrderUptoRow : OpenClaim := { program := "ythmlaigpdpdpjaadoor", sum := "9f9afddd90a792a4e8ceb9242816f8091ae73f13fabe5804061fe6ec3804484d", func := "huddle/huddlelaw11.OpOrder", spec := "opOrder", unfollowed := true, recurses := true, named := ["huddle/op.kinds"], apart := false, laid := [("huddle/op.kinds", laid_huddle_op_kinds)], narrowed := true }
def OpOrderUptoSaid : Prop := opOrderUptoRow.holds Tryd.pinned (OpenSpec.upto opOrderSpec)

/-- 'huddlelaw11.OpPuts', WHERE WHAT IT READS IS OF BULK AT MOST 1048576: true; the input reads as it did. -/
def opPutsUptoRow : OpenClaim := { program := "ythmlaigpdpdpjaadoor", sum := "9f9afddd90a792a4e8ceb9242816f8091ae73f13fabe5804061fe6ec3804484d", func := "huddle/huddlelaw11.OpPuts", spec := "opPuts", unfollowed := true, recurses := true, named := ["huddle/op.kinds"], apart := false, laid := [("huddle/op.kinds", laid_huddle_op_kinds)], narrowed := true }
def OpPutsUptoSaid : Prop := opPutsUptoRow.holds Tryd.pinned (OpenSpec.upto opPutsSpec)

/-- 'huddlelaw11.OpSame', WHERE WHAT IT READS IS OF BULK AT MOST 1048576: true; the input reads as it did. -/
def opSameUptoRow : OpenClaim := { program := "ythmlaigpdpdpjaadoor", sum := "9f9afddd90a792a4e8ceb9242816f8091ae73f13fabe5804061fe6ec3804484d", func := "huddle/huddlelaw11.OpSame", spec := "opSame", unfollowed := true, recurses := true, named := ["huddle/op.kinds"], apart := false, laid := [("huddle/op.kinds", laid_huddle_op_kinds)], narrowed := true }
def OpSameUptoSaid : Prop := opSameUptoRow.holds Tryd.pinned (OpenSpec.upto opSameSpec)

end Rows
end Go.Proofs.YthmlaigpdpdpjaaDoor
