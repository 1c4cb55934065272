/-
  NARROWER THAN 'FOR EVERY INPUT', by the rows' own cells (each row's printed sentence says how): GraphRaw: laid · RankSame: laid · RankPart: laid · RankOwn: laid · RankRow: laid · RankTotal: laid · RankPast: laid · RankCame: laid · RankSeniors: laid.
  DERIVED. THE GIVEN ROWS OF THIS SEAT. 9 by the template 'for every input the law returns true; each argument reads behind the call as it read before'; 0 by the template 'total and deterministic' (their statements: YtihfebhfgliojaaGreatDoorTotals.lean).
  GIVEN WITH THE SEED: the statements are not yours to turn. If you find one false, say at which input.
  Laid BY PROGRAM, IN A SANDBOX (cutbox-rows.mjs): the forced cells as the released guide's own fill.sh prints them over the translation 5aebbbe139617e71… (all of the seat's roots in one cut). By AI agents, Wed Nov 11 2026. No macro, syntax, notation, axiom, sorry.
-/
import Derived.Test.YtihfebhfgliojaaGreatDoorChecked
import GoSem.Claim
import GoSem.ClaimJoined
import GoSem.ClaimMapViews
import Derived.JoinedTies
import Derived.KernelRfl
namespace Go.Proofs.YtihfebhfgliojaaGreatDoor
/- THE CELL 'sum', in the pinned program and in every row, IS THE sha256 OF THE DUMP (.gsa) THAT YtihfebhfgliojaaGreatDoorProg.lean LOADS. Nothing in Lean hashes anything: it is a label: what it is worth is what the hold of that sum in a sandbox is worth. -/
noncomputable def Tryz.pinned : Pinned := { name := "ytihfebhfgliojaagreatdoor", sum := "5aebbbe139617e716f7518a96ba537f0bf4e8496d34e3612e5fe0df4e04da1e4", checked := Tryz.checked }
namespace Rows
def none {H : Type} : Left H := { results := [], args := [] }

/- WHAT THE LISTED PACKAGE-LEVEL VARIABLES READ AS WHEN THE CALL BEGINS. Each datum BY PROGRAM (the guide's laid-datum.mjs) off the statement by which the dump's own 'gosem.cut.vars' lays the variable. In a bare row this is a premise. The card (YtihfebhfgliojaaGreatDoorCards.lean) ties it to the program's text. -/
def laid_huddle_op_kinds {H : Type} : DataW H := .agg [.lit (.int .i64 0), .lit (.int .i64 2064), .lit (.int .i64 32793), .lit (.int .i64 21), .lit (.int .i64 16), .lit (.int .i64 12), .lit (.int .i64 480), .lit (.int .i64 640), .lit (.int .i64 512), .lit (.int .i64 31744), .lit (.int .i64 8704), .lit (.int .i64 8705), .lit (.int .i64 512), .lit (.int .i64 33299)]

/-- 'huddlelaw12.GraphRaw': WHATEVER THE INPUT: true; the input reads as it did. -/
def graphRawSpec : ChangeSpec := { name := "graphRaw", fn := fun _ => fun
  | [d1, d2, d3] => { results := [.lit (.bool true)], args := [d1, d2, d3] }
  | _ => none }
def graphRawRow : OpenClaim := { program := "ytihfebhfgliojaagreatdoor", sum := "5aebbbe139617e716f7518a96ba537f0bf4e8496d34e3612e5fe0df4e04da1e4", func := "huddle/huddlelaw12.GraphRaw", spec := "graphRaw", unfollowed := true, recurses := true, named := ["huddle/op.kinds"], plainKeys := false, apart := false, laid := [("huddle/op.kinds", laid_huddle_op_kinds)] }
def GraphRawSaid : Prop := graphRawRow.holds Tryz.pinned (OpenSpec.ofChange graphRawSpec)

/-- ITS FALSE NEIGHBOUR: 'it returns false'. Refute it at one input. -/
def graphRawWrong : ChangeSpec := { name := "graphRaw", fn := fun _ => fun
  | [d1, d2, d3] => { results := [.lit (.bool false)], args := [d1, d2, d3] }
  | _ => none }
def GraphRawWrongFalsely : Prop := graphRawRow.holds Tryz.pinned (OpenSpec.ofChange graphRawWrong)

/-- 'huddlelaw14.RankSame': WHATEVER THE INPUT: true; the input reads as it did. -/
def rankSameSpec : ChangeSpec := { name := "rankSame", fn := fun _ => fun
  | [d1, d2, d3] => { results := [.lit (.bool true)], args := [d1, d2, d3] }
  | _ => none }
def rankSameRow : OpenClaim := { program := "ytihfebhfgliojaagreatdoor", sum := "5aebbbe139617e716f7518a96ba537f0bf4e8496d34e3612e5fe0df4e04da1e4", func := "huddle/huddlelaw14.RankSame", spec := "rankSame", unfollowed := true, recurses := true, named := ["huddle/op.kinds"], plainKeys := false, apart := false, laid := [("huddle/op.kinds", laid_huddle_op_kinds)] }
def RankSameSaid : Prop := rankSameRow.holds Tryz.pinned (OpenSpec.ofChange rankSameSpec)

/-- ITS FALSE NEIGHBOUR: 'it returns false'. Refute it at one input. -/
def rankSameWrong : ChangeSpec := { name := "rankSame", fn := fun _ => fun
  | [d1, d2, d3] => { results := [.lit (.bool false)], args := [d1, d2, d3] }
  | _ => none }
def RankSameWrongFalsely : Prop := rankSameRow.holds Tryz.pinned (OpenSpec.ofChange rankSameWrong)

/-- 'huddlelaw14.RankPart': WHATEVER THE INPUT: true; the input reads as it did. -/
def rankPartSpec : ChangeSpec := { name := "rankPart", fn := fun _ => fun
  | [d1, d2] => { results := [.lit (.bool true)], args := [d1, d2] }
  | _ => none }
def rankPartRow : OpenClaim := { program := "ytihfebhfgliojaagreatdoor", sum := "5aebbbe139617e716f7518a96ba537f0bf4e8496d34e3612e5fe0df4e04da1e4", func := "huddle/huddlelaw14.RankPart", spec := "rankPart", unfollowed := true, recurses := true, named := ["huddle/op.kinds"], plainKeys := false, apart := false, laid := [("huddle/op.kinds", laid_huddle_op_kinds)] }
def RankPartSaid : Prop := rankPartRow.holds Tryz.pinned (OpenSpec.ofChange rankPartSpec)

/-- ITS FALSE NEIGHBOUR: 'it returns false'. Refute it at one input. -/
def rankPartWrong : ChangeSpec := { name := "rankPart", fn := fun _ => fun
  | [d1, d2] => { results := [.lit (.bool false)], args := [d1, d2] }
  | _ => none }
def RankPartWrongFalsely : Prop := rankPartRow.holds Tryz.pinned (OpenSpec.ofChange rankPartWrong)

/-- 'huddlelaw14.RankOwn': WHATEVER THE INPUT: true; the input reads as it did. -/
def rankOwnSpec : ChangeSpec := { name := "rankOwn", fn := fun _ => fun
  | [d1, d2] => { results := [.lit (.bool true)], args := [d1, d2] }
  | _ => none }
def rankOwnRow : OpenClaim := { program := "ytihfebhfgliojaagreatdoor", sum := "5aebbbe139617e716f7518a96ba537f0bf4e8496d34e3612e5fe0df4e04da1e4", func := "huddle/huddlelaw14.RankOwn", spec := "rankOwn", unfollowed := true, recurses := true, named := ["huddle/op.kinds"], plainKeys := false, apart := false, laid := [("huddle/op.kinds", laid_huddle_op_kinds)] }
def RankOwnSaid : Prop := rankOwnRow.holds Tryz.pinned (OpenSpec.ofChange rankOwnSpec)

/-- ITS FALSE NEIGHBOUR: 'it returns false'. Refute it at one input. -/
def rankOwnWrong : ChangeSpec := { name := "rankOwn", fn := fun _ => fun
  | [d1, d2] => { results := [.lit (.bool false)], args := [d1, d2] }
  | _ => none }
def RankOwnWrongFalsely : Prop := rankOwnRow.holds Tryz.pinned (OpenSpec.ofChange rankOwnWrong)

/-- 'huddlelaw14.RankRow': WHATEVER THE INPUT: true; the input reads as it did. -/
def rankRowSpec : ChangeSpec := { name := "rankRow", fn := fun _ => fun
  | [d1, d2] => { results := [.lit (.bool true)], args := [d1, d2] }
  | _ => none }
def rankRowRow : OpenClaim := { program := "ytihfebhfgliojaagreatdoor", sum := "5aebbbe139617e716f7518a96ba537f0bf4e8496d34e3612e5fe0df4e04da1e4", func := "huddle/huddlelaw14.RankRow", spec := "rankRow", unfollowed := true, recurses := true, named := ["huddle/op.kinds"], plainKeys := false, apart := false, laid := [("huddle/op.kinds", laid_huddle_op_kinds)] }
def RankRowSaid : Prop := rankRowRow.holds Tryz.pinned (OpenSpec.ofChange rankRowSpec)

/-- ITS FALSE NEIGHBOUR: 'it returns false'. Refute it at one input. -/
def rankRowWrong : ChangeSpec := { name := "rankRow", fn := fun _ => fun
  | [d1, d2] => { results := [.lit (.bool false)], args := [d1, d2] }
  | _ => none }
def RankRowWrongFalsely : Prop := rankRowRow.holds Tryz.pinned (OpenSpec.ofChange rankRowWrong)

/-- 'huddlelaw14.RankTotal': WHATEVER THE INPUT: true; the input reads as it did. -/
def rankTotalSpec : ChangeSpec := { name := "rankTotal", fn := fun _ => fun
  | [d] => { results := [.lit (.bool true)], args := [d] }
  | _ => none }
def rankTotalRow : OpenClaim := { program := "ytihfebhfgliojaagreatdoor", sum := "5aebbbe139617e716f7518a96ba537f0bf4e8496d34e3612e5fe0df4e04da1e4", func := "huddle/huddlelaw14.RankTotal", spec := "rankTotal", unfollowed := true, recurses := true, named := ["huddle/op.kinds"], plainKeys := false, apart := false, laid := [("huddle/op.kinds", laid_huddle_op_kinds)] }
def RankTotalSaid : Prop := rankTotalRow.holds Tryz.pinned (OpenSpec.ofChange rankTotalSpec)

/-- ITS FALSE NEIGHBOUR: 'it returns false'. Refute it at one input. -/
def rankTotalWrong : ChangeSpec := { name := "rankTotal", fn := fun _ => fun
  | [d] => { results := [.lit (.bool false)], args := [d] }
  | _ => none }
def RankTotalWrongFalsely : Prop := rankTotalRow.holds Tryz.pinned (OpenSpec.ofChange rankTotalWrong)

/-- 'huddlelaw14.RankPast': WHATEVER THE INPUT: true; the input reads as it did. -/
def rankPastSpec : ChangeSpec := { name := "rankPast", fn := fun _ => fun
  | [d1, d2] => { results := [.lit (.bool true)], args := [d1, d2] }
  | _ => none }
def rankPastRow : OpenClaim := { program := "ytihfebhfgliojaagreatdoor", sum := "5aebbbe139617e716f7518a96ba537f0bf4e8496d34e3612e5fe0df4e04da1e4", func := "huddle/huddlelaw14.RankPast", spec := "rankPast", unfollowed := true, recurses := true, named := ["huddle/op.kinds"], plainKeys := false, apart := false, laid := [("huddle/op.kinds", laid_huddle_op_kinds)] }
def RankPastSaid : Prop := rankPastRow.holds Tryz.pinned (OpenSpec.ofChange rankPastSpec)

/-- ITS FALSE NEIGHBOUR: 'it returns false'. Refute it at one input. -/
def rankPastWrong : ChangeSpec := { name := "rankPast", fn := fun _ => fun
  | [d1, d2] => { results := [.lit (.bool false)], args := [d1, d2] }
  | _ => none }
def RankPastWrongFalsely : Prop := rankPastRow.holds Tryz.pinned (OpenSpec.ofChange rankPastWrong)

/-- 'huddlelaw14.RankCame': WHATEVER THE INPUT: true; the input reads as it did. -/
def rankCameSpec : ChangeSpec := { name := "rankCame", fn := fun _ => fun
  | [d1, d2, d3] => { results := [.lit (.bool true)], args := [d1, d2, d3] }
  | _ => none }
def rankCameRow : OpenClaim := { program := "ytihfebhfgliojaagreatdoor", sum := "5aebbbe139617e716f7518a96ba537f0bf4e8496d34e3612e5fe0df4e04da1e4", func := "huddle/huddlelaw14.RankCame", spec := "rankCame", unfollowed := true, recurses := true, named := ["huddle/op.kinds"], plainKeys := false, apart := false, laid := [("huddle/op.kinds", laid_huddle_op_kinds)] }
def RankCameSaid : Prop := rankCameRow.holds Tryz.pinned (OpenSpec.ofChange rankCameSpec)

/-- ITS FALSE NEIGHBOUR: 'it returns false'. Refute it at one input. -/
def rankCameWrong : ChangeSpec := { name := "rankCame", fn := fun _ => fun
  | [d1, d2, d3] => { results := [.lit (.bool false)], args := [d1, d2, d3] }
  | _ => none }
def RankCameWrongFalsely : Prop := rankCameRow.holds Tryz.pinned (OpenSpec.ofChange rankCameWrong)

/-- 'huddlelaw14.RankSeniors': WHATEVER THE INPUT: true; the input reads as it did. -/
def rankSeniorsSpec : ChangeSpec := { name := "rankSeniors", fn := fun _ => fun
  | [d1, d2] => { results := [.lit (.bool true)], args := [d1, d2] }
  | _ => none }
def rankSeniorsRow : OpenClaim := { program := "ytihfebhfgliojaagreatdoor", sum := "5aebbbe139617e716f7518a96ba537f0bf4e8496d34e3612e5fe0df4e04da1e4", func := "huddle/huddlelaw14.RankSeniors", spec := "rankSeniors", unfollowed := true, recurses := true, named := ["huddle/op.kinds"], plainKeys := false, apart := false, laid := [("huddle/op.kinds", laid_huddle_op_kinds)] }
def RankSeniorsSaid : Prop := rankSeniorsRow.holds Tryz.pinned (OpenSpec.ofChange rankSeniorsSpec)

/-- ITS FALSE NEIGHBOUR: 'it returns false'. Refute it at one input. -/
def rankSeniorsWrong : ChangeSpec := { name := "rankSeniors", fn := fun _ => fun
  | [d1, d2] => { results := [.lit (.bool false)], args := [d1, d2] }
  | _ => none }
def RankSeniorsWrongFalsely : Prop := rankSeniorsRow.holds Tryz.pinned (OpenSpec.ofChange rankSeniorsWrong)

/- THE SECOND FORM. 'bulk': how many values and letters a reading holds, each counted each time it is reached (what is shared counts as often as it is met; a slice's spare places count too). A statement '..UptoSaid' is the law's where the arguments, and the package variables that the reading takes, are together of bulk at most 1048576: NARROWER than '..Said'. Prove '..Said' where nothing that the law and all that it calls make is longer than what came in: it says more and counts as full. Else prove '..UptoSaid'. A law counts once. -/
mutual
def uptoBulk {H : Type} : DataW H → Nat
  | .lit (.string bytes) => bytes.length + 1
  | .lit _ => 1
  | .nil => 1
  | .ptr d => uptoBulk d + 1
  | .slice elems spare => uptoBulkAll elems + uptoBulkAll spare + 1
  | .agg parts => uptoBulkAll parts + 1
  | .iface _ d => uptoBulk d + 1
  | .map entries => uptoBulkEntries entries + 1
  | .held _ => 1
def uptoBulkAll {H : Type} : List (DataW H) → Nat
  | [] => 0
  | d :: r => uptoBulk d + uptoBulkAll r
def uptoBulkEntries {H : Type} : List (Lit × DataW H) → Nat
  | [] => 0
  | x :: r => uptoBulkEntry x + uptoBulkEntries r
def uptoBulkEntry {H : Type} : Lit × DataW H → Nat
  | (.string bytes, d) => bytes.length + uptoBulk d + 1
  | (_, d) => uptoBulk d + 1
 end
def uptoSmall : (H : Type) → List (DataW H) → Bool := fun _ ds => decide (uptoBulkAll ds ≤ 1048576)
def OpenSpec.upto (s : _root_.Go.ChangeSpec) : _root_.Go.OpenSpec := { _root_.Go.OpenSpec.ofChange s with cond := some uptoSmall }

/-- 'huddlelaw12.GraphRaw', WHERE WHAT IT READS IS OF BULK AT MOST 1048576: true; the input reads as it did. -/
def graphRawUptoRow : OpenClaim := { program := "ytihfebhfgliojaagreatdoor", sum := "5aebbbe139617e716f7518a96ba537f0bf4e8496d34e3612e5fe0df4e04da1e4", func := "huddle/huddlelaw12.GraphRaw", spec := "graphRaw", unfollowed := true, recurses := true, named := ["huddle/op.kinds"], plainKeys := false, apart := false, laid := [("huddle/op.kinds", laid_huddle_op_kinds)], narrowed := true }
def GraphRawUptoSaid : Prop := graphRawUptoRow.holds Tryz.pinned (OpenSpec.upto graphRawSpec)

/-- 'huddlelaw14.RankSame', WHERE WHAT IT READS IS OF BULK AT MOST 1048576: true; the input reads as it did. -/
def rankSameUptoRow : OpenClaim := { program := "ytihfebhfgliojaagreatdoor", sum := "5aebbbe139617e716f7518a96ba537f0bf4e8496d34e3612e5fe0df4e04da1e4", func := "huddle/huddlelaw14.RankSame", spec := "rankSame", unfollowed := true, recurses := true, named := ["huddle/op.kinds"], plainKeys := false, apart := false, laid := [("huddle/op.kinds", laid_huddle_op_kinds)], narrowed := true }
def RankSameUptoSaid : Prop := rankSameUptoRow.holds Tryz.pinned (OpenSpec.upto rankSameSpec)

/-- 'huddlelaw14.RankPart', WHERE WHAT IT READS IS OF BULK AT MOST 1048576: true; the input reads as it did. -/
def rankPartUptoRow : OpenClaim := { program := "ytihfebhfgliojaagreatdoor", sum := "5aebbbe139617e716f7518a96ba537f0bf4e8496d34e3612e5fe0df4e04da1e4", func := "huddle/huddlelaw14.RankPart", spec := "rankPart", unfollowed := true, recurses := true, named := ["huddle/op.kinds"], plainKeys := false, apart := false, laid := [("huddle/op.kinds", laid_huddle_op_kinds)], narrowed := true }
def RankPartUptoSaid : Prop := rankPartUptoRow.holds Tryz.pinned (OpenSpec.upto rankPartSpec)

/-- 'huddlelaw14.RankOwn', WHERE WHAT IT READS IS OF BULK AT MOST 1048576: true; the input reads as it did. -/
def rankOwnUptoRow : OpenClaim := { program := "ytihfebhfgliojaagreatdoor", sum := "5aebbbe139617e716f7518a96ba537f0bf4e8496d34e3612e5fe0df4e04da1e4", func := "huddle/huddlelaw14.RankOwn", spec := "rankOwn", unfollowed := true, recurses := true, named := ["huddle/op.kinds"], plainKeys := false, apart := false, laid := [("huddle/op.kinds", laid_huddle_op_kinds)], narrowed := true }
def RankOwnUptoSaid : Prop := rankOwnUptoRow.holds Tryz.pinned (OpenSpec.upto rankOwnSpec)

/-- 'huddlelaw14.RankRow', WHERE WHAT IT READS IS OF BULK AT MOST 1048576: true; the input reads as it did. -/
def rankRowUptoRow : OpenClaim := { program := "ytihfebhfgliojaagreatdoor", sum := "5aebbbe139617e716f7518a96ba537f0bf4e8496d34e3612e5fe0df4e04da1e4", func := "huddle/huddlelaw14.RankRow", spec := "rankRow", unfollowed := true, recurses := true, named := ["huddle/op.kinds"], plainKeys := false, apart := false, laid := [("huddle/op.kinds", laid_huddle_op_kinds)], narrowed := true }
def RankRowUptoSaid : Prop := rankRowUptoRow.holds Tryz.pinned (OpenSpec.upto rankRowSpec)

/-- 'huddlelaw14.RankTotal', WHERE WHAT IT READS IS OF BULK AT MOST 1048576: true; the input reads as it did. -/
def rankTotalUptoRow : OpenClaim := { program := "ytihfebhfgliojaagreatdoor", sum := "5aebbbe139617e716f7518a96ba537f0bf4e8496d34e3612e5fe0df4e04da1e4", func := "huddle/huddlelaw14.RankTotal", spec := "rankTotal", unfollowed := true, recurses := true, named := ["huddle/op.kinds"], plainKeys := false, apart := false, laid := [("huddle/op.kinds", laid_huddle_op_kinds)], narrowed := true }
def RankTotalUptoSaid : Prop := rankTotalUptoRow.holds Tryz.pinned (OpenSpec.upto rankTotalSpec)

/-- 'huddlelaw14.RankPast', WHERE WHAT IT READS IS OF BULK AT MOST 1048576: true; the input reads as it did. -/
def rankPastUptoRow : OpenClaim := { program := "ytihfebhfgliojaagreatdoor", sum := "5aebbbe139617e716f7518a96ba537f0bf4e8496d34e3612e5fe0df4e04da1e4", func := "huddle/huddlelaw14.RankPast", spec := "rankPast", unfollowed := true, recurses := true, named := ["huddle/op.kinds"], plainKeys := false, apart := false, laid := [("huddle/op.kinds", laid_huddle_op_kinds)], narrowed := true }
def RankPastUptoSaid : Prop := rankPastUptoRow.holds Tryz.pinned (OpenSpec.upto rankPastSpec)

/-- 'huddlelaw14.RankCame', WHERE WHAT IT READS IS OF BULK AT MOST 1048576: true; the input reads as it did. -/
def rankCameUptoRow : OpenClaim := { program := "ytihfebhfgliojaagreatdoor", sum := "5aebbbe139617e716f7518a96ba537f0bf4e8496d34e3612e5fe0df4e04da1e4", func := "huddle/huddlelaw14.RankCame", spec := "rankCame", unfollowed := true, recurses := true, named := ["huddle/op.kinds"], plainKeys := false, apart := false, laid := [("huddle/op.kinds", laid_huddle_op_kinds)], narrowed := true }
def RankCameUptoSaid : Prop := rankCameUptoRow.holds Tryz.pinned (OpenSpec.upto rankCameSpec)

/-- 'huddlelaw14.RankSeniors', WHERE WHAT IT READS IS OF BULK AT MOST 1048576: true; the input reads as it did. -/
def rankSeniorsUptoRow : OpenClaim := { program := "ytihfebhfgliojaagreatdoor", sum := "5aebbbe139617e716f7518a96ba537f0bf4e8496d34e3612e5fe0df4e04da1e4", func := "huddle/huddlelaw14.RankSeniors", spec := "rankSeniors", unfollowed := true, recurses := true, named := ["huddle/op.kinds"], plainKeys := false, apart := false, laid := [("huddle/op.kinds", laid_huddle_op_kinds)], narrowed := true }
def RankSeniorsUptoSaid : Prop := rankSeniorsUptoRow.holds Tryz.pinned (OpenSpec.upto rankSeniorsSpec)

end Rows
end Go.Proofs.YtihfebhfgliojaaGreatDoor
