/-
  No cell of these rows narrows 'for every input' (looked for: loops, veiled, ifaces, maps, wideKeys, modest, calm, conditions, laid).
  DERIVED. THE GIVEN ROWS OF THIS SEAT. 7 by the template 'for every input the law returns true; each argument reads behind the call as it read before'; 0 by the template 'total and deterministic' (their statements: YtlcomikbmbnddaaTotals.lean).
  GIVEN WITH THE SEED: the statements are not yours to turn. If you find one false, say at which input.
  Laid BY PROGRAM, IN A SANDBOX (cutbox-rows.mjs): the forced cells as the released guide's own fill.sh prints them over the translation 04eafb0d1a07c057… (all of the seat's roots in one cut). By AI agents, Wed Nov 11 2026. No macro, syntax, notation, axiom, sorry.
-/
import Derived.Test.YtlcomikbmbnddaaChecked
import GoSem.Claim
import GoSem.ClaimJoined
import GoSem.ClaimMapViews
import Derived.JoinedTies
import Derived.KernelRfl
namespace Go.Proofs.Ytlcomikbmbnddaa
/- THE CELL 'sum', in the pinned program and in every row, IS THE sha256 OF THE DUMP (.gsa) THAT YtlcomikbmbnddaaProg.lean LOADS. Nothing in Lean hashes anything: it is a label: what it is worth is what the hold of that sum in a sandbox is worth. -/
noncomputable def Try.pinned : Pinned := { name := "ytlcomikbmbnddaa", sum := "04eafb0d1a07c057c08345f79787d616b0b18d8f5339e614ea7afe18a49118ce", checked := Try.checked }
namespace Rows
def none {H : Type} : Left H := { results := [], args := [] }

/-- 'huddlelaw08.SignPubs': WHATEVER THE INPUT: true; the input reads as it did. -/
def signPubsSpec : ChangeSpec := { name := "signPubs", fn := fun _ => fun
  | [d1, d2] => { results := [.lit (.bool true)], args := [d1, d2] }
  | _ => none }
def signPubsRow : OpenClaim := { program := "ytlcomikbmbnddaa", sum := "04eafb0d1a07c057c08345f79787d616b0b18d8f5339e614ea7afe18a49118ce", func := "huddle/huddlelaw08.SignPubs", spec := "signPubs", unfollowed := true, recurses := true, named := ["math/bits.divideError", "math/bits.overflowError"], apart := false }
def SignPubsSaid : Prop := signPubsRow.holds Try.pinned (OpenSpec.ofChange signPubsSpec)

/-- ITS FALSE NEIGHBOUR: 'it returns false'. Refute it at one input. -/
def signPubsWrong : ChangeSpec := { name := "signPubs", fn := fun _ => fun
  | [d1, d2] => { results := [.lit (.bool false)], args := [d1, d2] }
  | _ => none }
def SignPubsWrongFalsely : Prop := signPubsRow.holds Try.pinned (OpenSpec.ofChange signPubsWrong)

/-- 'huddlelaw08.SignChecks': WHATEVER THE INPUT: true; the input reads as it did. -/
def signChecksSpec : ChangeSpec := { name := "signChecks", fn := fun _ => fun
  | [d1, d2, d3, d4, d5] => { results := [.lit (.bool true)], args := [d1, d2, d3, d4, d5] }
  | _ => none }
def signChecksRow : OpenClaim := { program := "ytlcomikbmbnddaa", sum := "04eafb0d1a07c057c08345f79787d616b0b18d8f5339e614ea7afe18a49118ce", func := "huddle/huddlelaw08.SignChecks", spec := "signChecks", unfollowed := true, recurses := true, named := ["math/bits.divideError", "math/bits.overflowError"], apart := false }
def SignChecksSaid : Prop := signChecksRow.holds Try.pinned (OpenSpec.ofChange signChecksSpec)

/-- ITS FALSE NEIGHBOUR: 'it returns false'. Refute it at one input. -/
def signChecksWrong : ChangeSpec := { name := "signChecks", fn := fun _ => fun
  | [d1, d2, d3, d4, d5] => { results := [.lit (.bool false)], args := [d1, d2, d3, d4, d5] }
  | _ => none }
def SignChecksWrongFalsely : Prop := signChecksRow.holds Try.pinned (OpenSpec.ofChange signChecksWrong)

/-- 'huddlelaw08.SignTakes': WHATEVER THE INPUT: true; the input reads as it did. -/
def signTakesSpec : ChangeSpec := { name := "signTakes", fn := fun _ => fun
  | [d1, d2] => { results := [.lit (.bool true)], args := [d1, d2] }
  | _ => none }
def signTakesRow : OpenClaim := { program := "ytlcomikbmbnddaa", sum := "04eafb0d1a07c057c08345f79787d616b0b18d8f5339e614ea7afe18a49118ce", func := "huddle/huddlelaw08.SignTakes", spec := "signTakes", unfollowed := true, recurses := true, named := ["math/bits.divideError", "math/bits.overflowError"], apart := false }
def SignTakesSaid : Prop := signTakesRow.holds Try.pinned (OpenSpec.ofChange signTakesSpec)

/-- ITS FALSE NEIGHBOUR: 'it returns false'. Refute it at one input. -/
def signTakesWrong : ChangeSpec := { name := "signTakes", fn := fun _ => fun
  | [d1, d2] => { results := [.lit (.bool false)], args := [d1, d2] }
  | _ => none }
def SignTakesWrongFalsely : Prop := signTakesRow.holds Try.pinned (OpenSpec.ofChange signTakesWrong)

/-- 'huddlelaw08.SignOne': WHATEVER THE INPUT: true; the input reads as it did. -/
def signOneSpec : ChangeSpec := { name := "signOne", fn := fun _ => fun
  | [d1, d2, d3] => { results := [.lit (.bool true)], args := [d1, d2, d3] }
  | _ => none }
def signOneRow : OpenClaim := { program := "ytlcomikbmbnddaa", sum := "04eafb0d1a07c057c08345f79787d616b0b18d8f5339e614ea7afe18a49118ce", func := "huddle/huddlelaw08.SignOne", spec := "signOne", unfollowed := true, recurses := true, named := ["math/bits.divideError", "math/bits.overflowError"], apart := false }
def SignOneSaid : Prop := signOneRow.holds Try.pinned (OpenSpec.ofChange signOneSpec)

/-- ITS FALSE NEIGHBOUR: 'it returns false'. Refute it at one input. -/
def signOneWrong : ChangeSpec := { name := "signOne", fn := fun _ => fun
  | [d1, d2, d3] => { results := [.lit (.bool false)], args := [d1, d2, d3] }
  | _ => none }
def SignOneWrongFalsely : Prop := signOneRow.holds Try.pinned (OpenSpec.ofChange signOneWrong)

/-- 'huddlelaw08.SignRange': WHATEVER THE INPUT: true; the input reads as it did. -/
def signRangeSpec : ChangeSpec := { name := "signRange", fn := fun _ => fun
  | [d1, d2] => { results := [.lit (.bool true)], args := [d1, d2] }
  | _ => none }
def signRangeRow : OpenClaim := { program := "ytlcomikbmbnddaa", sum := "04eafb0d1a07c057c08345f79787d616b0b18d8f5339e614ea7afe18a49118ce", func := "huddle/huddlelaw08.SignRange", spec := "signRange", unfollowed := true, recurses := true, named := ["math/bits.divideError", "math/bits.overflowError"], apart := false }
def SignRangeSaid : Prop := signRangeRow.holds Try.pinned (OpenSpec.ofChange signRangeSpec)

/-- ITS FALSE NEIGHBOUR: 'it returns false'. Refute it at one input. -/
def signRangeWrong : ChangeSpec := { name := "signRange", fn := fun _ => fun
  | [d1, d2] => { results := [.lit (.bool false)], args := [d1, d2] }
  | _ => none }
def SignRangeWrongFalsely : Prop := signRangeRow.holds Try.pinned (OpenSpec.ofChange signRangeWrong)

/-- 'huddlelaw08.SignOwns': WHATEVER THE INPUT: true; the input reads as it did. -/
def signOwnsSpec : ChangeSpec := { name := "signOwns", fn := fun _ => fun
  | [d1, d2] => { results := [.lit (.bool true)], args := [d1, d2] }
  | _ => none }
def signOwnsRow : OpenClaim := { program := "ytlcomikbmbnddaa", sum := "04eafb0d1a07c057c08345f79787d616b0b18d8f5339e614ea7afe18a49118ce", func := "huddle/huddlelaw08.SignOwns", spec := "signOwns", unfollowed := true, recurses := true, named := ["math/bits.divideError", "math/bits.overflowError"], apart := false }
def SignOwnsSaid : Prop := signOwnsRow.holds Try.pinned (OpenSpec.ofChange signOwnsSpec)

/-- ITS FALSE NEIGHBOUR: 'it returns false'. Refute it at one input. -/
def signOwnsWrong : ChangeSpec := { name := "signOwns", fn := fun _ => fun
  | [d1, d2] => { results := [.lit (.bool false)], args := [d1, d2] }
  | _ => none }
def SignOwnsWrongFalsely : Prop := signOwnsRow.holds Try.pinned (OpenSpec.ofChange signOwnsWrong)

/-- 'huddlelaw08.SignKeys': WHATEVER THE INPUT: true; the input reads as it did. -/
def signKeysSpec : ChangeSpec := { name := "signKeys", fn := fun _ => fun
  | [d1, d2] => { results := [.lit (.bool true)], args := [d1, d2] }
  | _ => none }
def signKeysRow : OpenClaim := { program := "ytlcomikbmbnddaa", sum := "04eafb0d1a07c057c08345f79787d616b0b18d8f5339e614ea7afe18a49118ce", func := "huddle/huddlelaw08.SignKeys", spec := "signKeys", unfollowed := true, recurses := true, named := ["math/bits.divideError", "math/bits.overflowError"], apart := false }
def SignKeysSaid : Prop := signKeysRow.holds Try.pinned (OpenSpec.ofChange signKeysSpec)

/-- ITS FALSE NEIGHBOUR: 'it returns false'. Refute it at one input. -/
def signKeysWrong : ChangeSpec := { name := "signKeys", fn := fun _ => fun
  | [d1, d2] => { results := [.lit (.bool false)], args := [d1, d2] }
  | _ => none }
def SignKeysWrongFalsely : Prop := signKeysRow.holds Try.pinned (OpenSpec.ofChange signKeysWrong)

/- THE SECOND FORM. 'bulk': how many values and letters a reading holds, each counted each time it is reached (what is shared counts as often as it is met; a slice's spare places count too). A statement '..UptoSaid' is the law's where the arguments, and the package variables that the reading takes, are together of bulk at most 1048576: NARROWER than '..Said'. Prove '..Said' where nothing that the law and all that it calls make is longer than what came in: it says more and counts as full. Else prove '..UptoSaid'. A law counts once. -/
mutual
def uptoBulk {H : Type} : DataW H → Nat
  | .lit (.string bytes) => bytes.length + 1
  | .lit _ => 1
  | .nil => 1
  | .ptr d => uptoBulk d + 1
  | .slice elems spare => uptoBulkAll elems + uptoBulkAll spare + 1
  | .agg parts => uptoBulkAll parts + 1
  | .iface _ d => uptoBulk d + 1
  | .map entries => uptoBulkEntries entries + 1
  | .held _ => 1
def uptoBulkAll {H : Type} : List (DataW H) → Nat
  | [] => 0
  | d :: r => uptoBulk d + uptoBulkAll r
def uptoBulkEntries {H : Type} : List (Lit × DataW H) → Nat
  | [] => 0
  | x :: r => uptoBulkEntry x + uptoBulkEntries r
def uptoBulkEntry {H : Type} : Lit × DataW H → Nat
  | (.string bytes, d) => bytes.length + uptoBulk d + 1
  | (_, d) => uptoBulk d + 1
 end
def uptoSmall : (H : Type) → List (DataW H) → Bool := fun _ ds => decide (uptoBulkAll ds ≤ 1048576)
def OpenSpec.upto (s : _root_.Go.ChangeSpec) : _root_.Go.OpenSpec := { _root_.Go.OpenSpec.ofChange s with cond := some uptoSmall }

/-- 'huddlelaw08.SignPubs', WHERE WHAT IT READS IS OF BULK AT MOST 1048576: true; the input reads as it did. -/
def signPubsUptoRow : OpenClaim := { program := "ytlcomikbmbnddaa", sum := "04eafb0d1a07c057c08345f79787d616b0b18d8f5339e614ea7afe18a49118ce", func := "huddle/huddlelaw08.SignPubs", spec := "signPubs", unfollowed := true, recurses := true, named := ["math/bits.divideError", "math/bits.overflowError"], apart := false, narrowed := true }
def SignPubsUptoSaid : Prop := signPubsUptoRow.holds Try.pinned (OpenSpec.upto signPubsSpec)

/-- 'huddlelaw08.SignChecks', WHERE WHAT IT READS IS OF BULK AT MOST 1048576: true; the input reads as it did. -/
def signChecksUptoRow : OpenClaim := { program := "ytlcomikbmbnddaa", sum := "04eafb0d1a07c057c08345f79787d616b0b18d8f5339e614ea7afe18a49118ce", func := "huddle/huddlelaw08.SignChecks", spec := "signChecks", unfollowed := true, recurses := true, named := ["math/bits.divideError", "math/bits.overflowError"], apart := false, narrowed := true }
def SignChecksUptoSaid : Prop := signChecksUptoRow.holds Try.pinned (OpenSpec.upto signChecksSpec)

/-- 'huddlelaw08.SignTakes', WHERE WHAT IT READS IS OF BULK AT MOST 1048576: true; the input reads as it did. -/
def signTakesUptoRow : OpenClaim := { program := "ytlcomikbmbnddaa", sum := "04eafb0d1a07c057c08345f79787d616b0b18d8f5339e614ea7afe18a49118ce", func := "huddle/huddlelaw08.SignTakes", spec := "signTakes", unfollowed := true, recurses := true, named := ["math/bits.divideError", "math/bits.overflowError"], apart := false, narrowed := true }
def SignTakesUptoSaid : Prop := signTakesUptoRow.holds Try.pinned (OpenSpec.upto signTakesSpec)

/-- 'huddlelaw08.SignOne', WHERE WHAT IT READS IS OF BULK AT MOST 1048576: true; the input reads as it did. -/
def signOneUptoRow : OpenClaim := { program := "ytlcomikbmbnddaa", sum := "04eafb0d1a07c057c08345f79787d616b0b18d8f5339e614ea7afe18a49118ce", func := "huddle/huddlelaw08.SignOne", spec := "signOne", unfollowed := true, recurses := true, named := ["math/bits.divideError", "math/bits.overflowError"], apart := false, narrowed := true }
def SignOneUptoSaid : Prop := signOneUptoRow.holds Try.pinned (OpenSpec.upto signOneSpec)

/-- 'huddlelaw08.SignRange', WHERE WHAT IT READS IS OF BULK AT MOST 1048576: true; the input reads as it did. -/
def signRangeUptoRow : OpenClaim := { program := "ytlcomikbmbnddaa", sum := "04eafb0d1a07c057c08345f79787d616b0b18d8f5339e614ea7afe18a49118ce", func := "huddle/huddlelaw08.SignRange", spec := "signRange", unfollowed := true, recurses := true, named := ["math/bits.divideError", "math/bits.overflowError"], apart := false, narrowed := true }
def SignRangeUptoSaid : Prop := signRangeUptoRow.holds Try.pinned (OpenSpec.upto signRangeSpec)

/-- 'huddlelaw08.SignOwns', WHERE WHAT IT READS IS OF BULK AT MOST 1048576: true; the input reads as it did. -/
def signOwnsUptoRow : OpenClaim := { program := "ytlcomikbmbnddaa", sum := "04eafb0d1a07c057c08345f79787d616b0b18d8f5339e614ea7afe18a49118ce", func := "huddle/huddlelaw08.SignOwns", spec := "signOwns", unfollowed := true, recurses := true, named := ["math/bits.divideError", "math/bits.overflowError"], apart := false, narrowed := true }
def SignOwnsUptoSaid : Prop := signOwnsUptoRow.holds Try.pinned (OpenSpec.upto signOwnsSpec)

/-- 'huddlelaw08.SignKeys', WHERE WHAT IT READS IS OF BULK AT MOST 1048576: true; the input reads as it did. -/
def signKeysUptoRow : OpenClaim := { program := "ytlcomikbmbnddaa", sum := "04eafb0d1a07c057c08345f79787d616b0b18d8f5339e614ea7afe18a49118ce", func := "huddle/huddlelaw08.SignKeys", spec := "signKeys", unfollowed := true, recurses := true, named := ["math/bits.divideError", "math/bits.overflowError"], apart := false, narrowed := true }
def SignKeysUptoSaid : Prop := signKeysUptoRow.holds Try.pinned (OpenSpec.upto signKeysSpec)

end Rows
end Go.Proofs.Ytlcomikbmbnddaa
