/-
  A region that draws its order: a beginning whose order is forced, or that may be taken first, and then a quiet tail in the order of the text.
-/
import Derived.Test.YtahcddlgghipjaaGreatDoorPackIn
import Derived.BigQuiet
import Derived.Deep.RegionWith
namespace Go.Proofs.YtahcddlgghipjaaGreatDoor
open Go.RowKit

/-- From here on all operations are quiet: number k and up, in the order of the text. -/
theorem wpAny_tail {P : Program} {Q : Exit → Act → World → Prop} {l : List Oper} {fuel : Nat} {listed : Array Bool} {a : Act} {w : World} (k : Nat) (ll : List Oper)
    (hs : Region.noSelect l.toArray = true) (hll : l.drop k = ll) (hlen : ll.length = fuel) (hB : Region.lexFrom .any l.toArray fuel k listed = true)
    (h : wpQuiet P l.toArray (fun w' => ∃ n, w' = w.drewN n) (fun a' => ∀ w', (∃ n, w' = w.drewN n) → Q .normal a' w') ll a) :
    wpAny P .any l.toArray Q fuel listed a w := by
  subst hll hlen
  refine wpAny_of_quiet (C := fun w' => ∃ n, w' = w.drewN n) (Q := fun a' => ∀ w', (∃ n, w' = w.drewN n) → Q .normal a' w') (fun _ w' hw' h => h w' hw') _ _ _ _ ⟨0, rfl⟩ ?_
  exact wpAnyQ_lex hs (l.drop k) k listed a (fun j => by simp [List.getElem?_drop]) hB h

/-- Operation i is the only one that may come up. -/
theorem wpAny_only {P : Program} {Q : Exit → Act → World → Prop} {ops : Array Oper} {fuel : Nat} {listed : Array Bool} {a : Act} {w : World} (i : Nat) {o : Oper} (hr : Region.ready .any ops listed = [i]) (ho : ops[i]? = some o)
    (hw : Region.wanted o (yielded ops a.tmps) = true)
    (h : ∀ K' : Act → World → Prop, (∀ a w, wpAny P .any ops Q fuel (listed.setIfInBounds i true) a w → K' a w) → Oper.wp P o a w K' Q) :
    wpAny P .any ops Q (fuel + 1) listed a w :=
  wpAny_ready hr (by simp) (AllReady.cons ho (fun K' hK => by rw [if_pos hw]; exact h K' hK) AllReady.nil)

/-- Quiet contracts of what only reads. -/
theorem inErr_quiet (B g : Nat) (bs : List UInt8) (a : Nat) (e : Int) (w : World) (hin : InAt w B g bs a e) :
    Calls Tryz.prog 94 #[.pointer (some ⟨g, 0, none⟩)] w fun r w' => r = .returned (.int .i64 e) ∧ w' = w :=
  (inErr_any B g bs a e w hin).mono fun _ _ h => ⟨h.1, h.2.symm⟩
theorem inLeft_quiet (B g : Nat) (bs : List UInt8) (a : Nat) (e : Int) (w : World) (hin : InAt w B g bs a e) :
    Calls Tryz.prog 91 #[.pointer (some ⟨g, 0, none⟩)] w fun r w' => r = .returned (.int .i64 ((bs.length - a : Nat) : Int)) ∧ ∃ n, w' = w.drewN n := by
  have hin0 := hin
  obtain ⟨A, c, hb, hr, hB, ha, hn⟩ := hin0
  have h0 := hb.cell 0
  have h1 := hb.cell 1
  go_enter Tryz.func91, Tryz.ntmps91
  go_wp2
  go_quiet (fail)
  go_wp2
  go_ret
  exact ⟨congrArg (fun z => Ending.returned (.int .i64 z)) (show _ = ((bs.length - a : Nat) : Int) by omega), _, rfl⟩
end Go.Proofs.YtahcddlgghipjaaGreatDoor
