/-
  A region that draws its order: a forced beginning, a quiet tail. Plain theorems over the model's walk; no condition.
-/
import Derived.Test.YtlcomikbmbnddaaBase
import Derived.Deep.RegionHeld3
namespace Go.Proofs.Ytlcomikbmbnddaa
open Go.RowKit

/-- From here on all operations are quiet: number k and up, in the order of the text. -/
theorem wpAny_tail {P : Program} {Q : Exit → Act → World → Prop} {l : List Oper} {fuel : Nat} {listed : Array Bool} {a : Act} {w : World} (k : Nat) (ll : List Oper)
    (hs : Region.noSelect l.toArray = true) (hll : l.drop k = ll) (hlen : ll.length = fuel) (hB : Region.lexFrom .any l.toArray fuel k listed = true)
    (h : wpQuiet P l.toArray (fun w' => ∃ n, w' = w.drewN n) (fun a' => ∀ w', (∃ n, w' = w.drewN n) → Q .normal a' w') ll a) :
    wpAny P .any l.toArray Q fuel listed a w := by
  subst hll hlen
  refine wpAny_of_quiet (C := fun w' => ∃ n, w' = w.drewN n) (Q := fun a' => ∀ w', (∃ n, w' = w.drewN n) → Q .normal a' w') (fun _ w' hw' h => h w' hw') _ _ _ _ ⟨0, rfl⟩ ?_
  exact wpAnyQ_lex hs (l.drop k) k listed a (fun j => by simp [List.getElem?_drop]) hB h

/-- Operation i is the only one that may come up. -/
theorem wpAny_only {P : Program} {Q : Exit → Act → World → Prop} {ops : Array Oper} {fuel : Nat} {listed : Array Bool} {a : Act} {w : World} (i : Nat) {o : Oper} (hr : Region.ready .any ops listed = [i]) (ho : ops[i]? = some o)
    (hw : Region.wanted o (yielded ops a.tmps) = true)
    (h : ∀ K' : Act → World → Prop, (∀ a w, wpAny P .any ops Q fuel (listed.setIfInBounds i true) a w → K' a w) → Oper.wp P o a w K' Q) :
    wpAny P .any ops Q (fuel + 1) listed a w :=
  wpAny_ready hr (by simp) (AllReady.cons ho (fun K' hK => by rw [if_pos hw]; exact h K' hK) AllReady.nil)

end Go.Proofs.Ytlcomikbmbnddaa
