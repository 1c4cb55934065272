/-
  'for .. := range f { .. }' by one law: an iterator that gives a list, and a body that never leaves; frames say what each side turns.
  Plain theorems over the model's walk; the fence is the wide one; no condition.
-/
import Derived.Test.YthmlaigpdpdpjaaGreatDoorBase
import Derived.RangeFuncSeq
import Derived.RangeFuncBound
import Derived.RangeFuncLeaves
import Derived.RangeFuncRecord
import Derived.Shelf.Abstract
namespace Go.Proofs.YthmlaigpdpdpjaaGreatDoor
open Go.RowKit Go.Shelf

theorem Fr.putObj {S : Nat → Prop} {a w : World} (h : Fr S a w) {l : Nat} (hl : l < a.heap.size → S l) (o : Obj) : Fr S a (w.putObj l o) :=
  h.trans (S' := fun k => k = l) ⟨rfl, rfl, rfl, by simp, fun k _ hk => World.putObj_heap_other hk⟩ (fun i hi e => by subst e; exact hl hi)

theorem Fr.putOne (w : World) (l : Nat) (o : Obj) : Fr (fun k => k = l) w (w.putObj l o) :=
  ⟨rfl, rfl, rfl, by simp, fun k _ hk => World.putObj_heap_other hk⟩

theorem Fr.obj {S : Nat → Prop} {w w' : World} {k : Nat} {o : Obj} (h : Fr S w w') (hk : w.heap[k]? = some o) (hs : ¬ S k) : w'.heap[k]? = some o :=
  (h.block k (Array.getElem?_eq_some_iff.1 hk).1 hs).trans hk

theorem yieldAt_any {n m : Nat} {P : Program} {l : Nat} {args : Array Value} {W : World} {R : Ending → World → Prop} (h : YieldAt Fence.wide n P l args W R) : YieldAt Fence.wide m P l args W R := by
  obtain ⟨fn, tmps, assign, body, hy, hR⟩ := h
  exact ⟨fn, tmps, assign, body, hy, hR.1, fun c cs _ => hR.2 c cs (room_wide _)⟩

theorem callsRound {l n : Nat} {P : Program} {f : FuncId} {args : Array Value} {w : World} {R : Ending → World → Prop} (h : Calls P f args w R) : CallsIn (Fence.wide.inRound l) n P f args w R := callsIn_wide.2 h

theorem roundRound {l l' n m : Nat} {P : Program} {f : FuncId} {tmps : Array Value} {assign body : Code} {w : World} {R : Ending → World → Prop} (h : RoundIn Fence.wide n P l f tmps assign body w R) : RoundIn (Fence.wide.inRound l') m P l f tmps assign body w R :=
  ⟨h.1, fun c cs _ => h.2 c cs (room_wide _)⟩

/-- THE ITERATOR's CONTRACT: from world W0 on it gives just the list xs; of what lay it turns S alone; a round turns T alone; at each round the heap has grown to C. -/
def SeqL {α : Type} (P : Program) (gf : Nat) (lb : Array Value) (encs : α → Array Value) (xs : List α) (S T : Nat → Prop) (C : Nat) (W0 : World) : Prop :=
  ∀ (l : Nat) (J : Nat → World → Prop), (∀ i A B, J i A → Fr S A B → J i B) → J 0 W0 →
    (∀ i x W, xs[i]? = some x → J i W → C ≤ W.heap.size → YieldAt Fence.wide 0 P l (encs x) W fun e W' => e = .returned (.bool true) ∧ J (i + 1) W' ∧ Fr T W W') →
    Calls P gf (#[.func (.yield l) #[] #[]] ++ lb) W0 fun e W' => (∃ v, e = .returned v) ∧ J xs.length W'

/-- How the body of a round is left. -/
def roundQ (I : World → Prop) (T : Nat → Prop) (W : World) : Exit → Act → World → Prop
  | .normal, _, W' => I W' ∧ Fr T W W'
  | _, _, _ => False

/-- THE LAW. D: the block for deferred calls; D + 1: the loop's record. -/
theorem range_any {α : Type} {P : Program} {n : Nat} {g : Operand} {ps : Array Tmp} {assign body : Code} {Q : Exit → Act → World → Prop} {a : Act} {w : World} {gf : Nat} {lb : Array Value}
    (hg : a.eval g = .func (.func gf) #[] lb) (eg : ∀ args w, (callFunc gf args).run P w = .ok (.enter gf args) w)
    {encs : α → Array Value} {xs : List α} {S Tb : Nat → Prop} {C : Nat} (hps : ∀ x, (encs x).size = ps.size)
    (hseq : ∀ W1, Fr Non w W1 → W1.heap.size = w.heap.size + 2 → SeqL P gf lb encs xs S (fun k => Tb k ∨ k = w.heap.size + 1) C W1)
    (hS : ¬ S w.heap.size ∧ ¬ S (w.heap.size + 1)) (hT : ¬ Tb w.heap.size ∧ ¬ Tb (w.heap.size + 1))
    (I : Nat → World → Prop) (hI : ∀ i A B, I i A → Fr (fun k => S k ∨ k = w.heap.size ∨ k = w.heap.size + 1) A B → I i B) (h0 : I 0 w)
    (hround : ∀ (i : Nat) (x : α) (W : World), xs[i]? = some x →
      assign.wpIn (Fence.wide.inRound (w.heap.size + 1)) 0 P (Exit.then (fun a' W' => W' = W ∧ ∀ W2, I i W2 → C ≤ W2.heap.size → body.wpIn (Fence.wide.inRound (w.heap.size + 1)) 0 P (roundQ (I (i + 1)) Tb W2) a' W2) (fun _ _ _ => False))
        { tmps := (ps.zip (encs x)).foldl (fun t (p, v) => t.setIfInBounds p v) a.tmps, defers := [] } W)
    (hdone : ∀ (W : World), I xs.length W → W.heap[w.heap.size]? = some (.deferred (some [])) → Q .normal { a with defers := { target := .collected w.heap.size, args := #[] } :: a.defers } W) :
    (Code.rangeFunc g ps assign body).wp P Q a w := by
  refine (wpIn_wide (n := n)).1 (wpIn_rangeFunc ?_)
  intro fn hfn
  obtain ⟨rec, hrec⟩ : ∃ rec : LoopState → Loop, rec = fun st => { state := st, pending := none, fn, tmps := a.tmps, params := ps, assign, body, defers := w.heap.size } := ⟨_, rfl⟩
  obtain ⟨W1, hW1⟩ : ∃ W1, (w.alloc (.deferred (some []))).alloc (.loop (rec .ready)) = W1 := ⟨_, rfl⟩
  have hL1 : W1.heap[w.heap.size + 1]? = some (.loop (rec .ready)) := by
    rw [← hW1]; have := World.alloc_heap_new (w.alloc (.deferred (some []))) (.loop (rec .ready)); rwa [World.size_alloc] at this
  have hK1 : W1.heap[w.heap.size]? = some (.deferred (some [])) := by
    rw [← hW1]; exact (Below.heap_alloc _ _ _ (by simp)).trans (World.alloc_heap_new w _)
  have hf1 : Fr Non w W1 := by rw [← hW1]; exact ((Fr.refl _ _).alloc _).alloc _
  have hz1 : W1.heap.size = w.heap.size + 2 := by rw [← hW1]; simp
  refine ⟨w.heap.size + 1, [{ target := .collected w.heap.size, args := #[] }], W1, { target := .fn (.func gf) lb, args := #[.func (.yield (w.heap.size + 1)) #[] #[]] }, W1, gf,
    #[.func (.yield (w.heap.size + 1)) #[] #[]] ++ lb, W1, ?_, ?_, fun _ _ => trivial, ?_, fun h => by simp [Fence.wide] at h, ?_⟩
  · rw [← hW1, hrec]; exact run_enterLoop_outer _ _ _ _ _
  · simp only [resolve, hg]
    simp [go_sem]
  · simp [invoke, go_sem, eg]
  · refine callsIn_wide.2 ((hseq W1 hf1 hz1 (w.heap.size + 1)
      (fun i W => I i W ∧ W.heap[w.heap.size + 1]? = some (.loop (rec .ready)) ∧ W.heap[w.heap.size]? = some (.deferred (some [])))
      (fun i A B h hf => ⟨hI i A B h.1 (hf.mono fun _ _ hk => .inl hk), hf.obj h.2.1 hS.2, hf.obj h.2.2 hS.1⟩)
      ⟨hI 0 w W1 h0 (hf1.of_non _), hL1, hK1⟩ ?_).mono ?_)
    · rintro i x W hx ⟨hi, hl, hk⟩ hC
      have hlt : w.heap.size + 1 < W.heap.size := (Array.getElem?_eq_some_iff.1 hl).1
      have hy := run_yield (P := P) (args := encs x) hl (by rw [hrec]; exact hps x)
      rw [hrec] at hy
      refine ⟨fn, _, assign, body, hy, roundIn_of_wpIn hfn (wpIn_mono (hround i x W hx) ?_)⟩
      rintro e a' W' hp
      cases e with
      | normal => ?_
      | ret => exact hp.elim
      | exit id => exact hp.elim
      | goto t => exact hp.elim
      | panic ch => exact hp.elim
      | outgrown => exact hp.elim
      obtain ⟨hW, hbody⟩ := hp
      subst W'
      refine ⟨_, run_beginRound hl (by rw [hrec]), ?_⟩
      have hl2 : (W.putObj (w.heap.size + 1) (.loop { rec .ready with state := .busy })).heap[w.heap.size + 1]? = some (.loop { rec .ready with state := .busy }) := World.putObj_heap_same hlt
      have hk2 : (W.putObj (w.heap.size + 1) (.loop { rec .ready with state := .busy })).heap[w.heap.size]? = some (.deferred (some [])) := (World.putObj_heap_other (by omega)).trans hk
      have hf2 : Fr (fun k => k = w.heap.size + 1) W (W.putObj (w.heap.size + 1) (.loop { rec .ready with state := .busy })) := Fr.putOne _ _ _
      refine wpIn_mono (hbody _ (hI i _ _ hi (hf2.mono fun _ _ e => .inr (.inr e))) (by simpa using hC)) ?_
      rintro e a3 W3 hp
      cases e with
      | normal =>
        obtain ⟨hi3, hf3⟩ := hp
        have hl3 := hf3.obj hl2 hT.2
        have hk3 := hf3.obj hk2 hT.1
        have hr := run_endRound (P := P) none hl3
        rw [hrec] at hr
        have hf4 : Fr (fun k => k = w.heap.size + 1) W3 (W3.putObj (w.heap.size + 1) (.loop (rec .ready))) := Fr.putOne _ _ _
        refine ⟨_, _, hr, rfl, ⟨?_, ?_, ?_⟩, ?_⟩
        · rw [hrec] at hf4; exact hI _ _ _ hi3 (hf4.mono fun _ _ e => .inr (.inr e))
        · rw [hrec]; exact World.putObj_heap_same (Array.getElem?_eq_some_iff.1 hl3).1
        · exact (World.putObj_heap_other (by omega)).trans hk3
        · rw [hrec] at hf4 hf2 hf3
          exact ((hf2.mono (S' := fun k => Tb k ∨ k = w.heap.size + 1) fun _ _ e => .inr e).trans hf3 fun _ _ e => .inl e).trans hf4 fun _ _ e => .inr e
      | ret => exact hp.elim
      | exit id => exact hp.elim
      | goto t => exact hp.elim
      | panic ch => exact hp.elim
      | outgrown => exact hp.elim
    · rintro e W2 ⟨⟨v, rfl⟩, hi, hl, hk⟩
      refine ⟨none, W2.putObj (w.heap.size + 1) (.loop { rec .ready with state := .exhausted }), ?_, hdone _ (hI _ _ _ hi ((Fr.putOne W2 (w.heap.size + 1) _).mono fun _ _ e => .inr (.inr e))) ((World.putObj_heap_other (by omega)).trans hk)⟩
      have h := run_endLoop (P := P) hl (by rw [hrec]; simp)
      rw [hrec] at h ⊢
      exact h
end Go.Proofs.YthmlaigpdpdpjaaGreatDoor
