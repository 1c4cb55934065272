/-
  The last step of every law: the call returned true, and nothing that was there has turned; so the row's post holds.
  Plain theorems over the form; no condition.
-/
import Derived.Test.YtahcddlgghipjaaGreatDoorRows
import Derived.Test.YtahcddlgghipjaaGreatDoorBase
import Derived.ProofKit
namespace Go.Proofs.YtahcddlgghipjaaGreatDoor
open Go.ChangeShapes Go.WideShapes Go.ChangeAt Go.RowKit

theorem trodAll_kept {H : Type} {enc : TypeId × Value → H} {P : Program} (hl : laidOutB P = true) {W W' : World} {sp : Nat → Bool} : ∀ (ts : List TypeId) (vs : List Value) (ds : List (DataW H)) (ps : List MemPlace),
    (∀ t ∈ ts, P.readableRec t = true ∧ t < P.types.size) → DataW.TrodAll enc P W 0 (fun _ => true) true ts vs ds ps → (∀ p ∈ ps, W.sameAt W' p) → (∀ p ∈ ps, sp p.block = true) →
    DataW.TrodAll enc P W' 0 sp true ts vs ds ps
  | [], [], [], _, _, h, _, _ => h
  | [], _ :: _, _, _, _, h, _, _ => h.elim
  | [], [], _ :: _, _, _, h, _, _ => h.elim
  | _ :: _, [], _, _, _, h, _, _ => h.elim
  | _ :: _, _ :: _, [], _, _, h, _, _ => h.elim
  | t :: ts, v :: vs, d :: ds, ps, hr, h, hs, hp => by
    obtain ⟨p, q, h1, h2, rfl⟩ := h
    have ht := hr t (by simp)
    exact ⟨p, q, WideElems.Trod_stays hl ht.1 ht.2 h1 (fun x hx => hs x (by simp [hx])) (fun x hx => hp x (by simp [hx])),
      trodAll_kept hl ts vs ds q (fun x hx => hr x (by simp [hx])) h2 (fun x hx => hs x (by simp [hx])) (fun x hx => hp x (by simp [hx])), rfl⟩

theorem law_post {H : Type} {enc : TypeId × Value → H} {P : Program} {f : Func} {s : ChangeSpec} {fresh handsOn again : Bool} {W W' : World} {args : Array Value} {ds gs : List (DataW H)} {before : List MemPlace} {tb : TypeId}
    (hl : laidOutB P = true) (hr : f.params.toList.all (fun t => P.readableRec t && decide (t < P.types.size)) = true) (hvars : s.vars = []) (hres : f.resultTypes = #[tb]) (htb : P.underlying tb = some .bool)
    (hW : DataW.Whole enc P f.params.toList s.vars false W args.toList ds gs before)
    (hfn : (s.fn H ds).results = [.lit (.bool true)] ∧ (s.fn H ds).args = ds ∧ (s.fn H ds).vars = []) (hf : Fr Non W W') :
    s.post enc P f false fresh handsOn again W args (.bool true) W' := by
  have hb := hf.non
  have hlt : ∀ p ∈ before, p.block < W.heap.size := fun p hp => hW.lt p hp
  have hr' : ∀ t ∈ f.params.toList, P.readableRec t = true ∧ t < P.types.size := fun t ht => by
    have := List.all_eq_true.1 hr t ht
    simpa using this
  have hW0 := hW
  obtain ⟨p, q, hA, hV, rfl, hz, _⟩ := hW0
  rw [hvars] at hV
  obtain ⟨rfl, rfl⟩ : gs = [] ∧ q = [] := by
    cases gs with
    | nil => exact ⟨rfl, hV⟩
    | cons _ _ => exact hV.elim
  rw [List.append_nil] at *
  have hsame : ∀ x ∈ p, W.sameAt W' x := fun x hx => hb.same (hlt x hx)
  have hval : DataW.TrodAll enc P W' 0 (fun _ => true) true f.params.toList args.toList ds p := trodAll_kept hl _ _ _ _ hr' hA hsame (fun _ _ => rfl)
  have hres0 : ∀ (b : Nat) (sp : Nat → Bool) (hd : Bool), DataW.TrodAll enc P W' b sp hd f.resultTypes.toList ((Value.bool true).resultList f.resultTypes.size) (s.fn H ds).results [] := by
    intro b sp hd
    rw [hres, hfn.1]
    exact trodAll_mk1 (shut_bool htb true)
  refine ⟨ds, [], p, [], p, [], hW, by rw [List.append_nil]; exact hres0 _ _ _, ?_, ?_, World.keptBut_mono (fun x hx => ⟨hx, .inr (.inl hx)⟩) (hb.frame (· ∈ p)), fun _ => ?_⟩
  · rw [List.append_nil, hfn.2.1]
    exact trodAll_kept hl _ _ _ _ hr' hA hsame (fun x hx => by simpa using hlt x hx)
  · rw [List.append_nil, hvars, hfn.2.2]
    exact rfl
  · refine ⟨?_, _, [], p, ⟨[] ++ p, [], trodAll_append hval (hres0 _ _ _), by rw [hvars]; exact rfl, by simp, ?_, fun h => by cases h⟩, fun x hx _ => hx⟩
    · exact ok_one hres rfl (okWide_bool_mk htb true)
    · intro b off hp
      rw [hb.frozen (hlt _ hp)]
      exact hz b off hp
theorem Tryz.own : ownKnob Tryz.prog.godebug = none := by kernel_rfl
theorem Tryz.laidOut : laidOutB Tryz.prog = true := by kernel_rfl
end Go.Proofs.YtahcddlgghipjaaGreatDoor
