/-
  The reference of layer 11: Put, SameOp.
  Conditions: the operation reads below the heap's size; numbers are of their kinds; lists are not too long.
-/
import Derived.Test.YtahcddlgghipjaaGreatDoorRefBytes
import Derived.Test.YtahcddlgghipjaaGreatDoorRowOps
import Derived.Deep.RegionHeld3
namespace Go.Proofs.YtahcddlgghipjaaGreatDoor
open Go.RowKit
attribute [local go_sem ↓] Go.wp_at_zero Go.wp_at_succ
namespace Oq
attribute [local go_sem ↓] loadAt_op

theorem two_flat (a b : Nat) : [a, b].flatMap Pk.num = Pk.num a ++ Pk.num b := by simp [List.flatMap_cons]
theorem ba_loop (bs : ByteArray) : ∀ (n i : Nat) (r : List UInt8), bs.size - i = n → ByteArray.toList.loop bs i r = r.reverse ++ bs.data.toList.drop i := by
  intro n
  induction n with
  | zero =>
    intro i r h
    rw [ByteArray.toList.loop, if_neg (by omega), List.drop_of_length_le (by show bs.data.size ≤ i; have : bs.size = bs.data.size := rfl; omega), List.append_nil]
  | succ n ih =>
    intro i r h
    have hs : bs.size = bs.data.size := rfl
    have hi : i < bs.data.toList.length := by rw [Array.length_toList]; omega
    rw [ByteArray.toList.loop, if_pos (by omega), ih (i + 1) _ (by omega), List.drop_eq_getElem_cons hi]
    have : bs.get! i = bs.data.toList[i] := by
      show bs.data[i]! = _
      rw [getElem!_pos bs.data i (by omega)]
      simp
    rw [this]
    simp
theorem ba_list (bs : ByteArray) : bs.toList = bs.data.toList := by
  unfold ByteArray.toList
  rw [ba_loop bs _ 0 [] rfl]
  simp
theorem str_toList (bs : List UInt8) : (str bs).toList = bs := by rw [ba_list]; rfl
theorem OpL.frame {x : OpL} {w w' : World} (h : x.at w w.heap.size) (hf : Fr Non w w') : x.at w' w'.heap.size := (h.fr hf (fun _ _ e => e)).mono hf.size

end Oq
end Go.Proofs.YtahcddlgghipjaaGreatDoor
