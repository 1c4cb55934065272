/-
  What is read without anything wrong is what would be written. Plain Lean.
-/
import Derived.Test.YtkppihpdhildjaaPackBack
namespace Go.Proofs.Ytkppihpdhildjaa
namespace Pk
/-- A reading at a, without anything wrong ahead of it: right: these bytes stand there; wrong: the place is as it was. -/
def Once (bs : List UInt8) (a : Nat) (x : List UInt8) (a' : Nat) (e' : Int) : Prop :=
  (e' = 0 → bs.take a' = bs.take a ++ x) ∧ (e' ≠ 0 → a' = a)
theorem take_of_drop {bs x r : List UInt8} {a : Nat} (ha : a ≤ bs.length) (h : bs.drop a = x ++ r) : bs.take (a + x.length) = bs.take a ++ x := by
  conv => lhs; rw [← List.take_append_drop a bs, h, List.take_append, List.take_of_length_le (by rw [List.length_take]; omega)]
  rw [List.length_take, Nat.min_eq_left ha, Nat.add_sub_cancel_left, List.take_left]
theorem once_num {bs : List UInt8} {a v a' : Nat} {e' : Int} (ha : a ≤ bs.length) (h : rd bs a 0 = (v, a', e')) : Once bs a (num v) a' e' := by
  refine ⟨fun he => ?_, fun he => ?_⟩
  · have := rd_inv (bs := bs) (a := a) (e := 0) (by rw [h]; exact he)
    rw [h] at this
    obtain ⟨_, h2, r, h3⟩ := this
    have h2' : a' = a + (num v).length := h2
    rw [h2']
    exact take_of_drop ha h3
  · have := (rd_err (bs := bs) (a := a) (e := 0) (by rw [h]; exact he)).2
    rw [h] at this
    exact this
theorem once_int {bs : List UInt8} {a a' : Nat} {v e' : Int} (ha : a ≤ bs.length) (h : rdInt bs a 0 = (v, a', e')) : Once bs a (int v) a' e' := by
  unfold rdInt at h
  injection h with h1 h2; injection h2 with h2 h3
  have := once_num (v := (rd bs a 0).1) (a' := a') (e' := e') ha (by rw [← h2, ← h3])
  rw [← h1]
  unfold int
  rw [fold_unfold]
  exact this
theorem once_many {bs : List UInt8} {a a' : Nat} {v e' M : Int} (ha : a ≤ bs.length) (h : rdMany bs a 0 M = (v, a', e')) : Once bs a (int v) a' e' := by
  unfold rdMany at h
  split at h
  · injection h with h1 h2; injection h2 with h2 h3
    exact ⟨fun he => by omega, fun _ => h2.symm⟩
  · exact once_int ha h
theorem once_bool {bs : List UInt8} {a a' : Nat} {v : Bool} {e' : Int} (ha : a ≤ bs.length) (h : rdBool bs a 0 = (v, a', e')) : Once bs a (bool v) a' e' := by
  unfold rdBool at h
  split at h
  · injection h with h1 h2; injection h2 with h2 h3
    exact ⟨fun he => by omega, fun _ => h2.symm⟩
  · rename_i hn
    injection h with h1 h2; injection h2 with h2 h3
    have := once_num (v := (rd bs a 0).1) (a' := a') (e' := e') ha (by rw [← h2, ← h3])
    have h02 : (rd bs a 0).1 = 0 ∨ (rd bs a 0).1 = 2 := by omega
    rcases h02 with h0 | h0
    · rw [h0] at this h1
      rw [← h1]; exact this
    · rw [h0] at this h1
      rw [← h1]; exact this
theorem once_text {bs s : List UInt8} {a a' : Nat} {e' : Int} (ha : a ≤ bs.length) (h : rdText bs a 0 = (s, a', e')) : Once bs a (text s) a' e' := by
  unfold rdText at h
  split at h
  · rename_i he
    have := (rd_err he).2
    injection h with h1 h2
    rw [h2] at this he
    exact ⟨fun hh => absurd hh he, fun _ => this⟩
  · rename_i he
    have he0 : (rd bs a 0).2.2 = 0 := by omega
    split at h
    · injection h with h1 h2; injection h2 with h2 h3
      exact ⟨fun he => by omega, fun _ => h2.symm⟩
    · split at h
      · injection h with h1 h2; injection h2 with h2 h3
        exact ⟨fun he => by omega, fun _ => h2.symm⟩
      · rename_i hodd hlen
        obtain ⟨_, h2, r, h3⟩ := rd_inv he0
        injection h with g1 g2; injection g2 with g2 g3
        refine ⟨fun _ => ?_, fun hh => absurd g3.symm hh⟩
        have hd := drop_more h3
        rw [← h2] at hd
        have hsl : s.length = (rd bs a 0).1 / 2 := by
          rw [← g1, List.length_take, List.length_drop]; omega
        have hf : fold (s.length : Int) = (rd bs a 0).1 := by unfold fold; rw [if_neg (by omega), hsl]; omega
        have et : text s = num (rd bs a 0).1 ++ s := by unfold text int; rw [hf]
        have hall : bs.drop a = text s ++ (bs.drop (rd bs a 0).2.1).drop ((rd bs a 0).1 / 2) := by
          rw [et, List.append_assoc, h3, ← g1, List.take_append_drop, hd]
        rw [← g2, h2, ← hsl]
        have := take_of_drop ha hall
        rw [et, List.length_append] at this
        rw [et, Nat.add_assoc]
        exact this
theorem rdInt_inv {bs : List UInt8} {a a' : Nat} {v e e' : Int} (h : rdInt bs a e = (v, a', e')) (he : e' = 0) : e = 0 := by
  unfold rdInt at h
  injection h with h1 h2; injection h2 with h2 h3
  exact (rd_inv (bs := bs) (a := a) (e := e) (by rw [h3]; exact he)).1
theorem once_ident {bs : List UInt8} {a a' u : Nat} {b s e' : Int} (ha : a ≤ bs.length) (h : rdIdent bs a 0 = ((b, s, u), a', e')) : Once bs a (ident b s u) a' e' := by
  unfold rdIdent at h
  obtain ⟨v1, a1, e1, h1⟩ : ∃ v1 a1 e1, rdInt bs a 0 = (v1, a1, e1) := ⟨_, _, _, rfl⟩
  obtain ⟨v2, a2, e2, h2⟩ : ∃ v2 a2 e2, rdInt bs a1 e1 = (v2, a2, e2) := ⟨_, _, _, rfl⟩
  obtain ⟨v3, a3, e3, h3⟩ : ∃ v3 a3 e3, rd bs a2 e2 = (v3, a3, e3) := ⟨_, _, _, rfl⟩
  simp only [h1, h2, h3] at h
  split at h
  · rename_i he
    injection h with g1 g2; injection g2 with g2 g3
    exact ⟨fun hh => by omega, fun _ => g2.symm⟩
  · rename_i he
    injection h with g1 g2; injection g2 with g2 g3
    injection g1 with g4 g5; injection g5 with g5 g6
    have he3 : e3 = 0 := by omega
    subst he3
    have z2 : e2 = 0 := (rd_inv (bs := bs) (a := a2) (e := e2) (by rw [h3])).1
    subst z2
    have z1 : e1 = 0 := rdInt_inv h2 rfl
    subst z1
    have l1 := rd_le (bs := bs) (a := a) 0 ha
    have o1 := once_int ha h1
    have ha1 : a1 ≤ bs.length := by
      unfold rdInt at h1
      injection h1 with x1 x2; injection x2 with x2 x3
      rw [x2] at l1; exact l1
    have o2 := once_int ha1 h2
    have l2 := rd_le (bs := bs) (a := a1) 0 ha1
    have ha2 : a2 ≤ bs.length := by
      unfold rdInt at h2
      injection h2 with x1 x2; injection x2 with x2 x3
      rw [x2] at l2; exact l2
    have o3 := once_num ha2 h3
    refine ⟨fun _ => ?_, fun hh => absurd g3.symm hh⟩
    subst g2 g4 g5 g6
    rw [o3.1 rfl, o2.1 rfl, o1.1 rfl]
    unfold ident
    simp only [List.append_assoc]
end Pk
end Go.Proofs.Ytkppihpdhildjaa
