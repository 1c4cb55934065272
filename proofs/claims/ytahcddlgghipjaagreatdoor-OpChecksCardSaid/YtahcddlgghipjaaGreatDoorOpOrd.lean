/-
  Names in their row: Less is a strict total order; Sorted gives a row of the same names.
  Plain Lean; no program; no condition.
-/
import Derived.Test.YtahcddlgghipjaaGreatDoorGenSpec
namespace Go.Proofs.YtahcddlgghipjaaGreatDoor
namespace Oq

theorem Id.less_iff (a b : Id) : Id.less a b = true ↔ a.b < b.b ∨ (a.b = b.b ∧ (a.s < b.s ∨ (a.s = b.s ∧ a.u < b.u))) := by
  unfold Id.less
  by_cases h1 : a.b = b.b
  · by_cases h2 : a.s = b.s
    · rw [if_pos h1, if_pos h2]; simp; omega
    · rw [if_pos h1, if_neg h2]; simp; omega
  · rw [if_neg h1]; simp; omega
theorem Id.less_irr (a : Id) : Id.less a a = false := by
  cases h : Id.less a a
  · rfl
  · rw [Id.less_iff] at h; omega
theorem Id.less_tr {a b c : Id} (h : Id.less a b = true) (k : Id.less b c = true) : Id.less a c = true := by
  rw [Id.less_iff] at *; omega
theorem Id.less_as {a b : Id} (h : Id.less a b = true) : Id.less b a = false := by
  cases k : Id.less b a
  · rfl
  · rw [Id.less_iff] at *; omega
theorem Id.less_tot (a b : Id) : Id.less a b = true ∨ a = b ∨ Id.less b a = true := by
  rw [Id.less_iff, Id.less_iff]
  by_cases h1 : a.b = b.b
  · by_cases h2 : a.s = b.s
    · by_cases h3 : a.u = b.u
      · refine .inr (.inl ?_)
        cases a; cases b; simp_all
      · omega
    · omega
  · omega
theorem Id.less_f {a b : Id} (h : Id.less a b = false) : b = a ∨ Id.less b a = true := by
  rcases Id.less_tot a b with k | k | k
  · rw [h] at k; cases k
  · exact .inl k.symm
  · exact .inr k

/-- A row of names, none twice. -/
def Row (l : List Id) : Prop := l.Pairwise (fun a b => Id.less a b = true)
/-- A row of names. -/
def RowW (l : List Id) : Prop := l.Pairwise (fun a b => Id.less b a = false)
theorem Row.nodup {l : List Id} (h : Row l) : l.Nodup := h.imp (fun {a b} k e => by rw [e, Id.less_irr] at k; cases k)
theorem RowW.row {l : List Id} (h : RowW l) (hn : l.Nodup) : Row l := by
  unfold Row RowW at *
  exact (List.Pairwise.and h hn).imp (fun {a b} k => by
    rcases Id.less_f k.1 with e | e
    · exact absurd e k.2
    · exact e)
theorem Row.weak {l : List Id} (h : Row l) : RowW l := h.imp (fun {_ _} k => Id.less_as k)

theorem insAt_le (x : Id) (l : List Id) : ∀ k, insAt x l k ≤ k
  | 0 => Nat.le_refl _
  | k + 1 => by
    show (match l[k]? with | some y => if Id.less x y then insAt x l k else k + 1 | none => k + 1) ≤ _
    split
    · split
      · exact Nat.le_trans (insAt_le x l k) (Nat.le_succ k)
      · exact Nat.le_refl _
    · exact Nat.le_refl _
theorem insAt_ge (x : Id) (l : List Id) : ∀ k, k ≤ l.length → ∀ j y, insAt x l k ≤ j → j < k → l[j]? = some y → Id.less x y = true
  | 0, _, j, y, _, h, _ => by omega
  | k + 1, hk, j, y, h1, h2, h3 => by
    have he : l[k]? = some l[k] := List.getElem?_eq_getElem (by omega)
    have hu : insAt x l (k + 1) = if Id.less x l[k] then insAt x l k else k + 1 := by
      show (match l[k]? with | some y => if Id.less x y then insAt x l k else k + 1 | none => k + 1) = _
      rw [he]
    rw [hu] at h1
    by_cases hl : Id.less x l[k] = true
    · rw [if_pos hl] at h1
      rcases Nat.lt_or_ge j k with hj | hj
      · exact insAt_ge x l k (by omega) j y h1 hj h3
      · obtain rfl : j = k := by omega
        rw [he] at h3
        injection h3 with h3
        rw [← h3]; exact hl
    · rw [if_neg hl] at h1
      omega
theorem insAt_lt (x : Id) (l : List Id) : ∀ k, k ≤ l.length → ∀ y, 0 < insAt x l k → l[insAt x l k - 1]? = some y → Id.less x y = false
  | 0, _, y, h, _ => by exact absurd h (Nat.lt_irrefl 0)
  | k + 1, hk, y, h1, h2 => by
    have he : l[k]? = some l[k] := List.getElem?_eq_getElem (by omega)
    have hu : insAt x l (k + 1) = if Id.less x l[k] then insAt x l k else k + 1 := by
      show (match l[k]? with | some y => if Id.less x y then insAt x l k else k + 1 | none => k + 1) = _
      rw [he]
    rw [hu] at h1 h2
    by_cases hl : Id.less x l[k] = true
    · rw [if_pos hl] at h1 h2
      exact insAt_lt x l k (by omega) y h1 h2
    · rw [if_neg hl] at h2
      rw [Nat.add_sub_cancel, he] at h2
      injection h2 with h2
      rw [← h2]
      exact Bool.not_eq_true _ ▸ hl
theorem ins_perm (l : List Id) (x : Id) : (ins l x).Perm (x :: l) := by
  unfold ins
  have h : l = l.take (insAt x l l.length) ++ l.drop (insAt x l l.length) := (List.take_append_drop _ _).symm
  generalize insAt x l l.length = k at *
  rw [List.append_assoc]
  refine List.Perm.trans List.perm_middle ?_
  conv => rhs; rw [h]
  exact List.Perm.refl _
theorem ins_row {l : List Id} (x : Id) (h : RowW l) : RowW (ins l x) := by
  have hle := insAt_le x l l.length
  have hge := insAt_ge x l l.length (Nat.le_refl _)
  have hlt := insAt_lt x l l.length (Nat.le_refl _)
  unfold ins RowW at *
  generalize insAt x l l.length = k at *
  have hh : l.Pairwise (fun a b => Id.less b a = false) := h
  rw [← List.take_append_drop k l, List.pairwise_append] at h
  obtain ⟨h1, h2, h3⟩ := h
  have hb : ∀ a ∈ l.take k, Id.less x a = false := by
    intro a ha
    obtain ⟨j, hj, hja⟩ := List.mem_iff_getElem.1 ha
    rw [List.length_take] at hj
    rw [List.getElem_take] at hja
    have hy : l[k - 1]? = some l[k - 1] := List.getElem?_eq_getElem (by omega)
    have hx := hlt _ (by omega) hy
    rcases Nat.lt_or_ge j (k - 1) with hjk | hjk
    · have hp := List.pairwise_iff_getElem.1 hh j (k - 1) (by omega) (by omega) hjk
      rw [hja] at hp
      cases hxa : Id.less x a
      · rfl
      · rcases Id.less_f hx with e | e
        · rw [e, hxa] at hp; cases hp
        · rw [Id.less_tr e hxa] at hp; cases hp
    · obtain rfl : j = k - 1 := by omega
      rw [← hja]; exact hx
  have ha : ∀ a ∈ l.drop k, Id.less x a = true := by
    intro a ha
    obtain ⟨j, hj, hja⟩ := List.mem_iff_getElem.1 ha
    rw [List.length_drop] at hj
    rw [List.getElem_drop] at hja
    exact hge (k + j) a (by omega) (by omega) (by rw [← hja]; exact List.getElem?_eq_getElem _)
  rw [List.append_assoc, List.pairwise_append]
  refine ⟨h1, ?_, ?_⟩
  · rw [List.singleton_append, List.pairwise_cons]
    exact ⟨fun a h => Id.less_as (ha a h), h2⟩
  · intro a h b hb'
    rcases List.mem_append.1 hb' with hb' | hb'
    · rw [List.mem_singleton.1 hb']; exact hb a h
    · exact h3 a h b hb'
theorem foldl_ins : ∀ (l acc : List Id), RowW acc → RowW (l.foldl ins acc) ∧ (l.foldl ins acc).Perm (acc ++ l)
  | [], acc, h => ⟨h, by rw [List.append_nil]; exact List.Perm.refl _⟩
  | x :: l, acc, h => by
    obtain ⟨h1, h2⟩ := foldl_ins l (ins acc x) (ins_row x h)
    refine ⟨h1, h2.trans ?_⟩
    exact ((ins_perm acc x).append_right l).trans List.perm_middle.symm
theorem sortIds_row (l : List Id) : RowW (sortIds l) := (foldl_ins l [] List.Pairwise.nil).1
theorem sortIds_perm (l : List Id) : (sortIds l).Perm l := (foldl_ins l [] List.Pairwise.nil).2
theorem sortIds_strict {l : List Id} (h : l.Nodup) : Row (sortIds l) := (sortIds_row l).row ((sortIds_perm l).nodup_iff.2 h)
/-- There is one row of the same names. -/
theorem RowW.unique : ∀ {l m : List Id}, RowW l → RowW m → l.Perm m → l = m
  | [], m, _, _, h => by rw [List.Perm.nil_eq h]
  | x :: l, [], _, _, h => by exact absurd h.length_eq (by simp)
  | x :: l, y :: m, h1, h2, hp => by
    have h1' := List.pairwise_cons.1 h1
    have h2' := List.pairwise_cons.1 h2
    have hxy : x = y := by
      have hx : x ∈ y :: m := hp.subset (List.mem_cons_self ..)
      have hy : y ∈ x :: l := hp.symm.subset (List.mem_cons_self ..)
      rcases List.mem_cons.1 hx with e | e
      · exact e
      · rcases List.mem_cons.1 hy with e' | e'
        · exact e'.symm
        · have a := h2'.1 x e
          have b := h1'.1 y e'
          rcases Id.less_f a with c | c
          · exact c.symm
          · rw [c] at b; cases b
    subst hxy
    rw [RowW.unique h1'.2 h2'.2 (List.perm_cons x |>.1 hp)]
theorem sortIds_unique {l m : List Id} (h : RowW l) (hp : l.Perm m) : l = sortIds m := h.unique (sortIds_row m) (hp.trans (sortIds_perm m).symm)
end Oq
end Go.Proofs.YtahcddlgghipjaaGreatDoor
