/-
  Operations as data, their bytes, and reading them back: plain functions on lists, and that each undoes the other.
  Plain Lean; no program; no condition.
-/
import Derived.Test.YtahcddlgghipjaaGreatDoorPackBack
namespace Go.Proofs.YtahcddlgghipjaaGreatDoor
namespace Oq
open Pk

/-- What reads: bytes, a place, what was wrong; a thing, the next place, what is wrong. -/
abbrev Rdr (α : Type) := List UInt8 → Nat → Int → α × Nat × Int

structure Good {α : Type} (f : Rdr α) (enc : α → List UInt8) (ok : α → Prop) : Prop where
  back : ∀ bs a x r, ok x → bs.drop a = enc x ++ r → f bs a 0 = (x, a + (enc x).length, 0)
  cut : ∀ bs a x j, ok x → j < (enc x).length → bs.drop a = (enc x).take j → (f bs a 0).2.2 = 9
  stay : ∀ bs a e, e ≠ 0 → (f bs a e).2.2 = e
  inv : ∀ bs a e, (f bs a e).2.2 = 0 → e = 0 ∧ ok (f bs a e).1 ∧ (f bs a e).2.1 = a + (enc (f bs a e).1).length ∧ ∃ r, bs.drop a = enc (f bs a e).1 ++ r

section
variable {α β : Type}
def seq (f : Rdr α) (g : Rdr β) : Rdr (α × β) := fun bs a e =>
  (((f bs a e).1, (g bs (f bs a e).2.1 (f bs a e).2.2).1), (g bs (f bs a e).2.1 (f bs a e).2.2).2)
theorem seq_eq {f : Rdr α} {g : Rdr β} {bs : List UInt8} {a a1 a2 : Nat} {e e1 e2 : Int} {x : α} {y : β} (h : f bs a e = (x, a1, e1)) (k : g bs a1 e1 = (y, a2, e2)) : seq f g bs a e = ((x, y), a2, e2) := by
  unfold seq; rw [h]; show ((x, (g bs a1 e1).1), (g bs a1 e1).2) = _; rw [k]
def mapR (f : Rdr α) (g : α → β) : Rdr β := fun bs a e => (g (f bs a e).1, (f bs a e).2)
theorem mapR_eq {f : Rdr α} {g : α → β} {bs : List UInt8} {a a1 : Nat} {e e1 : Int} {x : α} (h : f bs a e = (x, a1, e1)) : mapR f g bs a e = (g x, a1, e1) := by
  unfold mapR; rw [h]

theorem Good.seq {f : Rdr α} {g : Rdr β} {ef : α → List UInt8} {eg : β → List UInt8} {kf : α → Prop} {kg : β → Prop} (hf : Good f ef kf) (hg : Good g eg kg) :
    Good (seq f g) (fun p => ef p.1 ++ eg p.2) (fun p => kf p.1 ∧ kg p.2) where
  back bs a x r hx h := by
    rw [List.append_assoc] at h
    have h1 := hf.back bs a x.1 _ hx.1 h
    have h2 := hg.back bs _ x.2 r hx.2 (drop_more h)
    rw [seq_eq h1 h2, List.length_append, Nat.add_assoc]
  cut bs a x j hx hj h := by
    rw [List.length_append] at hj
    rcases Nat.lt_or_ge j (ef x.1).length with h1 | h1
    · rw [List.take_append_of_le_length (by omega)] at h
      have h9 := hf.cut bs a x.1 j hx.1 h1 h
      show (g bs _ (f bs a 0).2.2).2.2 = 9
      rw [hg.stay _ _ _ (by rw [h9]; decide), h9]
    · have hj' : j = (ef x.1).length + (j - (ef x.1).length) := by omega
      rw [hj', List.take_length_add_append] at h
      have h2 := hf.back bs a x.1 _ hx.1 h
      have h3 := hg.cut bs _ x.2 _ hx.2 (by omega) (drop_more h)
      show (g bs (f bs a 0).2.1 (f bs a 0).2.2).2.2 = 9
      rw [h2]
      exact h3
  stay bs a e he := by
    show (g bs (f bs a e).2.1 (f bs a e).2.2).2.2 = e
    rw [hg.stay _ _ _ (by rw [hf.stay _ _ _ he]; exact he), hf.stay _ _ _ he]
  inv bs a e h := by
    rcases hX : f bs a e with ⟨x, a1, e1⟩
    rcases hY : g bs a1 e1 with ⟨y, a2, e2⟩
    have hs := seq_eq hX hY
    rw [hs] at h ⊢
    have hi := hg.inv bs a1 e1
    rw [hY] at hi
    obtain ⟨h1, h2, h3, r, h4⟩ := hi h
    have ki := hf.inv bs a e
    rw [hX] at ki
    obtain ⟨k1, k2, k3, s, k4⟩ := ki h1
    have k3' : a1 = a + (ef x).length := k3
    have h3' : a2 = a1 + (eg y).length := h3
    have k4' : bs.drop a = ef x ++ s := k4
    have h5 : s = eg y ++ r := by rw [← drop_more k4', ← k3']; exact h4
    refine ⟨k1, ⟨k2, h2⟩, ?_, r, ?_⟩
    · show a2 = a + (ef x ++ eg y).length
      rw [h3', k3', List.length_append, Nat.add_assoc]
    · show bs.drop a = ef x ++ eg y ++ r
      rw [k4', h5, List.append_assoc]
theorem Good.map {f : Rdr α} {ef : α → List UInt8} {kf : α → Prop} (hf : Good f ef kf) {g : α → β} {h : β → α} {eb : β → List UInt8} {kb : β → Prop} (hg : ∀ x, h (g x) = x) (gh : ∀ y, g (h y) = y) (he : ∀ y, eb y = ef (h y)) (hk : ∀ y, kb y ↔ kf (h y)) : Good (mapR f g) eb kb where
  back bs a x r hx hd := by
    rw [he] at hd ⊢
    rw [mapR_eq (hf.back bs a (h x) r ((hk _).1 hx) hd), gh]
  cut bs a x j hx hj hd := by
    rw [he] at hd hj
    exact hf.cut bs a (h x) j ((hk _).1 hx) hj hd
  stay := hf.stay
  inv bs a e h0 := by
    obtain ⟨h1, h2, h3, r, h4⟩ := hf.inv bs a e h0
    refine ⟨h1, ?_, ?_, r, ?_⟩
    · rw [hk]; show kf (h (g _)); rw [hg]; exact h2
    · rw [he]; show (f bs a e).2.1 = a + (ef (h (g _))).length; rw [hg]; exact h3
    · rw [he]; show bs.drop a = ef (h (g _)) ++ r; rw [hg]; exact h4

def loop (f : Rdr α) : Nat → List UInt8 → Nat → Int → List α × Nat × Int
  | 0, _, a, e => ([], a, e)
  | n + 1, bs, a, e => if e = 0 then ((f bs a e).1 :: (loop f n bs (f bs a e).2.1 (f bs a e).2.2).1, (loop f n bs (f bs a e).2.1 (f bs a e).2.2).2) else ([], a, e)
def lstR (f : Rdr α) : Rdr (List α) := fun bs a e => loop f (rdMany bs a e 1000).1.toNat bs (rdMany bs a e 1000).2.1 (rdMany bs a e 1000).2.2
def lst (enc : α → List UInt8) (l : List α) : List UInt8 := Pk.int l.length ++ l.flatMap enc

theorem loop_succ (f : Rdr α) (n : Nat) (bs : List UInt8) (a : Nat) (e : Int) : loop f (n + 1) bs a e = if e = 0 then ((f bs a e).1 :: (loop f n bs (f bs a e).2.1 (f bs a e).2.2).1, (loop f n bs (f bs a e).2.1 (f bs a e).2.2).2) else ([], a, e) := rfl
theorem loop_stay (f : Rdr α) : ∀ n bs a e, e ≠ 0 → loop f n bs a e = ([], a, e)
  | 0, _, _, _, _ => rfl
  | n + 1, bs, a, e, he => by rw [loop_succ, if_neg he]
theorem loop_zero (f : Rdr α) (n : Nat) (bs : List UInt8) (a : Nat) : loop f (n + 1) bs a 0 = ((f bs a 0).1 :: (loop f n bs (f bs a 0).2.1 (f bs a 0).2.2).1, (loop f n bs (f bs a 0).2.1 (f bs a 0).2.2).2) := by rw [loop_succ, if_pos rfl]
theorem loop_back {f : Rdr α} {ef : α → List UInt8} {kf : α → Prop} (hf : Good f ef kf) (bs : List UInt8) : ∀ (l : List α) (a : Nat) (r : List UInt8), (∀ x ∈ l, kf x) → bs.drop a = l.flatMap ef ++ r → loop f l.length bs a 0 = (l, a + (l.flatMap ef).length, 0)
  | [], a, r, _, _ => rfl
  | x :: l, a, r, hk, h => by
    rw [List.flatMap_cons, List.append_assoc] at h
    have h1 := hf.back bs a x _ (hk x (by simp)) h
    have h2 := loop_back hf bs l _ r (fun y hy => hk y (by simp [hy])) (drop_more h)
    rw [List.length_cons, loop_zero, h1]
    show (x :: (loop f l.length bs (a + (ef x).length) 0).1, (loop f l.length bs (a + (ef x).length) 0).2) = _
    rw [h2, List.flatMap_cons, List.length_append, Nat.add_assoc]
theorem loop_cut {f : Rdr α} {ef : α → List UInt8} {kf : α → Prop} (hf : Good f ef kf) (bs : List UInt8) : ∀ (l : List α) (a j : Nat), (∀ x ∈ l, kf x) → j < (l.flatMap ef).length → bs.drop a = (l.flatMap ef).take j → (loop f l.length bs a 0).2.2 = 9
  | [], a, j, _, hj, _ => by simp at hj
  | x :: l, a, j, hk, hj, h => by
    rw [List.flatMap_cons] at h hj
    rw [List.length_append] at hj
    rw [List.length_cons, loop_zero]
    show (loop f l.length bs (f bs a 0).2.1 (f bs a 0).2.2).2.2 = 9
    rcases Nat.lt_or_ge j (ef x).length with h1 | h1
    · rw [List.take_append_of_le_length (by omega)] at h
      have h9 := hf.cut bs a x j (hk x (by simp)) h1 h
      rw [h9, loop_stay _ _ _ _ _ (by decide)]
    · have hj' : j = (ef x).length + (j - (ef x).length) := by omega
      rw [hj', List.take_length_add_append] at h
      rw [hf.back bs a x _ (hk x (by simp)) h]
      exact loop_cut hf bs l _ (j - (ef x).length) (fun y hy => hk y (by simp [hy])) (by omega) (drop_more h)
theorem loop_inv {f : Rdr α} {ef : α → List UInt8} {kf : α → Prop} (hf : Good f ef kf) (bs : List UInt8) : ∀ (n a : Nat) (e : Int), (loop f n bs a e).2.2 = 0 →
    e = 0 ∧ (loop f n bs a e).1.length = n ∧ (∀ x ∈ (loop f n bs a e).1, kf x) ∧ (loop f n bs a e).2.1 = a + ((loop f n bs a e).1.flatMap ef).length ∧ ∃ r, bs.drop a = (loop f n bs a e).1.flatMap ef ++ r
  | 0, a, e, h => ⟨h, rfl, fun _ hx => (by cases hx), rfl, bs.drop a, rfl⟩
  | n + 1, a, e, h => by
    by_cases he : e = 0
    · subst he
      rcases hX : f bs a 0 with ⟨x, a1, e1⟩
      rcases hY : loop f n bs a1 e1 with ⟨l, a2, e2⟩
      have hl : loop f (n + 1) bs a 0 = (x :: l, a2, e2) := by rw [loop_zero, hX]; show (x :: (loop f n bs a1 e1).1, (loop f n bs a1 e1).2) = _; rw [hY]
      rw [hl] at h ⊢
      have hi := loop_inv hf bs n a1 e1
      rw [hY] at hi
      obtain ⟨h1, h2, h3, h4, r, h5⟩ := hi h
      have ki := hf.inv bs a 0
      rw [hX] at ki
      obtain ⟨k1, k2, k3, s, k4⟩ := ki h1
      have k3' : a1 = a + (ef x).length := k3
      have h4' : a2 = a1 + (l.flatMap ef).length := h4
      have k4' : bs.drop a = ef x ++ s := k4
      have h2' : l.length = n := h2
      have h6 : s = l.flatMap ef ++ r := by rw [← drop_more k4', ← k3']; exact h5
      refine ⟨rfl, by show (x :: l).length = n + 1; simp [h2'], ?_, ?_, r, ?_⟩
      · intro y hy
        rcases List.mem_cons.1 hy with rfl | hy
        · exact k2
        · exact h3 y hy
      · show a2 = a + ((x :: l).flatMap ef).length
        rw [h4', k3', List.flatMap_cons, List.length_append, Nat.add_assoc]
      · show bs.drop a = (x :: l).flatMap ef ++ r
        rw [k4', h6, List.flatMap_cons, List.append_assoc]
    · rw [loop_stay f _ _ _ _ he] at h
      exact absurd h he

theorem rdInt_stay (bs : List UInt8) (a : Nat) (e : Int) (he : e ≠ 0) : rdInt bs a e = (0, a, e) := by unfold rdInt; rw [rd_ne he]; show (unfold 0, a, e) = _; rw [show unfold 0 = 0 by decide]
theorem rdMany_stay (bs : List UInt8) (a : Nat) (e M : Int) (hM : 0 ≤ M) (he : e ≠ 0) : rdMany bs a e M = (0, a, e) := by
  unfold rdMany; rw [rdInt_stay _ _ _ he]; rw [if_neg (by show ¬ ((0 : Int) < 0 ∨ M < 0); omega)]
theorem rdInt_inv {bs : List UInt8} {a : Nat} {e : Int} (h : (rdInt bs a e).2.2 = 0) : e = 0 ∧ (-9223372036854775808 ≤ (rdInt bs a e).1 ∧ (rdInt bs a e).1 ≤ 9223372036854775807) ∧ (rdInt bs a e).2.1 = a + (int (rdInt bs a e).1).length ∧ ∃ r, bs.drop a = int (rdInt bs a e).1 ++ r := by
  obtain ⟨h1, h2, r, h3⟩ := rd_inv (show (rd bs a e).2.2 = 0 from h)
  have hf : int (rdInt bs a e).1 = num (rd bs a e).1 := by show num (fold (unfold _)) = _; rw [fold_unfold]
  exact ⟨h1, unfold_bd (rd_lt bs a e), by rw [hf]; exact h2, r, by rw [hf]; exact h3⟩

theorem good_num : Good rd num (fun n => n < 18446744073709551616) where
  back bs a x r hx h := rd_num hx h
  cut bs a x j hx hj h := by rw [cut_rd hx hj h]
  stay bs a e he := by rw [rd_ne he]
  inv bs a e h := by
    obtain ⟨h1, h2, h3⟩ := rd_inv h
    exact ⟨h1, rd_lt bs a e, h2, h3⟩
def I64 (n : Int) : Prop := -9223372036854775808 ≤ n ∧ n ≤ 9223372036854775807
theorem good_int : Good rdInt int I64 where
  back bs a x r hx h := back_int hx.1 hx.2 h
  cut bs a x j hx hj h := by rw [cut_rdInt hx.1 hx.2 hj h]
  stay bs a e he := by rw [rdInt_stay _ _ _ he]
  inv bs a e h := rdInt_inv h

theorem Good.lst {f : Rdr α} {ef : α → List UInt8} {kf : α → Prop} (hf : Good f ef kf) : Good (lstR f) (lst ef) (fun l => l.length ≤ 1000 ∧ ∀ x ∈ l, kf x) where
  back bs a x r hx h := by
    unfold Oq.lst at h ⊢
    rw [List.append_assoc] at h
    have h1 := back_many (M := 1000) (by omega) (by omega) (by omega) h
    have h2 := loop_back hf bs x _ r hx.2 (drop_more h)
    unfold lstR
    rw [h1]
    show loop f x.length bs _ 0 = _
    rw [h2, List.length_append, Nat.add_assoc]
  cut bs a x j hx hj h := by
    unfold Oq.lst at h hj
    rw [List.length_append] at hj
    rcases Nat.lt_or_ge j (Pk.int x.length).length with h1 | h1
    · rw [List.take_append_of_le_length (by omega)] at h
      have h9 := cut_rdInt (by omega) (by omega) h1 h
      have hm : rdMany bs a 0 1000 = (0, a, 9) := by unfold rdMany; rw [h9]; rw [if_neg (by show ¬ ((0 : Int) < 0 ∨ (1000 : Int) < 0); omega)]
      unfold lstR
      rw [hm]
      rfl
    · have hj' : j = (Pk.int x.length).length + (j - (Pk.int x.length).length) := by omega
      rw [hj', List.take_length_add_append] at h
      have h2 := back_many (M := 1000) (by omega) (by omega) (by omega) h
      unfold lstR
      rw [h2]
      exact loop_cut hf bs x _ _ hx.2 (by omega) (drop_more h)
  stay bs a e he := by
    unfold lstR
    rw [rdMany_stay _ _ _ _ (by decide) he]
    rfl
  inv bs a e h := by
    obtain ⟨h1, h2, h3, h4, r, h5⟩ := loop_inv hf bs _ _ _ h
    have hc : ¬ ((rdInt bs a e).1 < 0 ∨ 1000 < (rdInt bs a e).1) := by
      intro hc
      have : rdMany bs a e 1000 = (0, a, 7) := by unfold rdMany; rw [if_pos hc]
      rw [this] at h1
      exact absurd (show (7 : Int) = 0 from h1) (by decide)
    have hm : rdMany bs a e 1000 = rdInt bs a e := by unfold rdMany; rw [if_neg hc]
    rw [hm] at h1 h2
    obtain ⟨k1, k2, k3, s, k4⟩ := rdInt_inv h1
    have hl : lstR f bs a e = loop f (rdInt bs a e).1.toNat bs (rdInt bs a e).2.1 (rdInt bs a e).2.2 := by unfold lstR; rw [hm]
    rw [hm] at h3 h4 h5
    rw [hl]
    rw [k3, drop_more k4] at h5
    have hz : ((loop f (rdInt bs a e).1.toNat bs (rdInt bs a e).2.1 (rdInt bs a e).2.2).1.length : Int) = (rdInt bs a e).1 := by rw [h2]; omega
    refine ⟨k1, ⟨by omega, h3⟩, ?_, r, ?_⟩
    · unfold Oq.lst
      rw [hz, List.length_append, h4, k3, Nat.add_assoc]
    · unfold Oq.lst
      rw [hz, List.append_assoc, k4, k3, ← h5]
end

/-- An operation's name. -/
structure Id where
  b : Int
  s : Int
  u : Nat
structure Bx where
  t : Nat
  e : Nat
  y : Nat
  g : Nat
structure Nd where
  p : Nat
  xs : List Bx
structure Sl where
  f : Id
  y : List UInt8
/-- An operation. -/
structure Op where
  by_ : Int
  sq : Int
  kind : Int
  at_ : Int
  past : List Id
  dev : Int
  old : Int
  mem : Int
  role : Int
  path : List Nd
  epoch : Id
  n : Int
  body : List UInt8
  refs : List Nat
  of : Id
  guards : List Int
  need : Int
  wait : Int
  boxes : List Bx
  pub : Nat
  hist : List Sl
  r : Nat
  s : Nat

abbrev U64 (n : Nat) : Prop := n < 18446744073709551616
def Id.bytes (i : Id) : List UInt8 := Pk.ident i.b i.s i.u
def Id.ok (i : Id) : Prop := I64 i.b ∧ I64 i.s ∧ U64 i.u
def Bx.bytes (x : Bx) : List UInt8 := num x.t ++ num x.e ++ num x.y ++ num x.g
def Bx.ok (x : Bx) : Prop := U64 x.t ∧ U64 x.e ∧ U64 x.y ∧ U64 x.g
def Nd.bytes (x : Nd) : List UInt8 := num x.p ++ lst Bx.bytes x.xs
def Nd.ok (x : Nd) : Prop := U64 x.p ∧ x.xs.length ≤ 1000 ∧ ∀ b ∈ x.xs, b.ok
def Sl.bytes (x : Sl) : List UInt8 := x.f.bytes ++ text x.y
def Sl.ok (x : Sl) : Prop := x.f.ok ∧ x.y.length ≤ 9223372036854775807

def rdId : Rdr Id := mapR rdIdent (fun p => ⟨p.1, p.2.1, p.2.2⟩)
def rdBx : Rdr Bx := mapR (seq (seq (seq rd rd) rd) rd) (fun p => ⟨p.1.1.1, p.1.1.2, p.1.2, p.2⟩)
def rdNd : Rdr Nd := mapR (seq rd (lstR rdBx)) (fun p => ⟨p.1, p.2⟩)
def rdSl : Rdr Sl := mapR (seq rdId rdText) (fun p => ⟨p.1, p.2⟩)

theorem rdIdent_stay (bs : List UInt8) (a : Nat) (e : Int) (he : e ≠ 0) : rdIdent bs a e = ((0, 0, 0), a, e) := by
  unfold rdIdent
  simp only [rdInt_stay _ _ _ he, rd_ne he, ne_eq, he, not_false_eq_true, if_true]
theorem good_ident : Good rdIdent (fun p => Pk.ident p.1 p.2.1 p.2.2) (fun p => I64 p.1 ∧ I64 p.2.1 ∧ U64 p.2.2) where
  back bs a x r hx h := back_ident hx.1.1 hx.1.2 hx.2.1.1 hx.2.1.2 hx.2.2 h
  cut bs a x j hx hj h := by
    have hg := (good_int.seq good_int).seq good_num
    have h9 := hg.cut bs a ((x.1, x.2.1), x.2.2) j ⟨⟨hx.1, hx.2.1⟩, hx.2.2⟩ hj h
    have h9' : (rd bs (rdInt bs (rdInt bs a 0).2.1 (rdInt bs a 0).2.2).2.1 (rdInt bs (rdInt bs a 0).2.1 (rdInt bs a 0).2.2).2.2).2.2 = 9 := h9
    unfold rdIdent
    rw [if_pos (by rw [h9']; decide), h9']
  stay bs a e he := by rw [rdIdent_stay _ _ _ he]
  inv bs a e h := by
    have hc : ¬ ((rd bs (rdInt bs (rdInt bs a e).2.1 (rdInt bs a e).2.2).2.1 (rdInt bs (rdInt bs a e).2.1 (rdInt bs a e).2.2).2.2).2.2 ≠ 0) := by
      intro hc
      unfold rdIdent at h
      rw [if_pos hc] at h
      exact hc h
    have hg := (good_int.seq good_int).seq good_num
    obtain ⟨h1, h2, h3, r, h4⟩ := hg.inv bs a e (Decidable.not_not.1 hc)
    unfold rdIdent
    rw [if_neg hc]
    exact ⟨h1, ⟨h2.1.1, h2.1.2, h2.2⟩, h3, r, h4⟩
theorem good_id : Good rdId Id.bytes Id.ok := good_ident.map (h := fun i => (i.b, i.s, i.u)) (fun _ => rfl) (fun _ => rfl) (fun _ => rfl) (fun _ => Iff.rfl)
theorem good_bx : Good rdBx Bx.bytes Bx.ok :=
  (((good_num.seq good_num).seq good_num).seq good_num).map (h := fun x => (((x.t, x.e), x.y), x.g)) (fun _ => rfl) (fun _ => rfl) (fun _ => rfl)
    (fun _ => ⟨fun h => ⟨⟨⟨h.1, h.2.1⟩, h.2.2.1⟩, h.2.2.2⟩, fun h => ⟨h.1.1.1, h.1.1.2, h.1.2, h.2⟩⟩)
theorem good_nd : Good rdNd Nd.bytes Nd.ok := (good_num.seq good_bx.lst).map (h := fun x => (x.p, x.xs)) (fun _ => rfl) (fun _ => rfl) (fun _ => rfl) (fun _ => Iff.rfl)
theorem good_text : Good rdText text (fun s => s.length ≤ 9223372036854775807) where
  back bs a x r hx h := back_text hx h
  cut bs a s j hx hj h := by
    have hf : fold (s.length : Int) = 2 * s.length := by unfold fold; rw [if_neg (by omega)]; omega
    have e : text s = num (2 * s.length) ++ s := by unfold text int; rw [hf]
    rw [e] at h hj
    rw [List.length_append] at hj
    rcases Nat.lt_or_ge j (num (2 * s.length)).length with h1 | h1
    · rw [List.take_append_of_le_length (by omega)] at h
      unfold rdText
      rw [cut_rd (by omega) h1 h, if_pos (show (9 : Int) ≠ 0 by decide)]
    · have hj' : j = (num (2 * s.length)).length + (j - (num (2 * s.length)).length) := by omega
      rw [hj', List.take_length_add_append] at h
      have hd := drop_lt h (num_pos _)
      rw [List.length_take] at hd
      unfold rdText
      rw [rd_num (by omega) h, if_neg (by simp), if_neg (by show ¬ (2 * s.length % 2 = 1); omega), if_pos (by show bs.length < a + (num (2 * s.length)).length + 2 * s.length / 2; omega)]
  stay bs a e he := by unfold rdText; rw [rd_ne he, if_pos he]
  inv bs a e h := by
    unfold rdText at h ⊢
    by_cases h1 : (rd bs a e).2.2 ≠ 0
    · rw [if_pos h1] at h
      exact absurd h h1
    · rw [if_neg h1] at h ⊢
      by_cases h2 : (rd bs a e).1 % 2 = 1
      · rw [if_pos h2] at h
        exact absurd (show (7 : Int) = 0 from h) (by decide)
      · rw [if_neg h2] at h ⊢
        by_cases h3 : bs.length < (rd bs a e).2.1 + (rd bs a e).1 / 2
        · rw [if_pos h3] at h
          exact absurd (show (9 : Int) = 0 from h) (by decide)
        · rw [if_neg h3]
          obtain ⟨k1, k2, r, k3⟩ := rd_inv (Decidable.not_not.1 h1)
          have hl := rd_lt bs a e
          have hm := drop_more k3
          rw [← k2] at hm
          have hlen : ((bs.drop (rd bs a e).2.1).take ((rd bs a e).1 / 2)).length = (rd bs a e).1 / 2 := by rw [List.length_take, List.length_drop]; omega
          have hf : Pk.int (((bs.drop (rd bs a e).2.1).take ((rd bs a e).1 / 2)).length : Nat) = num (rd bs a e).1 := by
            rw [hlen]
            unfold Pk.int
            congr 1
            unfold fold
            rw [if_neg (by omega)]
            omega
          have ht : text ((bs.drop (rd bs a e).2.1).take ((rd bs a e).1 / 2)) = num (rd bs a e).1 ++ (bs.drop (rd bs a e).2.1).take ((rd bs a e).1 / 2) := by unfold text; rw [hf]
          refine ⟨k1, by show List.length _ ≤ _; rw [hlen]; omega, ?_, bs.drop ((rd bs a e).2.1 + (rd bs a e).1 / 2), ?_⟩
          · show (rd bs a e).2.1 + (rd bs a e).1 / 2 = a + (text _).length
            rw [ht, List.length_append, hlen]
            omega
          · show bs.drop a = text _ ++ _
            rw [ht, List.append_assoc, ← List.drop_drop, List.take_append_drop, hm]
            exact k3
theorem good_sl : Good rdSl Sl.bytes Sl.ok := by
  have h := good_id.seq good_text
  unfold rdSl
  refine Good.map h (h := fun x => (x.f, x.y)) ?_ ?_ ?_ ?_
  · intro x; rfl
  · intro x; rfl
  · intro x; rfl
  · intro x
    exact ⟨fun h => ⟨h.1, h.2⟩, fun h => ⟨h.1, h.2⟩⟩
end Oq
end Go.Proofs.YtahcddlgghipjaaGreatDoor
