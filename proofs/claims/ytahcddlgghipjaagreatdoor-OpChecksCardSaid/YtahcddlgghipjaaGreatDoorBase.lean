/-
  Words for memory: frames (Fr), whole blocks (Blk), slices that read as lists (Rd), rows that the call owns (Own).
  Plain theorems over the model's worlds; no condition.
-/
import Derived.WalkKit
import Derived.WalkSpells
import Derived.WalkLawsBesides
import Derived.Handy
import Derived.Deep.QuietTactic
import Derived.BigQuiet
import Derived.Lib.Hide
import Derived.Deep.Draws
import Derived.Deep.AppendLies
import Derived.Maps.AppendAt
import Derived.Lib.AppendStr
namespace Go.Proofs.YtahcddlgghipjaaGreatDoor
open Go.RowKit

/-- A byte as a value. -/
def Bv (u : UInt8) : Value := .int .u8 (u.toNat : Int)

/-- Outside of S nothing that was there has turned. -/
structure Fr (S : Nat → Prop) (w w' : World) : Prop where
  os : w'.os = w.os
  tape : w'.tape = w.tape
  output : w'.output = w.output
  size : w.heap.size ≤ w'.heap.size
  block : ∀ k, k < w.heap.size → ¬ S k → w'.heap[k]? = w.heap[k]?

section
variable {S S' : Nat → Prop} {a w w' w'' : World}
theorem Fr.refl (S : Nat → Prop) (w : World) : Fr S w w := ⟨rfl, rfl, rfl, Nat.le_refl _, fun _ _ _ => rfl⟩
theorem Fr.trans (h : Fr S a w) (k : Fr S' w w') (hs : ∀ i, i < a.heap.size → S' i → S i) : Fr S a w' :=
  ⟨k.os.trans h.os, k.tape.trans h.tape, k.output.trans h.output, Nat.le_trans h.size k.size,
   fun i hi hn => (k.block i (Nat.lt_of_lt_of_le hi h.size) (fun hh => hn (hs i hi hh))).trans (h.block i hi hn)⟩
theorem Fr.mono (h : Fr S a w) (hs : ∀ i, i < a.heap.size → S i → S' i) : Fr S' a w :=
  ⟨h.os, h.tape, h.output, h.size, fun i hi hn => h.block i hi (fun hh => hn (hs i hi hh))⟩
theorem Fr.drewN (h : Fr S a w) (n : Nat) : Fr S a (w.drewN n) := ⟨h.os, h.tape, h.output, h.size, h.block⟩
theorem Fr.drew (h : Fr S a w) : Fr S a w.drew := ⟨h.os, h.tape, h.output, h.size, h.block⟩
theorem Fr.alloc (h : Fr S a w) (o : Obj) : Fr S a (w.alloc o) :=
  h.trans (S' := fun _ => False) ⟨rfl, rfl, rfl, by simp, fun k hk _ => Below.heap_alloc _ _ _ hk⟩ (fun _ _ hf => hf.elim)
theorem Fr.setCell (h : Fr S a w) {p : Addr} (hp : p.block < a.heap.size → S p.block) (u : Value) : Fr S a (w.setCell p u) :=
  h.trans (S' := fun k => k = p.block) ⟨rfl, rfl, rfl, by simp [World.setCell], fun k _ hn => Below.heap_setCell _ _ _ _ hn⟩ (fun i hi e => by subst e; exact hp hi)
theorem Fr.grown (h : Fr S a w) {row : Option Nat} (hg : w.grownBy w' row) (hr : ∀ k, row = some k → k < a.heap.size → S k) : Fr S a w' :=
  h.trans (S' := fun k => row = some k) ⟨hg.os, hg.tape, hg.output, hg.size, fun k hk hn => hg.block k hk (fun e => hn e.symm)⟩ (fun i hi e => hr i e hi)
theorem Fr.below {B : Nat} (h : Fr S w w') (hB : B ≤ w.heap.size) (hs : ∀ k, k < w.heap.size → S k → B ≤ k) : Below B w w' :=
  ⟨h.os, h.tape, h.output, h.size, fun k hk => h.block k (by omega) (fun hh => by have := hs k (by omega) hh; omega)⟩
theorem Fr.of_below {B : Nat} (h : Below B w w') (hs : ∀ k, k < w.heap.size → B ≤ k → S k) : Fr S w w' :=
  ⟨h.os, h.tape, h.output, h.size, fun k hk hn => h.block k (by rcases Nat.lt_or_ge k B with h1 | h1; exact h1; exact (hn (hs k hk h1)).elim)⟩
/-- Nothing that was there has turned. -/
def Non : Nat → Prop := fun _ => False
/-- One block may have turned. -/
def One (g : Nat) : Nat → Prop := fun k => k = g
/-- All from B on may have turned. -/
def From (B : Nat) : Nat → Prop := fun k => B ≤ k
theorem Fr.setOne {g : Nat} (h : Fr (One g) a w) (i : Nat) (u : Value) : Fr (One g) a (w.setCell ⟨g, i, none⟩ u) := h.setCell (p := ⟨g, i, none⟩) (fun _ => rfl) u
theorem Fr.setNew (h : Fr S a w) {g : Nat} (hg : a.heap.size ≤ g) (i : Nat) (u : Value) : Fr S a (w.setCell ⟨g, i, none⟩ u) := h.setCell (p := ⟨g, i, none⟩) (fun hh => absurd hh (by show ¬ g < _; omega)) u
theorem Fr.transOne {g : Nat} (h : Fr (One g) a w) (k : Fr (One g) w w') : Fr (One g) a w' := h.trans k (fun _ _ h => h)
theorem One.not {g k B : Nat} (hB : B ≤ g) (hk : k < B) : ¬ One g k := by unfold One; omega
theorem Fr.non (h : Fr Non w w') : Below w.heap.size w w' := h.below (Nat.le_refl _) (fun _ _ hh => hh.elim)
theorem Fr.of_non (h : Fr Non w w') (S : Nat → Prop) : Fr S w w' := h.mono (fun _ _ hh => hh.elim)
end

/-- Block g is these cells of element type t. -/
def Blk (w : World) (g : Nat) (t : TypeId) (cs : Array Value) : Prop := w.heap[g]? = some (.cells cs t (0, 0))

section
variable {S : Nat → Prop} {w w' : World} {g : Nat} {t : TypeId} {cs : Array Value}
theorem Blk.lt (h : Blk w g t cs) : g < w.heap.size := (Array.getElem?_eq_some_iff.1 h).1
theorem Blk.cell (h : Blk w g t cs) (i : Nat) : w.cell? ⟨g, i, none⟩ = cs[i]? := cell_of_row w g i cs t (0, 0) h
theorem Blk.frozen (h : Blk w g t cs) (i : Nat) : w.frozen? ⟨g, i, none⟩ = false := by
  unfold Blk at h
  simp [World.frozen?, h]
theorem Blk.new (w : World) (t : TypeId) (cs : Array Value) : Blk (w.alloc (.cells cs t)) w.heap.size t cs := heap_alloc_new w _
theorem Blk.drewN (h : Blk w g t cs) (n : Nat) : Blk (w.drewN n) g t cs := h
theorem Blk.drew (h : Blk w g t cs) : Blk w.drew g t cs := h
theorem Blk.alloc (h : Blk w g t cs) (o : Obj) : Blk (w.alloc o) g t cs := (Below.heap_alloc w o g h.lt).trans h
theorem Blk.set (h : Blk w g t cs) (i : Nat) (u : Value) : Blk (w.setCell ⟨g, i, none⟩ u) g t (cs.setIfInBounds i u) := by
  unfold Blk at h ⊢
  simp [World.setCell, Array.getElem?_modify, h]
theorem Blk.far (h : Blk w g t cs) {p : Addr} (hp : g ≠ p.block) (u : Value) : Blk (w.setCell p u) g t cs := (Below.heap_setCell w p u g hp).trans h
theorem Blk.fr (h : Blk w g t cs) (hf : Fr S w w') (hg : ¬ S g) : Blk w' g t cs := (hf.block g h.lt hg).trans h
theorem Blk.ne {g' : Nat} {t' : TypeId} {cs' : Array Value} (h : Blk w g t cs) (h' : Blk w g' t' cs') (hne : t ≠ t') : g ≠ g' := by
  rintro rfl
  unfold Blk at h h'
  rw [h] at h'
  injection h' with h'
  injection h' with _ ht
  exact hne ht
end

/-- A slice below block B reads as these cells. -/
def Rd (w : World) (B size : Nat) (A : Option Addr) (n : Nat) (xs : List Value) : Prop :=
  xs.length = n * size ∧ (n = 0 ∨ ∃ b off, A = some ⟨b, off, none⟩ ∧ b < B ∧ ∀ j u, xs[j]? = some u → w.cell? ⟨b, off + j, none⟩ = some u)

section
variable {S : Nat → Prop} {w w' : World} {B B' size n : Nat} {A : Option Addr} {xs : List Value}
theorem Rd.nil (w : World) (B size : Nat) (A : Option Addr) : Rd w B size A 0 [] := ⟨by simp, .inl rfl⟩
theorem Rd.mono (h : Rd w B size A n xs) (hB : B ≤ B') : Rd w B' size A n xs :=
  ⟨h.1, h.2.imp id fun ⟨b, off, e, hb, hc⟩ => ⟨b, off, e, by omega, hc⟩⟩
theorem Rd.keep (h : Rd w B size A n xs) (hk : ∀ p : Addr, p.block < B → (w.cell? p).isSome → w'.cell? p = w.cell? p) : Rd w' B size A n xs :=
  ⟨h.1, h.2.imp id fun ⟨b, off, e, hb, hc⟩ => ⟨b, off, e, hb, fun j u hu => by rw [hk ⟨b, off + j, none⟩ hb (by rw [hc j u hu]; rfl)]; exact hc j u hu⟩⟩
theorem Rd.fr (h : Rd w B size A n xs) (hf : Fr S w w') (hs : ∀ k, k < B → ¬ S k) : Rd w' B size A n xs :=
  h.keep fun p hp hc => by
    obtain ⟨v, hv⟩ := Option.isSome_iff_exists.1 hc
    exact World.cell?_of_block (hf.block p.block (World.block_lt_of_cell? w p hv) (hs _ hp))
theorem Rd.alloc (h : Rd w B size A n xs) (o : Obj) : Rd (w.alloc o) B size A n xs :=
  h.fr (S := Non) ((Fr.refl _ _).alloc o) (fun _ _ hh => hh)
theorem Rd.drewN (h : Rd w B size A n xs) (k : Nat) : Rd (w.drewN k) B size A n xs := h
theorem Rd.drew (h : Rd w B size A n xs) : Rd w.drew B size A n xs := h
theorem Rd.of_own {base : Nat} {e : TypeId} {c : Nat} (h : w.ownsRow base e size (.slice A n c) n xs) : Rd w w.heap.size size A n xs := by
  refine ⟨h.1, ?_⟩
  rcases Nat.eq_zero_or_pos n with h0 | h0
  · exact .inl h0
  · obtain ⟨g, cap, hv, _, hlt⟩ := h.form h0
    have hA : A = some ⟨g, 0, none⟩ := by injection hv
    subst hA
    refine .inr ⟨g, 0, rfl, hlt, fun j u hu => ?_⟩
    have hc := h.cells (g := g) rfl j u hu
    have hadd : (⟨g, 0, none⟩ : Addr).add j = ⟨g, 0 + j, none⟩ := by unfold Addr.add; split <;> simp_all
    rw [hadd] at hc
    exact hc
/-- Element k of a slice of one-cell elements. -/
theorem Rd.at (h : Rd w B 1 A n xs) {k : Nat} (hk : k < n) : ∃ b off u, A = some ⟨b, off, none⟩ ∧ b < B ∧ xs[k]? = some u ∧ w.cell? ⟨b, off + k, none⟩ = some u := by
  rcases h.2 with h0 | ⟨b, off, e, hb, hc⟩
  · omega
  · have hl : k < xs.length := by have := h.1; omega
    exact ⟨b, off, xs[k], e, hb, List.getElem?_eq_getElem hl, hc k _ (List.getElem?_eq_getElem hl)⟩
/-- The news of an append, out of a slice that reads. -/
theorem Rd.news {g o : Nat} (h : Rd w B size (some ⟨g, o, none⟩) n xs) : ∀ j u, xs[j]? = some u → w.cell? ((⟨g, o, none⟩ : Addr).add j) = some u := by
  intro j u hu
  rcases h.2 with h0 | ⟨b, off, e, hb, hc⟩
  · subst h0
    have hn : xs = [] := List.eq_nil_of_length_eq_zero (by simpa using h.1)
    subst hn
    simp at hu
  · injection e with e
    injection e with e1 e2
    subst e1 e2
    have hadd : (⟨g, o, none⟩ : Addr).add j = ⟨g, o + j, none⟩ := by unfold Addr.add; split <;> simp_all
    rw [hadd]
    exact hc j u hu
end

/-- Bytes as a string's value. -/
def str (bs : List UInt8) : ByteArray := ⟨bs.toArray⟩
theorem str_size (bs : List UInt8) : (str bs).size = bs.length := by simp [str, ByteArray.size]
theorem str_list (s : ByteArray) : str s.data.toList = s := rfl
theorem str_take (l : List UInt8) (m : Nat) : (str l).extract 0 m = str (l.take m) := by
  apply ByteArray.ext
  simp [str]
theorem Bv_one (bs : List UInt8) : ∀ u ∈ bs.map Bv, u.oneCell' = true := by
  intro u hu
  obtain ⟨x, _, rfl⟩ := List.mem_map.1 hu
  rfl
theorem run_str {P : Program} (src e dst : TypeId) (hs : P.underlying src = some (.slice e)) (he : P.underlying e = some (.int .u8)) (hd : P.underlying dst = some .string)
    (w : World) (B : Nat) (A : Option Addr) (n c : Nat) (bs : List UInt8) (hr : Rd w B 1 A n (bs.map Bv)) :
    (convert src dst (.slice A n c)).run P w = .ok (.string (str bs)) w := by
  have hl : bs.length = n := by have := hr.1; simpa using this
  rcases A with _ | ad
  · rcases hr.2 with h0 | ⟨b, off, e, _⟩
    · subst h0
      have hb : bs = [] := List.eq_nil_of_length_eq_zero hl
      subst hb
      exact run_convert_bytes_nil w src e hs he _ _ dst hd
    · cases e
  · rcases hr.2 with h0 | ⟨b, off, he', _, hc⟩
    · subst h0
      have hb : bs = [] := List.eq_nil_of_length_eq_zero hl
      subst hb
      rw [run_convert_bytes_string w src dst e _ 0 c hs he hd, run_bytesToString w _ 0 c [] (by simp [loadCells, loadCellsFrom])]
      rfl
    · injection he' with he'
      subst he'
      rw [run_convert_bytes_arg w src e hs he b off n c (bs.map fun x => (x.toNat : Int)) (by simpa using hl) ?_ dst hd]
      · congr 2
        simp [strOfNums, str, Function.comp_def]
      · intro i hi
        have hi' : i < bs.length := by omega
        rw [hc i (Bv bs[i]) (by simp [hi'])]
        simp [Bv, List.getD, hi']
/-- A piece of a slice of one-cell elements. -/
theorem Rd.part {w : World} {B n : Nat} {A : Option Addr} {xs : List Value} (h : Rd w B 1 A n xs) {lo hi : Nat} (h1 : lo ≤ hi) (h2 : hi ≤ n) (A' : Option Addr)
    (hA : lo < hi → A' = A.map (·.add lo)) : Rd w B 1 A' (hi - lo) ((xs.drop lo).take (hi - lo)) := by
  have hl := h.1
  refine ⟨by simp; omega, ?_⟩
  rcases Nat.lt_or_ge lo hi with hlt | hge
  · rcases h.2 with h0 | ⟨b, off, e, hb, hc⟩
    · omega
    · refine .inr ⟨b, off + lo, ?_, hb, ?_⟩
      · rw [hA hlt, e]
        simp only [Option.map_some, Addr.add]
        split
        · subst lo; rfl
        · rfl
      · intro j u hu
        rw [List.getElem?_take] at hu
        split at hu
        · rw [List.getElem?_drop] at hu
          rw [Nat.add_assoc]
          exact hc _ _ hu
        · cases hu
  · exact .inl (by omega)

/-- A result that is a struct in a block of its own. -/
theorem results_blk {P : Program} {fn : Func} {p : Tmp} {ty t : TypeId} {d : TypeDesc} {cs : Array Value} {g : Nat} {tmps : Array Value} {w : World} (h : fn.results = #[.cell p ty])
    (ha : tmps.getD p undef = .pointer (some ⟨g, 0, none⟩)) (hb : Blk w g t cs) (hd : (match d with | .struct _ | .array _ _ => true | _ => false) = true) (hu : P.underlying ty = some d)
    (hi : (P.info? ty).map (·.size) = some cs.size) : (results fn tmps).run P w = .ok (.agg cs) w := by
  have hl : (loadVar ty ⟨g, 0, none⟩).run P w = .ok (.agg cs) w := run_loadVar_row (P := P) w g t ty cs (0, 0) d hb hu (by cases d <;> first | rfl | exact hd) hi
  unfold results
  rw [h]
  have ha' : tmps[p]?.getD undef = .pointer (some ⟨g, 0, none⟩) := by simpa using ha
  simp [asAddr, ha', hl]
theorem ret_blk {P : Program} {fn : Func} {R : Ending → World → Prop} {p : Tmp} {ty t : TypeId} {d : TypeDesc} {cs : Array Value} {g : Nat} {a : Act} {w : World} (h : fn.results = #[.cell p ty])
    (ha : a.tmps.getD p undef = .pointer (some ⟨g, 0, none⟩)) (hb : Blk w g t cs) (hd : (match d with | .struct _ | .array _ _ => true | _ => false) = true) (hu : P.underlying ty = some d)
    (hi : (P.info? ty).map (·.size) = some cs.size) (hdef : a.defers = []) (hR : R (.returned (.agg cs)) w) : bodyPost P fn R .ret a w :=
  bodyPost_ret (results_blk h ha hb hd hu hi) hdef hR
theorem Rd.take {w : World} {B n m : Nat} {A : Option Addr} {xs : List Value} (h : Rd w B 1 A n xs) (hm : m ≤ n) : Rd w B 1 A m (xs.take m) := by
  have hl := h.1
  refine ⟨by simp; omega, h.2.elim (fun h0 => .inl (by omega)) (fun ⟨b, off, e, hb, hc⟩ => .inr ⟨b, off, e, hb, fun j u hu => ?_⟩)⟩
  rw [List.getElem?_take] at hu
  split at hu
  · exact hc j u hu
  · cases hu
/-- The cells of element k, of a slice of elements of several cells. -/
theorem Rd.cells {w : World} {B size n : Nat} {A : Option Addr} {xs : List Value} (h : Rd w B size A n xs) {k : Nat} (hk : k < n) : ∃ b off, A = some ⟨b, off, none⟩ ∧ b < B ∧ ∀ j, j < size → ∀ u, xs[k * size + j]? = some u → w.cell? ⟨b, off + k * size + j, none⟩ = some u := by
  rcases h.2 with h0 | ⟨b, off, e, hb, hc⟩
  · omega
  · exact ⟨b, off, e, hb, fun j _ u hu => by rw [Nat.add_assoc]; exact hc _ u hu⟩
/-- The cells of a list of things. -/
theorem flat_get {α : Type} {f : α → List Value} {size : Nat} (hf : ∀ x, (f x).length = size) : ∀ (l : List α) (k j : Nat) (x : α), l[k]? = some x → j < size → (l.flatMap f)[k * size + j]? = (f x)[j]?
  | [], k, j, x, h, _ => by cases h
  | y :: l, 0, j, x, h, hj => by
    injection h with h; subst h
    rw [List.flatMap_cons, Nat.zero_mul, Nat.zero_add, List.getElem?_append_left (by rw [hf]; exact hj)]
  | y :: l, k + 1, j, x, h, hj => by
    rw [List.flatMap_cons, List.getElem?_append_right (by rw [hf, Nat.add_mul]; omega), hf, show (k + 1) * size + j - size = k * size + j by rw [Nat.add_mul]; omega]
    exact flat_get hf l k j x h hj
theorem flat_len {α : Type} {f : α → List Value} {size : Nat} (hf : ∀ x, (f x).length = size) (l : List α) : (l.flatMap f).length = l.length * size := by
  induction l with
  | nil => simp
  | cons y l ih => rw [List.flatMap_cons, List.length_append, ih, hf, List.length_cons, Nat.add_mul]; omega
theorem Rd.takeN {w : World} {B size n m : Nat} {A : Option Addr} {xs : List Value} (h : Rd w B size A n xs) (hm : m ≤ n) : Rd w B size A m (xs.take (m * size)) := by
  have hl := h.1
  have hmn := Nat.mul_le_mul_right size hm
  refine ⟨by rw [List.length_take]; omega, h.2.elim (fun h0 => .inl (by omega)) (fun ⟨b, off, e, hb, hc⟩ => .inr ⟨b, off, e, hb, fun j u hu => ?_⟩)⟩
  rw [List.getElem?_take] at hu
  split at hu
  · exact hc j u hu
  · cases hu
theorem flat_take {α : Type} {f : α → List Value} {size : Nat} (hf : ∀ x, (f x).length = size) (l : List α) (m : Nat) : (l.flatMap f).take (m * size) = (l.take m).flatMap f := by
  induction l generalizing m with
  | nil => simp
  | cons y l ih =>
    match m with
    | 0 => simp
    | m + 1 =>
      rw [List.flatMap_cons, List.take_succ_cons, List.flatMap_cons, List.take_append, hf, List.take_of_length_le (by rw [hf, Nat.add_mul]; omega), show (m + 1) * size - size = m * size by rw [Nat.add_mul]; omega, ih]

/-- The facts of a slice type: its element's number, zero, cells, bytes. -/
def SlT (P : Program) (t e : TypeId) (z : Value) (size bytes : Nat) : Prop :=
  P.underlying t = some (.slice e) ∧ (P.info? e).map (fun i => (i.zero, i.size, i.bytes)) = some (some z, size, bytes) ∧ z.cells.size = size ∧ 0 < size

/-- The block of an address. -/
def rowOf (A : Option Addr) : Option Nat := A.map (·.block)

/-- A slice that the call itself made and owns, from block base on. -/
def Own (w : World) (base : Nat) (e : TypeId) (size : Nat) (A : Option Addr) (n c : Nat) (xs : List Value) : Prop := w.ownsRow base e size (.slice A n c) n xs

section
variable {S : Nat → Prop} {w w' : World} {base size n c : Nat} {e : TypeId} {A : Option Addr} {xs : List Value}
theorem ownBlock_rowOf (A : Option Addr) (n c : Nat) : (Value.slice A n c).ownBlock = rowOf A := by cases A <;> rfl
theorem Own.nil (w : World) (base : Nat) (e : TypeId) (size : Nat) : Own w base e size none 0 0 [] := World.ownsRow_nil w base e size
theorem Own.len (h : Own w base e size A n c xs) : xs.length = n * size := h.1
theorem Own.row (h : Own w base e size A n c xs) : ∀ k, rowOf A = some k → base ≤ k ∧ k < w.heap.size := by
  intro k hk
  exact World.ownsRow.lt h k (by rw [ownBlock_rowOf]; exact hk)
theorem Own.fr (h : Own w base e size A n c xs) (hf : Fr S w w') (hs : ∀ k, rowOf A = some k → ¬ S k) : Own w' base e size A n c xs := by
  refine ⟨h.1, ?_⟩
  rcases h.2 with hn | ⟨g, cap, cur, hv, hb, hg, rest⟩
  · exact .inl hn
  · refine .inr ⟨g, cap, cur, hv, hb, ?_, rest⟩
    injection hv with hA _ _
    subst hA
    rw [hf.block g (Array.getElem?_eq_some_iff.1 hg).1 (hs g rfl)]
    exact hg
theorem Own.ne {g : Nat} {t : TypeId} {cs : Array Value} (h : Own w base e size A n c xs) (hb : Blk w g t cs) (hne : e ≠ t) : rowOf A ≠ some g := by
  rcases h.2 with ⟨hv, _⟩ | ⟨g', cap, cur, hv, _, hg, _⟩
  · injection hv with hA; subst hA; simp [rowOf]
  · injection hv with hA; subst hA
    intro hx
    have : g' = g := by simpa [rowOf] using hx
    subst this
    exact Blk.ne (t := e) hg hb hne rfl
theorem Own.setOne {g i : Nat} {u : Value} (h : Own w base e size A n c xs) (hne : rowOf A ≠ some g) : Own (w.setCell ⟨g, i, none⟩ u) base e size A n c xs :=
  h.fr ((Fr.refl (One g) w).setOne i u) (fun k hk hg => hne (by rw [hk]; exact congrArg some hg))
theorem Own.alloc (h : Own w base e size A n c xs) (o : Obj) : Own (w.alloc o) base e size A n c xs :=
  h.fr (S := Non) ((Fr.refl _ _).alloc o) (fun _ _ hh => hh)
theorem Own.drewN (h : Own w base e size A n c xs) (k : Nat) : Own (w.drewN k) base e size A n c xs := h
theorem Own.drew (h : Own w base e size A n c xs) : Own w.drew base e size A n c xs := h
theorem Own.rd (h : Own w base e size A n c xs) : Rd w w.heap.size size A n xs := Rd.of_own h
theorem Own.cap (h : Own w base e size A n c xs) : n ≤ c ∧ c ≤ 9223372036854775807 := by
  rcases h.2 with ⟨hv, hn⟩ | ⟨g, cap, cur, hv, _, _, h1, h2, _⟩
  · injection hv with _ _ hc
    omega
  · injection hv with _ _ hc
    subst hc
    exact ⟨h1, h2⟩
theorem Own.lower (h : Own w base e size A n c xs) {base' : Nat} (hb : base' ≤ base) : Own w base' e size A n c xs := by
  refine ⟨h.1, ?_⟩
  rcases h.2 with hn | ⟨g, cap, cur, hv, hb', rest⟩
  · exact .inl hn
  · exact .inr ⟨g, cap, cur, hv, by omega, rest⟩
theorem Rd.one (w : World) (x : Value) (e : TypeId) : Rd (w.alloc (.cells #[x] e)) (w.heap.size + 1) 1 (some ⟨w.heap.size, 0, none⟩) 1 [x] := by
  refine ⟨rfl, .inr ⟨w.heap.size, 0, rfl, by omega, fun j u hu => ?_⟩⟩
  rw [(Blk.new w e #[x]).cell]
  match j, hu with
  | 0, hu => simpa using hu
theorem run_app_none {P : Program} {t ty : TypeId} {z : Value} {bytes m cx : Nat} {news : List Value} {B : Nat} (hT : SlT P t e z size bytes) (h : Own w base e size A n c xs) (hr : Rd w B size none m news) :
    m = 0 ∧ news = [] ∧ (Builtin.append_ #[t, t] ty #[.slice A n c, .slice none m cx]).run P w = .ok (.slice A n c) w := by
  obtain ⟨ht, hinfo, _⟩ := hT
  obtain ⟨i, hi, _, hsz, _⟩ := info_parts hinfo
  have hm : m = 0 := by
    rcases hr.2 with h0 | ⟨_, _, he, _⟩
    · exact h0
    · cases he
  subst hm
  refine ⟨rfl, List.eq_nil_of_length_eq_zero (by simpa using hr.1), ?_⟩
  have hnc := h.cap.1
  rcases A with _ | ad
  · rcases h.2 with ⟨hv, hn⟩ | ⟨g, cap, cur, hv, _⟩
    · injection hv with _ _ hc
      subst hc hn
      simp [Builtin.append_, run_underlying ht, sizeOf, typeInfo, hi, Builtin.lenOf, Builtin.firstCells]
    · cases hv
  · simp [Builtin.append_, run_underlying ht, sizeOf, typeInfo, hi, Builtin.lenOf, Builtin.firstCells, hnc, storeCells]
/-- append onto an own slice, from any slice that reads. -/
theorem run_app {P : Program} {t ty : TypeId} {z : Value} {bytes m cx : Nat} {Ax : Option Addr} {news : List Value} {B : Nat} (hT : SlT P t e z size bytes) (h : Own w base e size A n c xs) (hr : Rd w B size Ax m news)
    (h1 : ∀ u ∈ news, u.oneCell' = true) (hbytes : (n + m) * bytes ≤ 140737488355328) (hmax : n + m ≤ 9223372036854775807) (hbase : base ≤ w.heap.size) :
    ∃ A' c' w', (Builtin.append_ #[t, t] ty #[.slice A n c, .slice Ax m cx]).run P w = .ok (.slice A' (n + m) c') w' ∧ Own w' base e size A' (n + m) c' (xs ++ news) ∧
      Fr (fun k => rowOf A = some k) w w' ∧ (rowOf A' = rowOf A ∨ rowOf A' = some w.heap.size) := by
  rcases Ax with _ | ad
  · obtain ⟨rfl, rfl, hrun⟩ := run_app_none (ty := ty) (cx := cx) hT h hr
    exact ⟨A, c, w, hrun, by simpa using h, Fr.refl _ _, .inl rfl⟩
  · obtain ⟨ht, hinfo, hzs, hsz⟩ := hT
    obtain ⟨i, hi, hz, hsize, hby⟩ := info_parts hinfo
    have hcells : ∀ j u, news[j]? = some u → w.cell? (ad.add j) = some u := by
      rcases hr.2 with h0 | ⟨b, off, he, _, hc⟩
      · subst h0
        have hn : news = [] := List.eq_nil_of_length_eq_zero (by simpa using hr.1)
        subst hn
        simp
      · injection he with he
        subst he
        exact hr.news
    obtain ⟨v', w', hrun, hown, hg, _, hat⟩ := run_append_own_at (P := P) w base t ty e i z size bytes ht hi hz hsize hby hzs hsz _ n xs h ad m cx news hr.1 hcells h1 hmax hbytes hbase
    have hv : ∃ A' c', v' = .slice A' (n + m) c' := by
      rcases hown.2 with ⟨hv, hn⟩ | ⟨g, cap, cur, hv, _⟩
      · exact ⟨_, _, by rw [hv, hn]⟩
      · exact ⟨_, _, hv⟩
    obtain ⟨A', c', rfl⟩ := hv
    rw [ownBlock_rowOf] at hg hat
    rw [ownBlock_rowOf] at hat
    exact ⟨A', c', w', hrun, hown, ⟨hg.os, hg.tape, hg.output, hg.size, fun k hk hn => hg.block k hk (fun e => hn e.symm)⟩, hat⟩
end

/-- At the operation, for the walk. -/
theorem wpList_app {P : Program} {ops : Array Oper} {rest : List Oper} {o : Oper} {a : Act} {Q : Exit → Act → World → Prop} {w : World} (s x : Operand) (t : TypeId) (hgd : o.guard = none)
    (ho : o.op = .call { callee := .builtin .append, args := #[s, x], argTypes := #[t, t] })
    {base size n c : Nat} {e : TypeId} {A : Option Addr} {xs : List Value} {z : Value} {bytes m cx B : Nat} {Ax : Option Addr} {news : List Value}
    (hs : a.eval s = .slice A n c) (hx : a.eval x = .slice Ax m cx)
    (hT : SlT P t e z size bytes) (h : Own w base e size A n c xs) (hr : Rd w B size Ax m news)
    (h1 : ∀ u ∈ news, u.oneCell' = true) (hbytes : (n + m) * bytes ≤ 140737488355328) (hmax : n + m ≤ 9223372036854775807) (hbase : base ≤ w.heap.size)
    (hk : ∀ A' c' w', Own w' base e size A' (n + m) c' (xs ++ news) → Fr (fun k => rowOf A = some k) w w' → (rowOf A' = rowOf A ∨ rowOf A' = some w.heap.size) →
      wpList P ops Q rest (a.put o.dst (.slice A' (n + m) c')) w') : wpList P ops Q (o :: rest) a w := by
  refine wpList_plain hgd fun K hK => ?_
  obtain ⟨A', c', w', hrun, h2, h3, h4⟩ := run_app (P := P) (ty := o.type) (cx := cx) hT h hr h1 hbytes hmax hbase
  unfold Oper.wp execOp
  simp only [ho, resolve, invoke, builtin, Sem.run_bind, Sem.run_pure, Result.andThen_ok, List.map_toArray, List.map_cons, List.map_nil, hs, hx, hrun]
  exact hK _ _ (hk A' c' w' h2 h3 h4)

/-- append(b, s...) onto own bytes, s a string: where the row lies. -/
theorem app_str_row {P : Program} {t u ty e : TypeId} {w w' : World} {base n c : Nat} {A : Option Addr} {xs : List Value} {v' : Value} {i : TypeInfo} (ht : P.underlying t = some (.slice e)) (hu : P.underlying u = some .string) (hi : P.info? e = some i)
    (hz : i.zero = some (.int .u8 0)) (hsize : i.size = 1) (hby : i.bytes = 1) (h : Own w base e 1 A n c xs) (s : ByteArray) (hbytes : n + s.size ≤ 140737488355328)
    (hrun : (Builtin.append_ #[t, u] ty #[.slice A n c, .string s]).run P w = .ok v' w') (hnil : v' = .slice none 0 0 ↔ (Value.slice A n c) = .slice none 0 0 ∧ s.size = 0) :
    v'.ownBlock = rowOf A ∨ v'.ownBlock = some w.heap.size := by
  rcases h.2 with ⟨hv, hn⟩ | ⟨g, cap, cur, hv, hbg, hg, hnc, hcm, hcs, htake⟩
  · injection hv with hA _ hc
    subst hA hn hc
    by_cases hs : s.size = 0
    · rw [hnil.2 ⟨rfl, hs⟩]; exact .inl rfl
    · rw [run_append_nil_string (P := P) w t u ty e i (.int .u8 0) ht hu hi hz s (by omega) (by omega) (by rw [hby]; omega)] at hrun
      injection hrun with h1
      subst h1
      exact .inr rfl
  · injection hv with hA _ hc
    subst hA hc
    have hcs' : cur.size = c := by simpa using hcs
    have hl : xs.length = n := by simpa using h.1
    by_cases hroom : n + s.size ≤ c
    · rw [Lib.run_append_room_string (P := P) w t u ty e i ht hu hi hsize g n c cur hg s hroom (by omega)] at hrun
      injection hrun with h1
      subst h1
      exact .inl rfl
    · rw [Lib.run_append_grow_string (P := P) w t u ty e i (.int .u8 0) ht hu hi hz ⟨g, 0, none⟩ n c xs (by rw [hsize]; omega) (World.ownsRow.cells h (g := g) rfl) s (by omega) (by omega)
        (by rw [hby]; exact growslice_fits (by omega) (by omega))] at hrun
      injection hrun with h1
      subst h1
      exact .inr rfl
/-- append(b, s...) onto own bytes, s a string. -/
theorem run_app_str {P : Program} {t u ty e : TypeId} {w : World} {base n c : Nat} {A : Option Addr} {xs : List Value} (hT : SlT P t e (.int .u8 0) 1 1) (hu : P.underlying u = some .string)
    (h : Own w base e 1 A n c xs) (s : List UInt8) (hbytes : n + s.length ≤ 140737488355328) (hbase : base ≤ w.heap.size) :
    ∃ A' c' w', (Builtin.append_ #[t, u] ty #[.slice A n c, .string (str s)]).run P w = .ok (.slice A' (n + s.length) c') w' ∧ Own w' base e 1 A' (n + s.length) c' (xs ++ s.map Bv) ∧
      Fr (fun k => rowOf A = some k) w w' ∧ (rowOf A' = rowOf A ∨ rowOf A' = some w.heap.size) := by
  obtain ⟨ht, hinfo, _, _⟩ := hT
  obtain ⟨i, hi, hz, hsize, hby⟩ := info_parts hinfo
  obtain ⟨v', w', hrun, hown, hg, hnil⟩ := Lib.run_append_own_string (P := P) w base t u ty e i ht hu hi hz hsize hby _ n xs h (str s) (by rw [str_size]; unfold maxLen; omega) (by rw [str_size]; omega) hbase
  have hat := app_str_row ht hu hi hz hsize hby h (str s) (by rw [str_size]; omega) hrun hnil
  rw [str_size] at hown
  have hv : ∃ A' c', v' = .slice A' (n + s.length) c' := by
    rcases hown.2 with ⟨hv, hn⟩ | ⟨g, cap, cur, hv, _⟩
    · exact ⟨_, _, by rw [hv, hn]⟩
    · exact ⟨_, _, hv⟩
  obtain ⟨A', c', rfl⟩ := hv
  rw [ownBlock_rowOf] at hg hat
  exact ⟨A', c', w', hrun, hown, ⟨hg.os, hg.tape, hg.output, hg.size, fun k hk hn => hg.block k hk (fun e => hn e.symm)⟩, hat⟩
theorem wpList_app_str {P : Program} {ops : Array Oper} {rest : List Oper} {o : Oper} {a : Act} {Q : Exit → Act → World → Prop} {w : World} (s x : Operand) (t u : TypeId) (hgd : o.guard = none)
    (ho : o.op = .call { callee := .builtin .append, args := #[s, x], argTypes := #[t, u] })
    {base n c : Nat} {e : TypeId} {A : Option Addr} {xs : List Value} {l : List UInt8}
    (hs : a.eval s = .slice A n c) (hx : a.eval x = .string (str l))
    (hT : SlT P t e (.int .u8 0) 1 1) (hu : P.underlying u = some .string) (h : Own w base e 1 A n c xs)
    (hbytes : n + l.length ≤ 140737488355328) (hbase : base ≤ w.heap.size)
    (hk : ∀ A' c' w', Own w' base e 1 A' (n + l.length) c' (xs ++ l.map Bv) → Fr (fun k => rowOf A = some k) w w' → (rowOf A' = rowOf A ∨ rowOf A' = some w.heap.size) →
      wpList P ops Q rest (a.put o.dst (.slice A' (n + l.length) c')) w') : wpList P ops Q (o :: rest) a w := by
  refine wpList_plain hgd fun K hK => ?_
  obtain ⟨A', c', w', hrun, h2, h3, h4⟩ := run_app_str (P := P) (ty := o.type) hT hu h l hbytes hbase
  unfold Oper.wp execOp
  simp only [ho, resolve, invoke, builtin, Sem.run_bind, Sem.run_pure, Result.andThen_ok, List.map_toArray, List.map_cons, List.map_nil, hs, hx, hrun]
  exact hK _ _ (hk A' c' w' h2 h3 h4)

/-- The block g, and the row of an own slice. -/
def RS (g : Nat) (A : Option Addr) : Nat → Prop := fun k => k = g ∨ rowOf A = some k
/-- A step in which block g and the row of A may turn, and A becomes A'. -/
structure OStep (g : Nat) (w : World) (A : Option Addr) (w' : World) (A' : Option Addr) : Prop where
  fr : Fr (RS g A) w w'
  row : ∀ k, rowOf A' = some k → rowOf A = some k ∨ w.heap.size ≤ k
section
variable {g : Nat} {w w1 w2 : World} {A A1 A2 : Option Addr}
theorem OStep.refl (g : Nat) (w : World) (A : Option Addr) : OStep g w A w A := ⟨Fr.refl _ _, fun _ h => .inl h⟩
theorem OStep.trans (h : OStep g w A w1 A1) (k : OStep g w1 A1 w2 A2) : OStep g w A w2 A2 := by
  refine ⟨h.fr.trans k.fr (fun i hi hs => ?_), fun i hi => ?_⟩
  · rcases hs with e | e
    · exact .inl e
    · rcases h.row i e with e' | e'
      · exact .inr e'
      · omega
  · rcases k.row i hi with e | e
    · exact h.row i e
    · have := h.fr.size
      exact .inr (by omega)
theorem OStep.more {S : Nat → Prop} (h : OStep g w A w1 A1) (hf : Fr S w1 w2) (hs : ∀ k, k < w1.heap.size → S k → k = g ∨ w.heap.size ≤ k) : OStep g w A w2 A1 :=
  ⟨h.fr.trans hf (fun i hi e => by rcases hs i (Nat.lt_of_lt_of_le hi h.fr.size) e with e | e; exact .inl e; omega), h.row⟩
theorem OStep.alloc (h : OStep g w A w1 A1) (o : Obj) : OStep g w A (w1.alloc o) A1 := h.more (S := Non) ((Fr.refl _ _).alloc o) (fun _ _ e => e.elim)
theorem OStep.drewN (h : OStep g w A w1 A1) (n : Nat) : OStep g w A (w1.drewN n) A1 := h.more (S := Non) ((Fr.refl _ _).drewN n) (fun _ _ e => e.elim)
theorem OStep.set (h : OStep g w A w1 A1) (i : Nat) (u : Value) : OStep g w A (w1.setCell ⟨g, i, none⟩ u) A1 := h.more ((Fr.refl (One g) w1).setOne i u) (fun _ _ e => .inl e)
theorem OStep.setNew (h : OStep g w A w1 A1) {b : Nat} (hb : w.heap.size ≤ b) (i : Nat) (u : Value) : OStep g w A (w1.setCell ⟨b, i, none⟩ u) A1 :=
  h.more ((Fr.refl (One b) w1).setOne i u) (fun k _ e => .inr (by have e : k = b := e; omega))
theorem OStep.app (h : OStep g w A w1 A1) (hf : Fr (fun k => rowOf A1 = some k) w1 w2) (hat : rowOf A2 = rowOf A1 ∨ rowOf A2 = some w1.heap.size) : OStep g w A w2 A2 := by
  refine ⟨h.fr.trans hf (fun i hi e => ?_), fun i hi => ?_⟩
  · rcases h.row i e with e' | e'
    · exact .inr e'
    · omega
  · rcases hat with e | e
    · rw [e] at hi; exact h.row i hi
    · rw [e] at hi
      injection hi with hi
      have := h.fr.size
      exact .inr (by omega)
/-- What lies below the base of the row, and is not block g, is not touched. -/
theorem RS.not {B base size n c : Nat} {e : TypeId} {xs : List Value} {w : World} (h : Own w base e size A n c xs) (hB : B ≤ base) (hg : B ≤ g) : ∀ k, k < B → ¬ RS g A k := by
  rintro k hk (e | e)
  · omega
  · have := (h.row k e).1
    omega
end

/-- At a step of a region that draws its order. -/
theorem step_app {P : Program} {ops : Array Oper} {o : Oper} {a : Act} {K : Act → World → Prop} {Q : Exit → Act → World → Prop} {E : Prop} {w : World} (s x : Operand) (t : TypeId) (hgd : o.guard = none)
    (ho : o.op = .call { callee := .builtin .append, args := #[s, x], argTypes := #[t, t] })
    {base size n c : Nat} {e : TypeId} {A : Option Addr} {xs : List Value} {z : Value} {bytes m cx B : Nat} {Ax : Option Addr} {news : List Value}
    (hs : a.eval s = .slice A n c) (hx : a.eval x = .slice Ax m cx)
    (hT : SlT P t e z size bytes) (h : Own w base e size A n c xs) (hr : Rd w B size Ax m news)
    (h1 : ∀ u ∈ news, u.oneCell' = true) (hbytes : (n + m) * bytes ≤ 140737488355328) (hmax : n + m ≤ 9223372036854775807) (hbase : base ≤ w.heap.size)
    (hk : ∀ A' c' w', Own w' base e size A' (n + m) c' (xs ++ news) → Fr (fun k => rowOf A = some k) w w' → (rowOf A' = rowOf A ∨ rowOf A' = some w.heap.size) →
      K (a.put o.dst (.slice A' (n + m) c')) w') :
    if Region.wanted o (yielded ops a.tmps) = true then Oper.wp P o a w K Q else E := by
  have hw : Region.wanted o (yielded ops a.tmps) = true := by simp [Region.wanted, hgd]
  rw [if_pos hw]
  obtain ⟨A', c', w', hrun, h2, h3, h4⟩ := run_app (P := P) (ty := o.type) (cx := cx) hT h hr h1 hbytes hmax hbase
  unfold Oper.wp execOp
  simp only [ho, resolve, invoke, builtin, Sem.run_bind, Sem.run_pure, Result.andThen_ok, List.map_toArray, List.map_cons, List.map_nil, hs, hx, hrun]
  exact hk A' c' w' h2 h3 h4
end Go.Proofs.YtahcddlgghipjaaGreatDoor
