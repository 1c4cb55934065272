/-
  Opening the arguments of a law: a slice that is read as data reads as a list of cells (Rd), an element at a time.
  Plain theorems over the form; no condition.
-/
import Derived.Test.YtahcddlgghipjaaGreatDoorLawClose
import Derived.Deep.Slices
import Derived.Deep.Fields
import Derived.Lib.SmallJoins
namespace Go.Proofs.YtahcddlgghipjaaGreatDoor
open Go.ChangeShapes Go.WideShapes Go.ChangeAt Go.RowKit Go.Deep

theorem i64_bd {n : Int} (h : (Lit.int .i64 n).wf = true) : -9223372036854775808 ≤ n ∧ n ≤ 9223372036854775807 := by
  simpa [Lit.wf, IntKind.min, IntKind.max, IntKind.signed, IntKind.bits] using h
theorem u64_bd {n : Int} (h : (Lit.int .u64 n).wf = true) : ∃ k : Nat, n = (k : Int) ∧ k < 18446744073709551616 := by
  have h' : 0 ≤ n ∧ n ≤ 18446744073709551615 := by simpa [Lit.wf, IntKind.min, IntKind.max, IntKind.signed, IntKind.bits] using h
  exact ⟨n.toNat, by omega, by omega⟩
theorem u8_bd {n : Int} (h : (Lit.int .u8 n).wf = true) : ∃ x : UInt8, n = (x.toNat : Int) := by
  have h' : 0 ≤ n ∧ n ≤ 255 := by simpa [Lit.wf, IntKind.min, IntKind.max, IntKind.signed, IntKind.bits] using h
  refine ⟨UInt8.ofNat n.toNat, ?_⟩
  rw [UInt8.toNat_ofNat']
  omega

theorem lists_of {α : Type} {f : Nat → Option α} {n : Nat} (h : ∀ i, i < n → ∃ x, f i = some x) : ∃ l : List α, l.length = n ∧ ∀ i, i < n → l[i]? = f i := by
  induction n with
  | zero => exact ⟨[], rfl, fun i hi => by omega⟩
  | succ n ih =>
    obtain ⟨l, hl, hg⟩ := ih (fun i hi => h i (by omega))
    obtain ⟨x, hx⟩ := h n (by omega)
    refine ⟨l ++ [x], by simp [hl], fun i hi => ?_⟩
    rcases Nat.lt_or_ge i n with h1 | h1
    · rw [List.getElem?_append_left (by omega)]; exact hg i h1
    · rw [show i = n by omega, List.getElem?_append_right (by omega), hl, Nat.sub_self, hx]; rfl
theorem flatten_get {size : Nat} : ∀ (l : List (List Value)) (_ : ∀ c ∈ l, c.length = size) (j : Nat) (u : Value), l.flatten[j]? = some u → ∃ c, l[j / size]? = some c ∧ c[j % size]? = some u
  | [], _, j, u, h => by simp at h
  | y :: l, hl, j, u, h => by
    have hy := hl y (by simp)
    rw [List.flatten_cons] at h
    rcases Nat.lt_or_ge j size with h1 | h1
    · rw [List.getElem?_append_left (by omega)] at h
      refine ⟨y, ?_, ?_⟩
      · rw [Nat.div_eq_of_lt h1]; rfl
      · rw [Nat.mod_eq_of_lt h1]; exact h
    · rw [List.getElem?_append_right (by omega), hy] at h
      obtain ⟨c, hc, hu⟩ := flatten_get l (fun c hc => hl c (by simp [hc])) (j - size) u h
      have hpos : 0 < size := by
        rcases Nat.eq_zero_or_pos size with h0 | h0
        · subst h0
          exfalso
          have : l.flatten = [] := by
            rw [List.flatten_eq_nil_iff]
            intro c hc
            exact List.eq_nil_of_length_eq_zero (hl c (by simp [hc]))
          rw [this] at h
          simp at h
        · exact h0
      refine ⟨c, ?_, ?_⟩
      · rw [Nat.div_eq_sub_div hpos h1]; exact hc
      · rw [Nat.mod_eq_sub_mod h1]; exact hu
theorem flatten_len {size : Nat} : ∀ (l : List (List Value)) (_ : ∀ c ∈ l, c.length = size), l.flatten.length = l.length * size
  | [], _ => by simp
  | y :: l, hl => by
    rw [List.flatten_cons, List.length_append, flatten_len l (fun c hc => hl c (by simp [hc])), hl y (by simp), List.length_cons, Nat.add_mul]
    omega

section
variable {H : Type} {enc : TypeId × Value → H} {P : Program} {w : World} {spare : Nat → Bool} {held : Bool}
/-- A slice that is read: its cells, an element at a time. -/
theorem open_rd {t e : TypeId} {size fuel : Nat} {cs : List Value} {x : DataW H × List MemPlace} (ht : P.underlying t = some (.slice e)) (hsz : P.cellsOf e = size) (hpos : 0 < size)
    (h : DataW.trod enc P w 0 spare held fuel t cs = some x) :
    ∃ (A : Option Addr) (n c : Nat) (xs : List (List Value)), cs = [.slice A n c] ∧ xs.length = n ∧ n ≤ c ∧ c ≤ 9223372036854775807 ∧ Rd w w.heap.size size A n xs.flatten ∧
      ∀ c' ∈ xs, c'.length = size ∧ ∃ m y, DataW.trod enc P w 0 spare held m e c' = some y := by
  rcases open_slice ht h with ⟨rfl, _⟩ | ⟨a, len, cap, m, n, D, Pl, rfl, _, hl, hm, hmm, _, hi⟩
  · exact ⟨none, 0, 0, [], rfl, rfl, by omega, by omega, Rd.nil _ _ _ _, fun c' hc => by cases hc⟩
  · have hlm : len ≤ m := by rw [hmm]; split <;> omega
    rw [hsz] at hi
    obtain ⟨xs, hxl, hxg⟩ := lists_of (f := fun i => w.cells? 0 (a.add (i * size)) size) (n := len) (fun i hi' => by
      obtain ⟨cs', hc, _⟩ := hi i (by omega)
      exact ⟨cs', hc⟩)
    have hall : ∀ c' ∈ xs, c'.length = size ∧ ∃ m y, DataW.trod enc P w 0 spare held m e c' = some y := by
      intro c' hc'
      obtain ⟨i, hil, rfl⟩ := List.mem_iff_getElem.1 hc'
      obtain ⟨cs', hc, htr⟩ := hi i (by omega)
      have hg := hxg i (by omega)
      rw [List.getElem?_eq_getElem hil, hc] at hg
      injection hg with hg
      rw [hg]
      exact ⟨(World.cells?_some hc).2.1, n, _, htr⟩
    refine ⟨some a, len, cap, xs, rfl, hxl, hl, hm, ⟨by rw [flatten_len xs (fun c hc => (hall c hc).1), hxl], ?_⟩, hall⟩
    rcases Nat.eq_zero_or_pos len with h0 | h0
    · exact .inl h0
    · right
      have hcell : ∀ j u, xs.flatten[j]? = some u → w.cell? (a.add j) = some u := by
        intro j u hu
        obtain ⟨c, hc, hu'⟩ := flatten_get xs (fun c hc => (hall c hc).1) j u hu
        have hlt : j / size < len := by
          have := (List.getElem?_eq_some_iff.1 hc).1
          omega
        obtain ⟨cs', hc', _⟩ := hi (j / size) (by omega)
        have hg := hxg (j / size) hlt
        rw [hc, hc'] at hg
        injection hg with hg
        subst hg
        have := (World.cells?_some hc').2.2 (j % size) (Nat.mod_lt _ hpos)
        rw [hu'] at this
        rw [← this]
        congr 1
        unfold Addr.add
        have hd := Nat.div_add_mod j size
        rw [Nat.mul_comm] at hd
        by_cases h1 : j / size * size = 0 <;> by_cases h2 : j % size = 0 <;> by_cases h3 : j = 0 <;> simp [h1, h2, h3] <;> omega
      obtain ⟨c0, hc0, _⟩ := hi 0 (by omega)
      have h00 := (World.cells?_some hc0).2.2 0 hpos
      have hc0l := (World.cells?_some hc0).2.1
      have hsome : w.cell? a = some (c0[0]'(by omega)) := by
        have : (a.add (0 * size)).add 0 = a := by simp [Addr.add]
        rw [this] at h00
        rw [h00, List.getElem?_eq_getElem]
      obtain ⟨b, off, sp⟩ := a
      have hspot : sp = none := by
        rcases sp with _ | sp
        · rfl
        · simp only [World.cell?] at hsome
          split at hsome <;> simp at hsome
      subst hspot
      refine ⟨b, off, rfl, World.block_lt_of_cell? w _ hsome, fun j u hu => ?_⟩
      have := hcell j u hu
      have hadd : (⟨b, off, none⟩ : Addr).add j = ⟨b, off + j, none⟩ := by unfold Addr.add; split <;> simp_all
      rwa [hadd] at this
theorem map_of {α : Type} {f : α → List Value} {Q : α → Prop} : ∀ (xs : List (List Value)) (_ : ∀ c ∈ xs, ∃ o, c = f o ∧ Q o), ∃ l : List α, xs = l.map f ∧ ∀ o ∈ l, Q o
  | [], _ => ⟨[], rfl, fun _ h => by cases h⟩
  | c :: xs, h => by
    obtain ⟨o, rfl, hq⟩ := h c (by simp)
    obtain ⟨l, rfl, hl⟩ := map_of xs (fun c hc => h c (by simp [hc]))
    exact ⟨o :: l, rfl, fun o' ho => by rcases List.mem_cons.1 ho with rfl | ho; exact hq; exact hl o' ho⟩
theorem flat1 {α : Type} (f : α → Value) (l : List α) : (l.map fun b => [f b]).flatten = l.map f := by
  induction l with
  | nil => rfl
  | cons b l ih => rw [List.map_cons, List.flatten_cons, ih]; rfl
theorem flatM {α : Type} (f : α → List Value) (l : List α) : (l.map f).flatten = l.flatMap f := by
  induction l with
  | nil => rfl
  | cons b l ih => rw [List.map_cons, List.flatten_cons, ih, List.flatMap_cons]
/-- A slice of bytes that is read. -/
theorem open_bytes {t e : TypeId} {v : Value} {d : DataW H} {p : List MemPlace} (ht : P.underlying t = some (.slice e)) (he : P.underlying e = some (.int .u8)) (hsz : P.cellsOf e = 1)
    {r : Reach} {b0 : Nat} (hv : Value.okWide P w r b0 t v) (h : DataW.Trod enc P w 0 spare held t v d p) :
    ∃ (A : Option Addr) (c : Nat) (bs : List UInt8), v = .slice A bs.length c ∧ bs.length ≤ c ∧ c ≤ 9223372036854775807 ∧ Rd w w.heap.size 1 A bs.length (bs.map Bv) := by
  obtain ⟨a0, l0, c0, rfl⟩ := okWide_slice ht hv
  obtain ⟨fuel, hf⟩ := h
  obtain ⟨A, n, c, xs, hcs, hl, hnc, hc, hr, hall⟩ := open_rd ht hsz (by omega) hf
  have hcs' : Value.slice a0 l0 c0 = .slice A n c := by simpa [Value.cells] using hcs
  obtain ⟨l, rfl, _⟩ := map_of (f := fun b => [Bv b]) (Q := fun _ => True) xs (fun c' hc' => by
    obtain ⟨hcl, m, y, hy⟩ := hall c' hc'
    obtain ⟨z, rfl, _, hz⟩ := DataW.trod_int he hy
    obtain ⟨b, rfl⟩ := u8_bd hz
    exact ⟨b, rfl, trivial⟩)
  have hll : l.length = n := by simpa using hl
  subst hll
  refine ⟨A, c, l, hcs', hnc, hc, ?_⟩
  rw [← flat1 Bv l]
  exact hr
end
end Go.Proofs.YtahcddlgghipjaaGreatDoor
