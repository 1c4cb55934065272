/-
  How an operation's form is wrong: a plain function; and that the generator's operations are right.
  Plain Lean; no program; no condition.
-/
import Derived.Test.YtahcddlgghipjaaGreatDoorOpOrd
namespace Go.Proofs.YtahcddlgghipjaaGreatDoor
namespace Oq

/-- The field's size. -/
def FP : Nat := 2305843009213693951
def inR (n lo hi : Int) : Bool := decide (lo ≤ n) && decide (n ≤ hi)
def pubOk (n : Nat) : Bool := decide (1 ≤ n) && decide (n < FP)
def fOk (n : Nat) : Bool := decide (n < FP)
def Id.named (x : Id) : Bool := inR x.b 1 12 && inR x.s 1 2147483647 && fOk x.u
def Id.zero : Id := ⟨0, 0, 0⟩
def Bx.may (x : Bx) : Bool := pubOk x.t && pubOk x.e && fOk x.y && fOk x.g
def hasOf (k : Int) : Bool := k == 7 || k == 8 || k == 12 || k == 10 || k == 11 || k == 13
/-- Is all zero that a kind has not? -/
def Op.bareB (o : Op) : Bool :=
  (o.dev == 0 || o.kind == 2 || o.kind == 3 || o.kind == 11 || o.kind == 13) && (o.old == 0 || o.kind == 13) && (o.mem == 0 || o.kind == 3 || o.kind == 5) && (o.role == 0 || o.kind == 2 || o.kind == 5) &&
  (o.path.isEmpty || commit o.kind) && (Id.eq o.epoch Id.zero || o.kind == 6) && (o.n == 0 || o.kind == 6) && (o.refs.isEmpty || o.kind == 6) && (o.body.isEmpty || o.kind == 6 || o.kind == 7) && (Id.eq o.of Id.zero || hasOf o.kind) &&
  (o.guards.isEmpty || o.kind == 9) && (o.wait == 0 || o.kind == 9) && (o.pub == 0 || o.kind == 9) && (o.need == 0 || o.kind == 9 || o.kind == 1) && (o.boxes.isEmpty || o.kind == 9 || o.kind == 10 || o.kind == 11) &&
  (o.hist.isEmpty || o.kind == 2 || o.kind == 13)
/-- Are all numbers right that are no lists'? -/
def Op.numsB (o : Op) : Bool :=
  inR o.by_ 1 12 && inR o.sq 1 2147483647 && inR o.at_ 0 2147483647 &&
  (if o.kind = 1 then inR o.need 0 20
   else if o.kind = 2 then inR o.dev 1 12 && inR o.role 1 3
   else if o.kind = 3 then (inR o.dev 1 12 && o.mem == 0) || (o.dev == 0 && inR o.mem 1 8)
   else if o.kind = 4 then true
   else if o.kind = 5 then inR o.mem 1 8 && inR o.role 1 3
   else if o.kind = 6 then o.epoch.named && inR o.n 0 2147483647
   else if o.kind = 9 then inR o.need 1 o.guards.length && inR o.wait 0 2147483647 && pubOk o.pub
   else if o.kind = 11 then o.of.named && inR o.dev 1 12
   else if o.kind = 13 then o.of.named && inR o.dev 1 12 && inR o.old 1 12
   else o.of.named)
/-- Are all numbers of lists right? -/
def Op.itemsB (o : Op) : Bool :=
  o.guards.all (fun n => inR n 1 12) && o.refs.all fOk && o.past.all Id.named && o.path.all (fun x => pubOk x.p && x.xs.all Bx.may) && o.boxes.all Bx.may && o.hist.all (fun x => x.f.named)
/-- Is a list too long, or not as long as it has to be? -/
def Op.longB (o : Op) : Bool :=
  o.path.any (fun x => decide (12 < x.xs.length)) || o.hist.any (fun x => decide (208 < x.y.length)) || decide (12 < o.past.length) || decide (5 < o.path.length) || decide (208 < o.body.length) || decide (8 < o.refs.length) || decide (20 < o.hist.length) || decide (6 < o.guards.length) ||
  (if o.kind = 7 then !(decide (1 ≤ o.body.length) && decide (o.body.length ≤ 20))
   else if o.kind = 9 then decide (o.boxes.length ≠ o.guards.length)
   else if o.kind = 10 then !(decide (1 ≤ o.boxes.length) && decide (o.boxes.length ≤ 6))
   else if o.kind = 11 then decide (o.boxes.length ≠ 1) else false)
def chain {α : Type} (r : α → α → Bool) : List α → Bool
  | [] => true
  | [_] => true
  | x :: y :: l => r x y && chain r (y :: l)
def Op.rowB (o : Op) : Bool := chain Id.less o.past && chain (fun a b => decide (a < b)) o.guards
/-- How a form is wrong; 0: it is right. -/
def Op.chk (o : Op) : Int :=
  if o.kind < 1 ∨ 13 < o.kind then 1 else if o.bareB = false then 1 else if o.numsB = false then 8 else if o.itemsB = false then 8 else if o.longB = true then 2 else if o.rowB = false then 6 else if decide (o.past = []) ≠ decide (o.kind = 1) then 10 else 0
theorem chk_ok {o : Op} : o.chk = 0 ↔ (1 ≤ o.kind ∧ o.kind ≤ 13) ∧ o.bareB = true ∧ o.numsB = true ∧ o.itemsB = true ∧ o.longB = false ∧ o.rowB = true ∧ (o.past = [] ↔ o.kind = 1) := by
  unfold Op.chk
  by_cases h1 : o.kind < 1 ∨ 13 < o.kind
  · rw [if_pos h1]; exact ⟨fun h => absurd h (by decide), fun h => absurd h.1 (by omega)⟩
  rw [if_neg h1]
  cases h2 : o.bareB
  · simp
  cases h3 : o.numsB
  · simp
  cases h4 : o.itemsB
  · simp
  cases h5 : o.longB
  · cases h6 : o.rowB
    · simp
    · by_cases h7 : o.past = [] <;> by_cases h8 : o.kind = 1 <;> simp [h7, h8] <;> omega
  · simp
theorem chain_row {l : List Id} (h : Row l) : chain Id.less l = true := by
  induction l with
  | nil => rfl
  | cons x l ih =>
    cases l with
    | nil => rfl
    | cons y l =>
      have h' := List.pairwise_cons.1 h
      show (Id.less x y && chain Id.less (y :: l)) = true
      rw [h'.1 y (List.mem_cons_self ..), ih h'.2]; rfl

/-- What the generator has before the kind's own: the rest is nothing. -/
def base (b s k a : Int) (past : List Id) (path : List Nd) : Op := { Op.zero with by_ := b, sq := s, kind := k, at_ := a, past := past, path := path }
structure Pre (b s k a : Int) (past : List Id) (path : List Nd) : Prop where
  kind : 1 ≤ k ∧ k ≤ 13
  by_ : 1 ≤ b ∧ b ≤ 12
  sq : 1 ≤ s ∧ s ≤ 2147483647
  at_ : 0 ≤ a ∧ a ≤ 2147483647
  past : past.length ≤ 12 ∧ (∀ x ∈ past, x.named = true) ∧ Row past ∧ (past = [] ↔ k = 1)
  path : path.length ≤ 5 ∧ (∀ x ∈ path, (1 ≤ x.p ∧ x.p < FP) ∧ x.xs.length ≤ 12 ∧ ∀ b ∈ x.xs, b.may = true) ∧ (path = [] ∨ commit k = true)
section
variable {b s k a : Int} {past : List Id} {path : List Nd}
theorem Pre.path_any (h : Pre b s k a past path) : path.any (fun x => decide (12 < x.xs.length)) = false := by
  rw [List.any_eq_false]
  intro x hx
  have := (h.path.2.1 x hx).2.1
  simp; omega
theorem Pre.path_all (h : Pre b s k a past path) : path.all (fun x => pubOk x.p && x.xs.all Bx.may) = true := by
  rw [List.all_eq_true]
  intro x hx
  have h1 := (h.path.2.1 x hx).1
  have h2 := (h.path.2.1 x hx).2.2
  rw [Bool.and_eq_true, List.all_eq_true]
  exact ⟨by unfold pubOk; simp; omega, h2⟩
theorem Pre.past_all (h : Pre b s k a past path) : past.all Id.named = true := List.all_eq_true.2 h.past.2.1
theorem Pre.no_path (h : Pre b s k a past path) (hk : commit k = false) : path = [] := by
  rcases h.path.2.2 with e | e
  · exact e
  · rw [hk] at e; cases e
end
theorem inR_t {n lo hi : Int} (h : lo ≤ n ∧ n ≤ hi) : inR n lo hi = true := by unfold inR; simp; exact h
theorem named_gen {x : Id} (h1 : 1 ≤ x.b ∧ x.b ≤ 12) (h2 : 1 ≤ x.s ∧ x.s ≤ 2147483647) (h3 : x.u < FP) : x.named = true := by
  unfold Id.named fOk
  rw [inR_t h1, inR_t h2]
  simp [h3]
theorem pub_t {n : Nat} (h : 1 ≤ n ∧ n < FP) : pubOk n = true := by unfold pubOk; simp; exact h

/-- The kinds' own, one behind the other. -/
theorem chk_create {b s a : Int} {past : List Id} {path : List Nd} (h : Pre b s 1 a past path) {v : Int} (hv : inR v 0 20 = true) : ({ base b s 1 a past path with need := v } : Op).chk = 0 := by
  have p1 := h.past_all; have p5 := h.past.1; have p6 := h.path.1; have b1 := inR_t h.by_; have b2 := inR_t h.sq; have b3 := inR_t h.at_; have p7 := chain_row h.past.2.2.1; have p8 := h.past.2.2.2
  have p2 := h.path_all; have p3 := h.path_any
  rw [chk_ok]
  refine ⟨h.kind, ?_, ?_, ?_, ?_, ?_, p8⟩
  · simp [Op.bareB, base, Op.zero, Id.eq, Id.zero, commit]
  · simp [Op.numsB, base, Op.zero, b1, b2, b3, hv]
  · unfold Op.itemsB; simp only [base, Op.zero]; rw [p1, p2]; simp
  · unfold Op.longB; simp only [base, Op.zero]; rw [p3]; simp; and_intros <;> first | exact decide_eq_false (by omega) | exact decide_eq_true (by omega) | omega
  · simp [Op.rowB, base, Op.zero, p7, chain]
theorem chk_add {b s a : Int} {past : List Id} {path : List Nd} (h : Pre b s 2 a past path) {d r : Int} (hd : inR d 1 12 = true) (hr : inR r 1 3 = true) : ({ base b s 2 a past path with dev := d, role := r } : Op).chk = 0 := by
  have p1 := h.past_all; have p5 := h.past.1; have p6 := h.path.1; have b1 := inR_t h.by_; have b2 := inR_t h.sq; have b3 := inR_t h.at_; have p7 := chain_row h.past.2.2.1; have p8 := h.past.2.2.2
  have p2 := h.path_all; have p3 := h.path_any
  rw [chk_ok]
  refine ⟨h.kind, ?_, ?_, ?_, ?_, ?_, p8⟩
  · simp [Op.bareB, base, Op.zero, Id.eq, Id.zero, commit]
  · simp [Op.numsB, base, Op.zero, b1, b2, b3, hd, hr]
  · unfold Op.itemsB; simp only [base, Op.zero]; rw [p1, p2]; simp
  · unfold Op.longB; simp only [base, Op.zero]; rw [p3]; simp; and_intros <;> first | exact decide_eq_false (by omega) | exact decide_eq_true (by omega) | omega
  · simp [Op.rowB, base, Op.zero, p7, chain]
theorem chk_remove1 {b s a : Int} {past : List Id} {path : List Nd} (h : Pre b s 3 a past path) {m : Int} (hm : inR m 1 8 = true) : ({ base b s 3 a past path with dev := 0, mem := m } : Op).chk = 0 := by
  have p1 := h.past_all; have p5 := h.past.1; have p6 := h.path.1; have b1 := inR_t h.by_; have b2 := inR_t h.sq; have b3 := inR_t h.at_; have p7 := chain_row h.past.2.2.1; have p8 := h.past.2.2.2
  have p2 := h.path_all; have p3 := h.path_any
  rw [chk_ok]
  refine ⟨h.kind, ?_, ?_, ?_, ?_, ?_, p8⟩
  · simp [Op.bareB, base, Op.zero, Id.eq, Id.zero, commit]
  · simp [Op.numsB, base, Op.zero, b1, b2, b3, hm]
  · unfold Op.itemsB; simp only [base, Op.zero]; rw [p1, p2]; simp
  · unfold Op.longB; simp only [base, Op.zero]; rw [p3]; simp; and_intros <;> first | exact decide_eq_false (by omega) | exact decide_eq_true (by omega) | omega
  · simp [Op.rowB, base, Op.zero, p7, chain]
theorem chk_remove2 {b s a : Int} {past : List Id} {path : List Nd} (h : Pre b s 3 a past path) {d : Int} (hd : inR d 1 12 = true) : ({ base b s 3 a past path with dev := d } : Op).chk = 0 := by
  have p1 := h.past_all; have p5 := h.past.1; have p6 := h.path.1; have b1 := inR_t h.by_; have b2 := inR_t h.sq; have b3 := inR_t h.at_; have p7 := chain_row h.past.2.2.1; have p8 := h.past.2.2.2
  have p2 := h.path_all; have p3 := h.path_any
  rw [chk_ok]
  refine ⟨h.kind, ?_, ?_, ?_, ?_, ?_, p8⟩
  · simp [Op.bareB, base, Op.zero, Id.eq, Id.zero, commit]
  · simp [Op.numsB, base, Op.zero, b1, b2, b3, hd]
  · unfold Op.itemsB; simp only [base, Op.zero]; rw [p1, p2]; simp
  · unfold Op.longB; simp only [base, Op.zero]; rw [p3]; simp; and_intros <;> first | exact decide_eq_false (by omega) | exact decide_eq_true (by omega) | omega
  · simp [Op.rowB, base, Op.zero, p7, chain]
theorem chk_update {b s a : Int} {past : List Id} {path : List Nd} (h : Pre b s 4 a past path)   : ({ base b s 4 a past path with need := 0 } : Op).chk = 0 := by
  have p1 := h.past_all; have p5 := h.past.1; have p6 := h.path.1; have b1 := inR_t h.by_; have b2 := inR_t h.sq; have b3 := inR_t h.at_; have p7 := chain_row h.past.2.2.1; have p8 := h.past.2.2.2
  have p2 := h.path_all; have p3 := h.path_any
  rw [chk_ok]
  refine ⟨h.kind, ?_, ?_, ?_, ?_, ?_, p8⟩
  · simp [Op.bareB, base, Op.zero, Id.eq, Id.zero, commit]
  · simp [Op.numsB, base, Op.zero, b1, b2, b3]
  · unfold Op.itemsB; simp only [base, Op.zero]; rw [p1, p2]; simp
  · unfold Op.longB; simp only [base, Op.zero]; rw [p3]; simp; and_intros <;> first | exact decide_eq_false (by omega) | exact decide_eq_true (by omega) | omega
  · simp [Op.rowB, base, Op.zero, p7, chain]
theorem chk_promote {b s a : Int} {past : List Id} {path : List Nd} (h : Pre b s 5 a past path) {m r : Int} (hm : inR m 1 8 = true) (hr : inR r 1 3 = true) : ({ base b s 5 a past path with mem := m, role := r } : Op).chk = 0 := by
  have p1 := h.past_all; have p5 := h.past.1; have p6 := h.path.1; have b1 := inR_t h.by_; have b2 := inR_t h.sq; have b3 := inR_t h.at_; have p7 := chain_row h.past.2.2.1; have p8 := h.past.2.2.2
  obtain rfl := h.no_path (by decide)
  rw [chk_ok]
  refine ⟨h.kind, ?_, ?_, ?_, ?_, ?_, p8⟩
  · simp [Op.bareB, base, Op.zero, Id.eq, Id.zero]
  · simp [Op.numsB, base, Op.zero, b1, b2, b3, hm, hr]
  · unfold Op.itemsB; simp only [base, Op.zero]; rw [p1]; simp
  · unfold Op.longB; simp only [base, Op.zero]; simp; and_intros <;> first | exact decide_eq_false (by omega) | exact decide_eq_true (by omega) | omega
  · simp [Op.rowB, base, Op.zero, p7, chain]
theorem chk_message {b s a : Int} {past : List Id} {path : List Nd} (h : Pre b s 6 a past path) {e : Id} {n : Int} {y : List UInt8} {rf : List Nat} (he : e.named = true) (hn : inR n 0 2147483647 = true) (hy : y.length ≤ 208) (hr : rf.length ≤ 8) (hf : ∀ x ∈ rf, fOk x = true) : ({ base b s 6 a past path with epoch := e, n := n, body := y, refs := rf } : Op).chk = 0 := by
  have p1 := h.past_all; have p5 := h.past.1; have p6 := h.path.1; have b1 := inR_t h.by_; have b2 := inR_t h.sq; have b3 := inR_t h.at_; have p7 := chain_row h.past.2.2.1; have p8 := h.past.2.2.2
  obtain rfl := h.no_path (by decide)
  rw [chk_ok]
  refine ⟨h.kind, ?_, ?_, ?_, ?_, ?_, p8⟩
  · simp [Op.bareB, base, Op.zero, Id.eq, Id.zero]
  · simp [Op.numsB, base, Op.zero, b1, b2, b3, he, hn]
  · unfold Op.itemsB; simp only [base, Op.zero]; rw [p1]; simp; exact hf
  · unfold Op.longB; simp only [base, Op.zero]; simp; and_intros <;> first | exact decide_eq_false (by omega) | exact decide_eq_true (by omega) | omega
  · simp [Op.rowB, base, Op.zero, p7, chain]
theorem chk_react {b s a : Int} {past : List Id} {path : List Nd} (h : Pre b s 7 a past path) {e : Id} {y : List UInt8} (he : e.named = true) (hy : 1 ≤ y.length ∧ y.length ≤ 20) : ({ base b s 7 a past path with of := e, body := y } : Op).chk = 0 := by
  have p1 := h.past_all; have p5 := h.past.1; have p6 := h.path.1; have b1 := inR_t h.by_; have b2 := inR_t h.sq; have b3 := inR_t h.at_; have p7 := chain_row h.past.2.2.1; have p8 := h.past.2.2.2
  obtain rfl := h.no_path (by decide)
  rw [chk_ok]
  refine ⟨h.kind, ?_, ?_, ?_, ?_, ?_, p8⟩
  · simp [Op.bareB, base, Op.zero, Id.eq, Id.zero, hasOf]
  · simp [Op.numsB, base, Op.zero, b1, b2, b3, he]
  · unfold Op.itemsB; simp only [base, Op.zero]; rw [p1]; simp
  · unfold Op.longB; simp only [base, Op.zero]; simp; and_intros <;> first | exact decide_eq_false (by omega) | exact decide_eq_true (by omega) | omega
  · simp [Op.rowB, base, Op.zero, p7, chain]
theorem chk_guard {b s a : Int} {past : List Id} {path : List Nd} (h : Pre b s 9 a past path) {gs : List Int} {n v : Int} {u : Nat} {bx : List Bx} (hg : gs.length ≤ 6 ∧ ∀ x ∈ gs, inR x 1 12 = true) (hc : chain (fun a b => decide (a < b)) gs = true) (hn : inR n 1 gs.length = true) (hv : inR v 0 2147483647 = true) (hu : pubOk u = true) (hb : bx.length = gs.length ∧ ∀ x ∈ bx, x.may = true) : ({ base b s 9 a past path with guards := gs, need := n, wait := v, pub := u, boxes := bx } : Op).chk = 0 := by
  have p1 := h.past_all; have p5 := h.past.1; have p6 := h.path.1; have b1 := inR_t h.by_; have b2 := inR_t h.sq; have b3 := inR_t h.at_; have p7 := chain_row h.past.2.2.1; have p8 := h.past.2.2.2
  obtain rfl := h.no_path (by decide)
  rw [chk_ok]
  refine ⟨h.kind, ?_, ?_, ?_, ?_, ?_, p8⟩
  · simp [Op.bareB, base, Op.zero, Id.eq, Id.zero]
  · simp [Op.numsB, base, Op.zero, b1, b2, b3, hn, hv, hu]
  · unfold Op.itemsB; simp only [base, Op.zero]; rw [p1]; simp; exact ⟨hg.2, hb.2⟩
  · unfold Op.longB; simp only [base, Op.zero]; simp; and_intros <;> first | exact decide_eq_false (by omega) | exact decide_eq_true (by omega) | omega
  · simp [Op.rowB, base, Op.zero, p7, hc]
theorem chk_refresh {b s a : Int} {past : List Id} {path : List Nd} (h : Pre b s 10 a past path) {e : Id} {bx : List Bx} (he : e.named = true) (hb : (1 ≤ bx.length ∧ bx.length ≤ 6) ∧ ∀ x ∈ bx, x.may = true) : ({ base b s 10 a past path with of := e, boxes := bx } : Op).chk = 0 := by
  have p1 := h.past_all; have p5 := h.past.1; have p6 := h.path.1; have b1 := inR_t h.by_; have b2 := inR_t h.sq; have b3 := inR_t h.at_; have p7 := chain_row h.past.2.2.1; have p8 := h.past.2.2.2
  obtain rfl := h.no_path (by decide)
  rw [chk_ok]
  refine ⟨h.kind, ?_, ?_, ?_, ?_, ?_, p8⟩
  · simp [Op.bareB, base, Op.zero, Id.eq, Id.zero, hasOf]
  · simp [Op.numsB, base, Op.zero, b1, b2, b3, he]
  · unfold Op.itemsB; simp only [base, Op.zero]; rw [p1]; simp; exact hb.2
  · unfold Op.longB; simp only [base, Op.zero]; simp; and_intros <;> first | exact decide_eq_false (by omega) | exact decide_eq_true (by omega) | omega
  · simp [Op.rowB, base, Op.zero, p7, chain]
theorem chk_vouch {b s a : Int} {past : List Id} {path : List Nd} (h : Pre b s 11 a past path) {e : Id} {d : Int} {bx : List Bx} (he : e.named = true) (hd : inR d 1 12 = true) (hb : bx.length = 1 ∧ ∀ x ∈ bx, x.may = true) : ({ base b s 11 a past path with of := e, dev := d, boxes := bx } : Op).chk = 0 := by
  have p1 := h.past_all; have p5 := h.past.1; have p6 := h.path.1; have b1 := inR_t h.by_; have b2 := inR_t h.sq; have b3 := inR_t h.at_; have p7 := chain_row h.past.2.2.1; have p8 := h.past.2.2.2
  obtain rfl := h.no_path (by decide)
  rw [chk_ok]
  refine ⟨h.kind, ?_, ?_, ?_, ?_, ?_, p8⟩
  · simp [Op.bareB, base, Op.zero, Id.eq, Id.zero, hasOf]
  · simp [Op.numsB, base, Op.zero, b1, b2, b3, he, hd]
  · unfold Op.itemsB; simp only [base, Op.zero]; rw [p1]; simp; exact hb.2
  · unfold Op.longB; simp only [base, Op.zero]; simp; and_intros <;> first | exact decide_eq_false (by omega) | exact decide_eq_true (by omega) | omega
  · simp [Op.rowB, base, Op.zero, p7, chain]
theorem chk_replace {b s a : Int} {past : List Id} {path : List Nd} (h : Pre b s 13 a past path) {e : Id} {d f : Int} (he : e.named = true) (hd : inR d 1 12 = true) (hf : inR f 1 12 = true) : ({ base b s 13 a past path with of := e, dev := d, old := f } : Op).chk = 0 := by
  have p1 := h.past_all; have p5 := h.past.1; have p6 := h.path.1; have b1 := inR_t h.by_; have b2 := inR_t h.sq; have b3 := inR_t h.at_; have p7 := chain_row h.past.2.2.1; have p8 := h.past.2.2.2
  have p2 := h.path_all; have p3 := h.path_any
  rw [chk_ok]
  refine ⟨h.kind, ?_, ?_, ?_, ?_, ?_, p8⟩
  · simp [Op.bareB, base, Op.zero, Id.eq, Id.zero, commit, hasOf]
  · simp [Op.numsB, base, Op.zero, b1, b2, b3, he, hd, hf]
  · unfold Op.itemsB; simp only [base, Op.zero]; rw [p1, p2]; simp
  · unfold Op.longB; simp only [base, Op.zero]; rw [p3]; simp; and_intros <;> first | exact decide_eq_false (by omega) | exact decide_eq_true (by omega) | omega
  · simp [Op.rowB, base, Op.zero, p7, chain]
theorem chk_erase {b s a : Int} {past : List Id} {path : List Nd} (h : Pre b s 8 a past path) {e : Id} (he : e.named = true) : ({ base b s 8 a past path with of := e } : Op).chk = 0 := by
  have p1 := h.past_all; have p5 := h.past.1; have p6 := h.path.1; have b1 := inR_t h.by_; have b2 := inR_t h.sq; have b3 := inR_t h.at_; have p7 := chain_row h.past.2.2.1; have p8 := h.past.2.2.2
  obtain rfl := h.no_path (by decide)
  rw [chk_ok]
  refine ⟨h.kind, ?_, ?_, ?_, ?_, ?_, p8⟩
  · simp [Op.bareB, base, Op.zero, Id.eq, Id.zero, hasOf]
  · simp [Op.numsB, base, Op.zero, b1, b2, b3, he]
  · unfold Op.itemsB; simp only [base, Op.zero]; rw [p1]; simp
  · unfold Op.longB; simp only [base, Op.zero]; simp; and_intros <;> first | exact decide_eq_false (by omega) | exact decide_eq_true (by omega) | omega
  · simp [Op.rowB, base, Op.zero, p7, chain]
theorem chk_object {b s a : Int} {past : List Id} {path : List Nd} (h : Pre b s 12 a past path) {e : Id} (he : e.named = true) : ({ base b s 12 a past path with of := e } : Op).chk = 0 := by
  have p1 := h.past_all; have p5 := h.past.1; have p6 := h.path.1; have b1 := inR_t h.by_; have b2 := inR_t h.sq; have b3 := inR_t h.at_; have p7 := chain_row h.past.2.2.1; have p8 := h.past.2.2.2
  obtain rfl := h.no_path (by decide)
  rw [chk_ok]
  refine ⟨h.kind, ?_, ?_, ?_, ?_, ?_, p8⟩
  · simp [Op.bareB, base, Op.zero, Id.eq, Id.zero, hasOf]
  · simp [Op.numsB, base, Op.zero, b1, b2, b3, he]
  · unfold Op.itemsB; simp only [base, Op.zero]; rw [p1]; simp
  · unfold Op.longB; simp only [base, Op.zero]; simp; and_intros <;> first | exact decide_eq_false (by omega) | exact decide_eq_true (by omega) | omega
  · simp [Op.rowB, base, Op.zero, p7, chain]
theorem chk_hist {o : Op} (h : o.chk = 0) (hk : o.kind = 2 ∨ o.kind = 13) {l : List Sl} (hl : l.length ≤ 20) (hm : ∀ x ∈ l, x.f.named = true ∧ x.y.length ≤ 208) : ({ o with hist := l } : Op).chk = 0 := by
  rw [chk_ok] at h ⊢
  obtain ⟨h1, h2, h3, h4, h5, h6, h7⟩ := h
  refine ⟨h1, ?_, h3, ?_, ?_, h6, h7⟩
  · unfold Op.bareB at h2 ⊢
    rw [Bool.and_eq_true] at h2 ⊢
    exact ⟨h2.1, by rcases hk with e | e <;> simp [e]⟩
  · unfold Op.itemsB at h4 ⊢
    rw [Bool.and_eq_true] at h4 ⊢
    exact ⟨h4.1, List.all_eq_true.2 fun x hx => (hm x hx).1⟩
  · have e1 : l.any (fun x => decide (208 < x.y.length)) = false := by
      rw [List.any_eq_false]
      intro x hx
      have := (hm x hx).2
      simp; omega
    unfold Op.longB at h5 ⊢
    simp only [Bool.or_eq_false_iff] at h5 ⊢
    exact ⟨⟨⟨⟨⟨⟨⟨⟨h5.1.1.1.1.1.1.1.1, e1⟩, h5.1.1.1.1.1.1.2⟩, h5.1.1.1.1.1.2⟩, h5.1.1.1.1.2⟩, h5.1.1.1.2⟩, by simp; omega⟩, h5.1.2⟩, h5.2⟩
end Oq
end Go.Proofs.YtahcddlgghipjaaGreatDoor
