/-
  OpOrder: identities are in one strict order.
  Conditions: the package variable op.kinds as its text lays it.
-/
import Derived.Test.YthmlaigpdpdpjaaDoorOpLives
import Derived.Deep.CutBlock
import Derived.Deep.CutRange
import Derived.Deep.DeepCutAuto
namespace Go.Proofs.YthmlaigpdpdpjaaDoor
open Go.RowKit
attribute [local go_sem ↓] Go.wp_at_zero Go.wp_at_succ
namespace Oq
attribute [local go_sem] Bool.not_false Bool.not_true
attribute [local go_sem ↓] eq_ident

abbrev IdV (x : Id) : Value := .agg #[.int .i64 x.b, .int .i64 x.s, .int .u64 (x.u : Int)]
abbrev IdB (x : Id) : Array Value := #[.int .i64 x.b, .int .i64 x.s, .int .u64 (x.u : Int)]
theorem wpAnyH_only {P : Program} {Q : Exit → Act → World → Prop} {ops : Array Oper} {md : Region.Mode} {S : World → Prop} {fuel : Nat} {listed : Array Bool} {a : Act} {w : World} (i : Nat) {o : Oper} (hr : Region.ready md ops listed = [i]) (ho : ops[i]? = some o)
    (hw : Region.wanted o (yielded ops a.tmps) = true)
    (h : ∀ K' : Act → World → Prop, Shut (∀ a w, S w → (S w → wpAnyH P md ops Q S fuel (listed.setIfInBounds i true) a w) → K' a w) → Oper.wp P o a w K' Q) :
    wpAnyH P md ops Q S (fuel + 1) listed a w :=
  wpAnyH_ready hr (by simp) (AllReadyH.cons ho (fun K' hK => by rw [if_pos hw]; exact h K' hK) AllReadyH.nil)
theorem put_lit (l : List Value) (ds : List Deferred) (i : Nat) (v : Value) : (⟨l.toArray, ds⟩ : Act).put (some i) v = ⟨(l.set i v).toArray, ds⟩ := by simp [Act.put]
theorem wpAnyH_of_quiet {P : Program} {md : Region.Mode} {ops : Array Oper} {C S : World → Prop} {Q : Act → Prop} {Q' : Exit → Act → World → Prop} (hS : ∀ w, C w → S w) (hQ : ∀ a w, C w → Q a → Q' .normal a w) : ∀ (fuel : Nat) (listed : Array Bool) (a : Act) (w : World), C w →
    wpAnyQ P md ops C Q fuel listed a → wpAnyH P md ops Q' S fuel listed a w
  | 0, _, _, _, hw, h => ⟨h.1, hQ _ _ hw h.2⟩
  | fuel + 1, _, _, _, hw, h => ⟨fun h0 => hQ _ _ hw (h.1 h0), fun i hi => wpOp_of_qOp hw (fun a' w' hw' hk => ⟨hS w' hw', wpAnyH_of_quiet hS hQ fuel _ a' w' hw' hk⟩) (h.2 i hi)⟩
/-- From here on all operations are quiet: number k and up, in the order of the text. -/
theorem wpAnyH_tail {P : Program} {Q : Exit → Act → World → Prop} {S : World → Prop} {l : List Oper} {fuel : Nat} {listed : Array Bool} {a : Act} {w : World} (k : Nat) (ll : List Oper)
    (hs : Region.noSelect l.toArray = true) (hll : l.drop k = ll) (hlen : ll.length = fuel) (hB : Region.lexFrom .any l.toArray fuel k listed = true)
    (hS : ∀ n, S (w.drewN n))
    (h : wpQuiet P l.toArray (fun w' => ∃ n, w' = w.drewN n) (fun a' => ∀ w', (∃ n, w' = w.drewN n) → Q .normal a' w') ll a) :
    wpAnyH P .any l.toArray Q S fuel listed a w := by
  subst hll hlen
  refine wpAnyH_of_quiet (C := fun w' => ∃ n, w' = w.drewN n) (Q := fun a' => ∀ w', (∃ n, w' = w.drewN n) → Q .normal a' w') (fun w' h => by obtain ⟨n, rfl⟩ := h; exact hS n) (fun _ w' hw' h => h w' hw') _ _ _ _ ⟨0, rfl⟩ ?_
  exact wpAnyQ_lex hs (l.drop k) k listed a (fun j => by simp [List.getElem?_drop]) hB h
theorem Id.eq_sym (x y : Id) : Id.eq x y = Id.eq y x := by
  rw [Bool.eq_iff_iff, Id.eq_iff, Id.eq_iff]
  exact eq_comm
theorem Own.litI (w : World) (t : TypeId) {size n : Nat} (l : List Value) (hl : l.length = n * size) (hn : n ≤ 9223372036854775807) : Own (w.alloc (.cells l.toArray t)) w.heap.size t size (some ⟨w.heap.size, 0, none⟩) n n l :=
  ⟨hl, .inr ⟨w.heap.size, n, l.toArray, rfl, Nat.le_refl _, heap_alloc_new w _, Nat.le_refl _, hn, by simpa using hl, by rw [← hl]; simp⟩⟩
theorem id4 (a b c d : Id) {i : Nat} (h : i < 4) : ∃ x, [a, b, c, d][i]? = some x := ⟨_, List.getElem?_eq_getElem h⟩
theorem Id.at4 {w : World} {B k off : Nat} {l : List Id} {n : Nat} (h : Rd w B 3 (some ⟨k, off, none⟩) n (l.flatMap Id.cells)) {i : Nat} {o : Id} (hi : l[i]? = some o) :
    w.cell? ⟨k, off + i * 3, none⟩ = some (.int .i64 o.b) ∧ w.cell? ⟨k, off + i * 3 + 1, none⟩ = some (.int .i64 o.s) ∧ w.cell? ⟨k, off + i * 3 + 2, none⟩ = some (.int .u64 (o.u : Int)) := by
  obtain ⟨b, f, e, _, h0, h1, h2⟩ := Id.at h hi
  cases e
  exact ⟨h0, h1, h2⟩
theorem Id.eq_f {x y : Id} (h : Id.less x y = true) : Id.eq x y = false := by
  apply Bool.eq_false_iff.2
  intro e
  rw [(Id.eq_iff x y).1 e, Id.less_irr] at h
  cases h
theorem Id.eq_t {x y : Id} (h : Id.less x y = false) (k : Id.less y x = false) : Id.eq x y = true := by
  rcases Id.less_tot x y with e | e | e
  · rw [h] at e; cases e
  · rw [e]; exact (Id.eq_iff y y).2 rfl
  · rw [k] at e; cases e

set_option maxRecDepth 100000 in
set_option maxHeartbeats 8000000 in
theorem opOrder_law (a b c : Id) (n : Int) (w : World) (hk : KindsAt w) (n0 : -9223372036854775808 ≤ n) (n1 : n ≤ 9223372036854775807) :
    Calls Tryd.prog 5 #[IdV a, IdV b, IdV c, .int .i64 n] w (BoolPost true w) := by
  have B0 := ((((Blk.new w 28 (IdB a)).alloc (.cells (IdB b) 28))).alloc (.cells (IdB c) 28)).alloc (.cells (IdB a) 28)
  have B1 := ((Blk.new (w.alloc (.cells (IdB a) 28)) 28 (IdB b)).alloc (.cells (IdB c) 28)).alloc (.cells (IdB a) 28)
  have B2 := (Blk.new ((w.alloc (.cells (IdB a) 28)).alloc (.cells (IdB b) 28)) 28 (IdB c)).alloc (.cells (IdB a) 28)
  have B3 := Blk.new (((w.alloc (.cells (IdB a) 28)).alloc (.cells (IdB b) 28)).alloc (.cells (IdB c) 28)) 28 (IdB a)
  have F0 : Fr Non w ((((w.alloc (.cells (IdB a) 28)).alloc (.cells (IdB b) 28)).alloc (.cells (IdB c) 28)).alloc (.cells (IdB a) 28)) := ((((Fr.refl Non w).alloc _).alloc _).alloc _).alloc _
  have hg3 : w.heap.size ≤ (((w.alloc (.cells (IdB a) 28)).alloc (.cells (IdB b) 28)).alloc (.cells (IdB c) 28)).heap.size := by simp only [World.size_alloc]; omega
  simp only [World.size_alloc] at B0 B1 B2 B3 hg3
  go_enter Tryd.func5, Tryd.ntmps5
  go_wp2_with (fail)
  refine (around_any n 3 _ n0 n1 (by omega) (by omega)).mono ?_
  rintro _ _ ⟨rfl, rfl⟩
  have hm := around_bd (n := n) (m := 3) (by omega)
  generalize around n 3 = m at hm ⊢
  dsimp only
  generalize ((((w.alloc (.cells (IdB a) 28)).alloc (.cells (IdB b) 28)).alloc (.cells (IdB c) 28)).alloc (.cells (IdB a) 28)) = w1 at *
  have hgg : w.heap.size ≤ w.heap.size + 1 + 1 + 1 := by omega
  generalize hG : w.heap.size = G at *
  go_upto_block 0 with (fail)
  go_cut [] (fun wc => ∃ d : Id, Fr Non w wc ∧ Blk wc G 28 (IdB a) ∧ Blk wc (G + 1) 28 (IdB b) ∧ Blk wc (G + 1 + 1) 28 (IdB c) ∧ Blk wc (G + 1 + 1 + 1) 28 (IdB d))
  case first =>
    have b0 := B1.cell 0
    have b1 := B1.cell 1
    have b2 := B1.cell 2
    have z3 := B3.frozen
    have z0 := z3 0
    have z1 := z3 1
    have z2 := z3 2
    have y0 := B3.cell 0
    have y1 := B3.cell 1
    have y2 := B3.cell 2
    clear z3
    have hw : m = 0 ∨ m = 1 ∨ m = 2 := by omega
    have fin : Hid (∀ (i : Nat) (u : Value) (d : Id), (IdB a).setIfInBounds i u = IdB d → ∃ d : Id, Fr Non w (w1.setCell ⟨G + 1 + 1 + 1, i, none⟩ u) ∧ Blk (w1.setCell ⟨G + 1 + 1 + 1, i, none⟩ u) G 28 (IdB a) ∧ Blk (w1.setCell ⟨G + 1 + 1 + 1, i, none⟩ u) (G + 1) 28 (IdB b) ∧ Blk (w1.setCell ⟨G + 1 + 1 + 1, i, none⟩ u) (G + 1 + 1) 28 (IdB c) ∧ Blk (w1.setCell ⟨G + 1 + 1 + 1, i, none⟩ u) (G + 1 + 1 + 1) 28 (IdB d)) := fun i u d e =>
      ⟨d, F0.setNew (by omega) i u, B0.far (by show G ≠ G + 1 + 1 + 1; omega) u, B1.far (by show G + 1 ≠ G + 1 + 1 + 1; omega) u, B2.far (by show G + 1 + 1 ≠ G + 1 + 1 + 1; omega) u, e ▸ B3.set i u⟩
    clear B0 B1 B2 B3 F0 hg3 hgg hm
    rcases hw with rfl | rfl | rfl
    · go_wp2_with (fail)
      go_meet
      exact fin.out 2 _ ⟨a.b, a.s, b.u⟩ rfl
    · go_wp2_with (fail)
      go_meet
      exact fin.out 1 _ ⟨a.b, b.s, a.u⟩ rfl
    · go_wp2_with (fail)
      go_meet
      exact fin.out 0 _ ⟨b.b, a.s, a.u⟩ rfl
  case rest =>
  obtain ⟨d, F1, C0, C1, C2, C3⟩ := hcut
  clear B0 B1 B2 B3 F0 hg3 hgg hm
  generalize wc = w2 at *
  go_upto_region 8 with (fail)
  go_cut [10] (fun s wc => ∃ k off, s = .slice (some ⟨k, off, none⟩) 4 4 ∧ Fr Non w wc ∧ Rd wc wc.heap.size 3 (some ⟨k, off, none⟩) 4 ([a, b, c, d].flatMap Id.cells))
  case first =>
    have x0 := C0.cell 0
    have x1 := C0.cell 1
    have x2 := C0.cell 2
    have y0 := C1.cell 0
    have y1 := C1.cell 1
    have y2 := C1.cell 2
    have z0 := C2.cell 0
    have z1 := C2.cell 1
    have z2 := C2.cell 2
    have u0 := C3.cell 0
    have u1 := C3.cell 1
    have u2 := C3.cell 2
    go_wp2_with (fail)
    go_meet
    exact ⟨_, 0, rfl, F1.alloc _, (Own.litI w2 28 ([a, b, c, d].flatMap Id.cells) (size := 3) (n := 4) rfl (by omega)).rd⟩
  case rest =>
  obtain ⟨k, off, rfl, F2, hr⟩ := hcut
  clear C0 C1 C2 C3 F1
  generalize wc = w3 at *
  have hk3 := hk.fr F2
  go_wp2_with (fail)
  go_loopw [11] (fun v wr => ∃ i : Nat, v = .int .i64 (i : Int) ∧ i ≤ 4 ∧ Fr Non w3 wr) (fun v _ => 4 - (intOf v).toNat)
  case atStart => exact ⟨0, rfl, by omega, Fr.refl _ _⟩
  case round =>
    obtain ⟨i, rfl, hi, hf⟩ := hrel
    by_cases hlt : i < 4
    · obtain ⟨x, hx⟩ := id4 a b c d hlt
      obtain ⟨KD0, KD1, KD2⟩ := Id.at4 hr hx
      clear hx
      have ti : decide ((i : Int) < 4) = true := decide_eq_true (by omega)
      go_wp2_with (fail)
      go_loopw [12] (fun v wr => ∃ j : Nat, v = .int .i64 (j : Int) ∧ j ≤ 4 ∧ Fr Non w3 wr) (fun v _ => 4 - (intOf v).toNat)
      case atStart => exact ⟨0, rfl, by omega, hf⟩
      case round =>
        clear hf
        obtain ⟨j, rfl, hj, hf⟩ := hrel
        by_cases hltj : j < 4
        · obtain ⟨y, hy⟩ := id4 a b c d hltj
          obtain ⟨KM0, KM1, KM2⟩ := Id.at4 hr hy
          clear hy
          have tj : decide ((j : Int) < 4) = true := decide_eq_true (by omega)
          go_upto_region 15 with (fail)
          obtain ⟨D0, D1, D2⟩ : wr.drew.cell? ⟨k, off + i * 3, none⟩ = some (.int .i64 x.b) ∧ wr.drew.cell? ⟨k, off + i * 3 + 1, none⟩ = some (.int .i64 x.s) ∧ wr.drew.cell? ⟨k, off + i * 3 + 2, none⟩ = some (.int .u64 (x.u : Int)) := ⟨hf.cell KD0 (fun e => e), hf.cell KD1 (fun e => e), hf.cell KD2 (fun e => e)⟩
          obtain ⟨M0, M1, M2⟩ : wr.drew.cell? ⟨k, off + j * 3, none⟩ = some (.int .i64 y.b) ∧ wr.drew.cell? ⟨k, off + j * 3 + 1, none⟩ = some (.int .i64 y.s) ∧ wr.drew.cell? ⟨k, off + j * 3 + 2, none⟩ = some (.int .u64 (y.u : Int)) := ⟨hf.cell KM0 (fun e => e), hf.cell KM1 (fun e => e), hf.cell KM2 (fun e => e)⟩
          have e1i : (0 : Int) ≤ i := by omega
          have e2i : (i : Int) < 4 := by omega
          have e3i : (i : Int).toNat = i := by omega
          have e1j : (0 : Int) ≤ j := by omega
          have e2j : (j : Int) < 4 := by omega
          have e3j : (j : Int).toNat = j := by omega
          go_region_held3 (fun w' => w'.cell? ⟨k, off + i * 3, none⟩ = some (.int .i64 x.b) ∧ w'.cell? ⟨k, off + i * 3 + 1, none⟩ = some (.int .i64 x.s) ∧ w'.cell? ⟨k, off + i * 3 + 2, none⟩ = some (.int .u64 (x.u : Int)) ∧ w'.cell? ⟨k, off + j * 3, none⟩ = some (.int .i64 y.b) ∧ w'.cell? ⟨k, off + j * 3 + 1, none⟩ = some (.int .i64 y.s) ∧ w'.cell? ⟨k, off + j * 3 + 2, none⟩ = some (.int .u64 (y.u : Int))) ((and_intros <;> assumption)) (first
            | (go_at_call 19; (with_reducible refine (opless_any x y _).mono ?_); rintro _ u1 ⟨rfl, g1⟩; have D0 := g1.cell D0 (fun e => e); have D1 := g1.cell D1 (fun e => e); have D2 := g1.cell D2 (fun e => e); have M0 := g1.cell M0 (fun e => e); have M1 := g1.cell M1 (fun e => e); have M2 := g1.cell M2 (fun e => e)))
          have hf1 := hf.drew.trans g1 (fun _ _ e => e)
          clear hf g1 D0 D1 D2 M0 M1 M2 e1i e2i e3i e1j e2j e3j
          go_upto_region 16 with (fail)
          obtain ⟨D0, D1, D2⟩ : u1.drew.cell? ⟨k, off + i * 3, none⟩ = some (.int .i64 x.b) ∧ u1.drew.cell? ⟨k, off + i * 3 + 1, none⟩ = some (.int .i64 x.s) ∧ u1.drew.cell? ⟨k, off + i * 3 + 2, none⟩ = some (.int .u64 (x.u : Int)) := ⟨hf1.cell KD0 (fun e => e), hf1.cell KD1 (fun e => e), hf1.cell KD2 (fun e => e)⟩
          obtain ⟨M0, M1, M2⟩ : u1.drew.cell? ⟨k, off + j * 3, none⟩ = some (.int .i64 y.b) ∧ u1.drew.cell? ⟨k, off + j * 3 + 1, none⟩ = some (.int .i64 y.s) ∧ u1.drew.cell? ⟨k, off + j * 3 + 2, none⟩ = some (.int .u64 (y.u : Int)) := ⟨hf1.cell KM0 (fun e => e), hf1.cell KM1 (fun e => e), hf1.cell KM2 (fun e => e)⟩
          have e1i : (0 : Int) ≤ i := by omega
          have e2i : (i : Int) < 4 := by omega
          have e3i : (i : Int).toNat = i := by omega
          have e1j : (0 : Int) ≤ j := by omega
          have e2j : (j : Int) < 4 := by omega
          have e3j : (j : Int).toNat = j := by omega
          go_region_held3 (fun w' => w'.cell? ⟨k, off + i * 3, none⟩ = some (.int .i64 x.b) ∧ w'.cell? ⟨k, off + i * 3 + 1, none⟩ = some (.int .i64 x.s) ∧ w'.cell? ⟨k, off + i * 3 + 2, none⟩ = some (.int .u64 (x.u : Int)) ∧ w'.cell? ⟨k, off + j * 3, none⟩ = some (.int .i64 y.b) ∧ w'.cell? ⟨k, off + j * 3 + 1, none⟩ = some (.int .i64 y.s) ∧ w'.cell? ⟨k, off + j * 3 + 2, none⟩ = some (.int .u64 (y.u : Int))) ((and_intros <;> assumption)) (first
            | (go_at_call 19; (with_reducible refine (opless_any y x _).mono ?_); rintro _ u2 ⟨rfl, g2⟩; have D0 := g2.cell D0 (fun e => e); have D1 := g2.cell D1 (fun e => e); have D2 := g2.cell D2 (fun e => e); have M0 := g2.cell M0 (fun e => e); have M1 := g2.cell M1 (fun e => e); have M2 := g2.cell M2 (fun e => e)))
          have hf2 := hf1.drew.trans g2 (fun _ _ e => e)
          clear hf1 g2 D0 D1 D2 M0 M1 M2 e1i e2i e3i e1j e2j e3j
          go_upto_region 17 with (fail)
          obtain ⟨p, hp⟩ := hid_ex (Id.less x y)
          obtain ⟨q, hq⟩ := hid_ex (Id.less y x)
          obtain ⟨r, hr'⟩ := hid_ex (Id.eq x y)
          have hpq : Hid ((p = true ∧ q = false ∧ r = false) ∨ (p = false ∧ q = true ∧ r = false) ∨ (p = false ∧ q = false ∧ r = true)) := by
            show _ ∨ _
            rw [← hp.out, ← hq.out, ← hr'.out]
            rcases Bool.eq_false_or_eq_true (Id.less x y) with h1 | h1
            · exact .inl ⟨h1, Id.less_as h1, Id.eq_f h1⟩
            · rcases Bool.eq_false_or_eq_true (Id.less y x) with h2 | h2
              · exact .inr (.inl ⟨h1, h2, by rw [Id.eq_sym]; exact Id.eq_f h2⟩)
              · exact .inr (.inr ⟨h1, h2, Id.eq_t h1 h2⟩)
          rw [hp.out, hq.out]
          go_cut [97] from 45 to 125 (fun s wc => s = .bool false ∧ Fr Non w3 wc)
          case first =>
            obtain ⟨D0, D1, D2⟩ : u2.drew.cell? ⟨k, off + i * 3, none⟩ = some (.int .i64 x.b) ∧ u2.drew.cell? ⟨k, off + i * 3 + 1, none⟩ = some (.int .i64 x.s) ∧ u2.drew.cell? ⟨k, off + i * 3 + 2, none⟩ = some (.int .u64 (x.u : Int)) := ⟨hf2.cell KD0 (fun e => e), hf2.cell KD1 (fun e => e), hf2.cell KD2 (fun e => e)⟩
            obtain ⟨M0, M1, M2⟩ : u2.drew.cell? ⟨k, off + j * 3, none⟩ = some (.int .i64 y.b) ∧ u2.drew.cell? ⟨k, off + j * 3 + 1, none⟩ = some (.int .i64 y.s) ∧ u2.drew.cell? ⟨k, off + j * 3 + 2, none⟩ = some (.int .u64 (y.u : Int)) := ⟨hf2.cell KM0 (fun e => e), hf2.cell KM1 (fun e => e), hf2.cell KM2 (fun e => e)⟩
            have e1i : (0 : Int) ≤ i := by omega
            have e2i : (i : Int) < 4 := by omega
            have e3i : (i : Int).toNat = i := by omega
            have e1j : (0 : Int) ≤ j := by omega
            have e2j : (j : Int) < 4 := by omega
            have e3j : (j : Int).toNat = j := by omega
            have hm := eqGuard_ident
            rcases hpq.out with ⟨rfl, rfl, rfl⟩ | ⟨rfl, rfl, rfl⟩ | ⟨rfl, rfl, rfl⟩
            all_goals
              have hp' := hp.out
              have hr2 := hr'.out
              clear hpq hp hq hr'
              refine wp_region_held_drew (S := (fun w' => w'.cell? ⟨k, off + i * 3, none⟩ = some (.int .i64 x.b) ∧ w'.cell? ⟨k, off + i * 3 + 1, none⟩ = some (.int .i64 x.s) ∧ w'.cell? ⟨k, off + i * 3 + 2, none⟩ = some (.int .u64 (x.u : Int)) ∧ w'.cell? ⟨k, off + j * 3, none⟩ = some (.int .i64 y.b) ∧ w'.cell? ⟨k, off + j * 3 + 1, none⟩ = some (.int .i64 y.s) ∧ w'.cell? ⟨k, off + j * 3 + 2, none⟩ = some (.int .u64 (y.u : Int)))) (by kernel_rfl) (by (and_intros <;> assumption)) (fun hHeld => ?_)
              (refine wpAnyH_take (i := 0) (v := ?_) rfl (by kernel_rfl) (by kernel_rfl) (by kernel_rfl) (fun _ _ _ h => h) (Or.inl ⟨by kernel_rfl, ?_⟩) (by assumption) ?_; rotate_left; (focus (intro w hSw; (try dsimp only at hSw); go_simp; (try with_reducible rfl))))
              (try simp only [put_lit, List.set])
              (refine wpAnyH_take (i := 1) (v := ?_) rfl (by kernel_rfl) (by kernel_rfl) (by kernel_rfl) (fun _ _ _ h => h) (Or.inl ⟨by kernel_rfl, ?_⟩) (by assumption) ?_; rotate_left; (focus (intro w hSw; (try dsimp only at hSw); go_simp; (try with_reducible rfl))))
              (try simp only [put_lit, List.set])
              (refine wpAnyH_take (i := 2) (v := ?_) rfl (by kernel_rfl) (by kernel_rfl) (by kernel_rfl) (fun _ _ _ h => h) (Or.inl ⟨by kernel_rfl, ?_⟩) (by assumption) ?_; rotate_left; (focus (intro w hSw; (try dsimp only at hSw); go_simp; (try with_reducible rfl))))
              (try simp only [put_lit, List.set])
              (refine wpAnyH_take (i := 3) (v := ?_) rfl (by kernel_rfl) (by kernel_rfl) (by kernel_rfl) (fun _ _ _ h => h) (Or.inl ⟨by kernel_rfl, ?_⟩) (by assumption) ?_; rotate_left; (focus (intro w hSw; (try dsimp only at hSw); go_simp; (try with_reducible rfl))))
              (try simp only [put_lit, List.set])
              (refine wpAnyH_take (i := 4) (v := ?_) rfl (by kernel_rfl) (by kernel_rfl) (by kernel_rfl) (fun _ _ _ h => h) (Or.inl ⟨by kernel_rfl, ?_⟩) (by assumption) ?_; rotate_left; (focus (intro w hSw; (try dsimp only at hSw); go_simp; (try with_reducible rfl))))
              (try simp only [put_lit, List.set])
              (refine wpAnyH_take (i := 5) (v := ?_) rfl (by kernel_rfl) (by kernel_rfl) (by kernel_rfl) (fun _ _ _ h => h) (Or.inl ⟨by kernel_rfl, ?_⟩) (by assumption) ?_; rotate_left; (focus (intro w hSw; (try dsimp only at hSw); go_simp; (try with_reducible rfl))))
              (try simp only [put_lit, List.set])
              (refine wpAnyH_take (i := 6) (v := ?_) rfl (by kernel_rfl) (by kernel_rfl) (by kernel_rfl) (fun _ _ _ h => h) (Or.inl ⟨by kernel_rfl, ?_⟩) (by assumption) ?_; rotate_left; (focus (intro w hSw; (try dsimp only at hSw); go_simp; (try with_reducible rfl))))
              (try simp only [put_lit, List.set])
              (refine wpAnyH_take (i := 7) (v := ?_) rfl (by kernel_rfl) (by kernel_rfl) (by kernel_rfl) (fun _ _ _ h => h) (Or.inl ⟨by kernel_rfl, ?_⟩) (by assumption) ?_; rotate_left; (focus (intro w hSw; (try dsimp only at hSw); go_simp; (try with_reducible rfl))))
              (try simp only [put_lit, List.set])
              (refine wpAnyH_take (i := 8) (v := ?_) rfl (by kernel_rfl) (by kernel_rfl) (by kernel_rfl) (fun _ _ _ h => h) (Or.inl ⟨by kernel_rfl, ?_⟩) (by assumption) ?_; rotate_left; (focus (intro w hSw; (try dsimp only at hSw); go_simp; (try with_reducible rfl))))
              (try simp only [put_lit, List.set])
              refine wpAnyH_only 9 (by kernel_rfl) rfl (by kernel_rfl) (fun K hK => ?_)
              go_simp
              go_wp2_with (go_at_call 20; (with_reducible refine (less11_any x y _).mono ?_); rintro _ u3 ⟨rfl, g3⟩; (try rw [hp']); have D0 := g3.cell D0 (fun e => e); have D1 := g3.cell D1 (fun e => e); have D2 := g3.cell D2 (fun e => e); have M0 := g3.cell M0 (fun e => e); have M1 := g3.cell M1 (fun e => e); have M2 := g3.cell M2 (fun e => e))
              refine hK.out _ _ (by (and_intros <;> assumption)) (fun hHeld => ?_)
              clear hK K
              (try simp only [put_lit, List.set])
              refine wpAnyH_tail 10 _ (by kernel_rfl) (by rfl) (by rfl) (by kernel_rfl) (fun _ => hHeld) ?_
              go_simp
              repeat (go_big_quiet_step ((fail)))
              refine wpQuiet_nil ?_
              (first | (intro _ hw'; obtain ⟨nq, hw''⟩ := hw'; subst hw'') | intro nq)
              have hf3 := hf2.drew.trans g3 (fun _ _ e => e)
              go_wp2_with (fail)
              go_meet
              exact ⟨rfl, hf3.drewN _⟩
          case rest =>
            obtain ⟨rfl, hf3⟩ := hcut
            clear hf2 hpq hq hr'
            generalize wc = u4 at *
            go_wp2_with (fail)
            go_loopw [15] (fun v wr => ∃ h : Nat, v = .int .i64 (h : Int) ∧ h ≤ 4 ∧ Fr Non w3 wr) (fun v _ => 4 - (intOf v).toNat)
            case atStart => exact ⟨0, rfl, by omega, hf3⟩
            case round =>
              clear hf3
              obtain ⟨h, rfl, hh, hf⟩ := hrel
              by_cases hlth : h < 4
              · obtain ⟨z, hz⟩ := id4 a b c d hlth
                obtain ⟨KN0, KN1, KN2⟩ := Id.at4 hr hz
                clear hz
                have th : decide ((h : Int) < 4) = true := decide_eq_true (by omega)
                go_upto_region 22 with (fail)
                go_cut [125] from 102 to 125 (fun s wc => s = .bool false ∧ Fr Non w3 wc)
                case first =>
                  obtain ⟨D0, D1, D2⟩ : wr.drew.cell? ⟨k, off + i * 3, none⟩ = some (.int .i64 x.b) ∧ wr.drew.cell? ⟨k, off + i * 3 + 1, none⟩ = some (.int .i64 x.s) ∧ wr.drew.cell? ⟨k, off + i * 3 + 2, none⟩ = some (.int .u64 (x.u : Int)) := ⟨hf.cell KD0 (fun e => e), hf.cell KD1 (fun e => e), hf.cell KD2 (fun e => e)⟩
                  obtain ⟨M0, M1, M2⟩ : wr.drew.cell? ⟨k, off + j * 3, none⟩ = some (.int .i64 y.b) ∧ wr.drew.cell? ⟨k, off + j * 3 + 1, none⟩ = some (.int .i64 y.s) ∧ wr.drew.cell? ⟨k, off + j * 3 + 2, none⟩ = some (.int .u64 (y.u : Int)) := ⟨hf.cell KM0 (fun e => e), hf.cell KM1 (fun e => e), hf.cell KM2 (fun e => e)⟩
                  obtain ⟨N0, N1, N2⟩ : wr.drew.cell? ⟨k, off + h * 3, none⟩ = some (.int .i64 z.b) ∧ wr.drew.cell? ⟨k, off + h * 3 + 1, none⟩ = some (.int .i64 z.s) ∧ wr.drew.cell? ⟨k, off + h * 3 + 2, none⟩ = some (.int .u64 (z.u : Int)) := ⟨hf.cell KN0 (fun e => e), hf.cell KN1 (fun e => e), hf.cell KN2 (fun e => e)⟩
                  have e1i : (0 : Int) ≤ i := by omega
                  have e2i : (i : Int) < 4 := by omega
                  have e3i : (i : Int).toNat = i := by omega
                  have e1j : (0 : Int) ≤ j := by omega
                  have e2j : (j : Int) < 4 := by omega
                  have e3j : (j : Int).toNat = j := by omega
                  have e1h : (0 : Int) ≤ h := by omega
                  have e2h : (h : Int) < 4 := by omega
                  have e3h : (h : Int).toNat = h := by omega
                  cases p
                  · clear hp
                    refine wp_region_held_drew (S := (fun w' => w'.cell? ⟨k, off + i * 3, none⟩ = some (.int .i64 x.b) ∧ w'.cell? ⟨k, off + i * 3 + 1, none⟩ = some (.int .i64 x.s) ∧ w'.cell? ⟨k, off + i * 3 + 2, none⟩ = some (.int .u64 (x.u : Int)) ∧ w'.cell? ⟨k, off + j * 3, none⟩ = some (.int .i64 y.b) ∧ w'.cell? ⟨k, off + j * 3 + 1, none⟩ = some (.int .i64 y.s) ∧ w'.cell? ⟨k, off + j * 3 + 2, none⟩ = some (.int .u64 (y.u : Int)) ∧ w'.cell? ⟨k, off + h * 3, none⟩ = some (.int .i64 z.b) ∧ w'.cell? ⟨k, off + h * 3 + 1, none⟩ = some (.int .i64 z.s) ∧ w'.cell? ⟨k, off + h * 3 + 2, none⟩ = some (.int .u64 (z.u : Int)))) (by kernel_rfl) (by (and_intros <;> assumption)) (fun hHeld => ?_)
                    refine wpAnyH_tail 0 _ (by kernel_rfl) (by rfl) (by rfl) (by kernel_rfl) (fun _ => hHeld) ?_
                    go_simp
                    repeat (go_big_quiet_step ((fail)))
                    refine wpQuiet_nil ?_
                    (first | (intro _ hw'; obtain ⟨nq, hw''⟩ := hw'; subst hw'') | intro nq)
                    go_wp2_with (fail)
                    go_meet
                    exact ⟨rfl, (hf).drewN _⟩
                  · have t1 := hp.out
                    clear hp
                    refine wp_region_held_drew (S := (fun w' => w'.cell? ⟨k, off + i * 3, none⟩ = some (.int .i64 x.b) ∧ w'.cell? ⟨k, off + i * 3 + 1, none⟩ = some (.int .i64 x.s) ∧ w'.cell? ⟨k, off + i * 3 + 2, none⟩ = some (.int .u64 (x.u : Int)) ∧ w'.cell? ⟨k, off + j * 3, none⟩ = some (.int .i64 y.b) ∧ w'.cell? ⟨k, off + j * 3 + 1, none⟩ = some (.int .i64 y.s) ∧ w'.cell? ⟨k, off + j * 3 + 2, none⟩ = some (.int .u64 (y.u : Int)) ∧ w'.cell? ⟨k, off + h * 3, none⟩ = some (.int .i64 z.b) ∧ w'.cell? ⟨k, off + h * 3 + 1, none⟩ = some (.int .i64 z.s) ∧ w'.cell? ⟨k, off + h * 3 + 2, none⟩ = some (.int .u64 (z.u : Int)))) (by kernel_rfl) (by (and_intros <;> assumption)) (fun hHeld => ?_)
                    (refine wpAnyH_take (i := 0) (v := ?_) rfl (by kernel_rfl) (by kernel_rfl) (by kernel_rfl) (fun _ _ _ h => h) (Or.inl ⟨by kernel_rfl, ?_⟩) (by assumption) ?_; rotate_left; (focus (intro w hSw; (try dsimp only at hSw); go_simp; (try with_reducible rfl))))
                    (try simp only [put_lit, List.set])
                    (refine wpAnyH_take (i := 1) (v := ?_) rfl (by kernel_rfl) (by kernel_rfl) (by kernel_rfl) (fun _ _ _ h => h) (Or.inl ⟨by kernel_rfl, ?_⟩) (by assumption) ?_; rotate_left; (focus (intro w hSw; (try dsimp only at hSw); go_simp; (try with_reducible rfl))))
                    (try simp only [put_lit, List.set])
                    (refine wpAnyH_take (i := 2) (v := ?_) rfl (by kernel_rfl) (by kernel_rfl) (by kernel_rfl) (fun _ _ _ h => h) (Or.inl ⟨by kernel_rfl, ?_⟩) (by assumption) ?_; rotate_left; (focus (intro w hSw; (try dsimp only at hSw); go_simp; (try with_reducible rfl))))
                    (try simp only [put_lit, List.set])
                    (refine wpAnyH_take (i := 3) (v := ?_) rfl (by kernel_rfl) (by kernel_rfl) (by kernel_rfl) (fun _ _ _ h => h) (Or.inl ⟨by kernel_rfl, ?_⟩) (by assumption) ?_; rotate_left; (focus (intro w hSw; (try dsimp only at hSw); go_simp; (try with_reducible rfl))))
                    (try simp only [put_lit, List.set])
                    (refine wpAnyH_take (i := 4) (v := ?_) rfl (by kernel_rfl) (by kernel_rfl) (by kernel_rfl) (fun _ _ _ h => h) (Or.inl ⟨by kernel_rfl, ?_⟩) (by assumption) ?_; rotate_left; (focus (intro w hSw; (try dsimp only at hSw); go_simp; (try with_reducible rfl))))
                    (try simp only [put_lit, List.set])
                    (refine wpAnyH_take (i := 5) (v := ?_) rfl (by kernel_rfl) (by kernel_rfl) (by kernel_rfl) (fun _ _ _ h => h) (Or.inl ⟨by kernel_rfl, ?_⟩) (by assumption) ?_; rotate_left; (focus (intro w hSw; (try dsimp only at hSw); go_simp; (try with_reducible rfl))))
                    (try simp only [put_lit, List.set])
                    (refine wpAnyH_take (i := 6) (v := ?_) rfl (by kernel_rfl) (by kernel_rfl) (by kernel_rfl) (fun _ _ _ h => h) (Or.inl ⟨by kernel_rfl, ?_⟩) (by assumption) ?_; rotate_left; (focus (intro w hSw; (try dsimp only at hSw); go_simp; (try with_reducible rfl))))
                    (try simp only [put_lit, List.set])
                    (refine wpAnyH_take (i := 7) (v := ?_) rfl (by kernel_rfl) (by kernel_rfl) (by kernel_rfl) (fun _ _ _ h => h) (Or.inl ⟨by kernel_rfl, ?_⟩) (by assumption) ?_; rotate_left; (focus (intro w hSw; (try dsimp only at hSw); go_simp; (try with_reducible rfl))))
                    (try simp only [put_lit, List.set])
                    (refine wpAnyH_take (i := 8) (v := ?_) rfl (by kernel_rfl) (by kernel_rfl) (by kernel_rfl) (fun _ _ _ h => h) (Or.inl ⟨by kernel_rfl, ?_⟩) (by assumption) ?_; rotate_left; (focus (intro w hSw; (try dsimp only at hSw); go_simp; (try with_reducible rfl))))
                    (try simp only [put_lit, List.set])
                    (refine wpAnyH_take (i := 9) (v := ?_) rfl (by kernel_rfl) (by kernel_rfl) (by kernel_rfl) (fun _ _ _ h => h) (Or.inl ⟨by kernel_rfl, ?_⟩) (by assumption) ?_; rotate_left; (focus (intro w hSw; (try dsimp only at hSw); go_simp; (try with_reducible rfl))))
                    (try simp only [put_lit, List.set])
                    refine wpAnyH_only 10 (by kernel_rfl) rfl (by kernel_rfl) (fun K hK => ?_)
                    go_simp
                    go_wp2_with (go_at_call 19; (with_reducible refine (opless_any y z _).mono ?_); rintro _ u5 ⟨rfl, g5⟩; have D0 := g5.cell D0 (fun e => e); have D1 := g5.cell D1 (fun e => e); have D2 := g5.cell D2 (fun e => e); have M0 := g5.cell M0 (fun e => e); have M1 := g5.cell M1 (fun e => e); have M2 := g5.cell M2 (fun e => e); have N0 := g5.cell N0 (fun e => e); have N1 := g5.cell N1 (fun e => e); have N2 := g5.cell N2 (fun e => e))
                    refine hK.out _ _ (by (and_intros <;> assumption)) (fun hHeld => ?_)
                    clear hK K
                    (try simp only [put_lit, List.set])
                    rcases Bool.eq_false_or_eq_true (Id.less y z) with t2 | t2
                    · rw [t2]
                      (refine wpAnyH_take (i := 11) (v := ?_) rfl (by kernel_rfl) (by kernel_rfl) (by kernel_rfl) (fun _ _ _ h => h) (Or.inl ⟨by kernel_rfl, ?_⟩) (by assumption) ?_; rotate_left; (focus (intro w hSw; (try dsimp only at hSw); go_simp; (try with_reducible rfl))))
                      (try simp only [put_lit, List.set])
                      (refine wpAnyH_take (i := 12) (v := ?_) rfl (by kernel_rfl) (by kernel_rfl) (by kernel_rfl) (fun _ _ _ h => h) (Or.inl ⟨by kernel_rfl, ?_⟩) (by assumption) ?_; rotate_left; (focus (intro w hSw; (try dsimp only at hSw); go_simp; (try with_reducible rfl))))
                      (try simp only [put_lit, List.set])
                      (refine wpAnyH_take (i := 13) (v := ?_) rfl (by kernel_rfl) (by kernel_rfl) (by kernel_rfl) (fun _ _ _ h => h) (Or.inl ⟨by kernel_rfl, ?_⟩) (by assumption) ?_; rotate_left; (focus (intro w hSw; (try dsimp only at hSw); go_simp; (try with_reducible rfl))))
                      (try simp only [put_lit, List.set])
                      (refine wpAnyH_take (i := 14) (v := ?_) rfl (by kernel_rfl) (by kernel_rfl) (by kernel_rfl) (fun _ _ _ h => h) (Or.inl ⟨by kernel_rfl, ?_⟩) (by assumption) ?_; rotate_left; (focus (intro w hSw; (try dsimp only at hSw); go_simp; (try with_reducible rfl))))
                      (try simp only [put_lit, List.set])
                      (refine wpAnyH_take (i := 15) (v := ?_) rfl (by kernel_rfl) (by kernel_rfl) (by kernel_rfl) (fun _ _ _ h => h) (Or.inl ⟨by kernel_rfl, ?_⟩) (by assumption) ?_; rotate_left; (focus (intro w hSw; (try dsimp only at hSw); go_simp; (try with_reducible rfl))))
                      (try simp only [put_lit, List.set])
                      (refine wpAnyH_take (i := 16) (v := ?_) rfl (by kernel_rfl) (by kernel_rfl) (by kernel_rfl) (fun _ _ _ h => h) (Or.inl ⟨by kernel_rfl, ?_⟩) (by assumption) ?_; rotate_left; (focus (intro w hSw; (try dsimp only at hSw); go_simp; (try with_reducible rfl))))
                      (try simp only [put_lit, List.set])
                      (refine wpAnyH_take (i := 17) (v := ?_) rfl (by kernel_rfl) (by kernel_rfl) (by kernel_rfl) (fun _ _ _ h => h) (Or.inl ⟨by kernel_rfl, ?_⟩) (by assumption) ?_; rotate_left; (focus (intro w hSw; (try dsimp only at hSw); go_simp; (try with_reducible rfl))))
                      (try simp only [put_lit, List.set])
                      (refine wpAnyH_take (i := 18) (v := ?_) rfl (by kernel_rfl) (by kernel_rfl) (by kernel_rfl) (fun _ _ _ h => h) (Or.inl ⟨by kernel_rfl, ?_⟩) (by assumption) ?_; rotate_left; (focus (intro w hSw; (try dsimp only at hSw); go_simp; (try with_reducible rfl))))
                      (try simp only [put_lit, List.set])
                      (refine wpAnyH_take (i := 19) (v := ?_) rfl (by kernel_rfl) (by kernel_rfl) (by kernel_rfl) (fun _ _ _ h => h) (Or.inl ⟨by kernel_rfl, ?_⟩) (by assumption) ?_; rotate_left; (focus (intro w hSw; (try dsimp only at hSw); go_simp; (try with_reducible rfl))))
                      (try simp only [put_lit, List.set])
                      (refine wpAnyH_take (i := 20) (v := ?_) rfl (by kernel_rfl) (by kernel_rfl) (by kernel_rfl) (fun _ _ _ h => h) (Or.inl ⟨by kernel_rfl, ?_⟩) (by assumption) ?_; rotate_left; (focus (intro w hSw; (try dsimp only at hSw); go_simp; (try with_reducible rfl))))
                      (try simp only [put_lit, List.set])
                      refine wpAnyH_only 21 (by kernel_rfl) rfl (by kernel_rfl) (fun K hK => ?_)
                      go_simp
                      go_wp2_with (go_at_call 19; (with_reducible refine (opless_any x z _).mono ?_); rintro _ u6 ⟨rfl, g6⟩; rw [Id.less_tr t1 t2]; have D0 := g6.cell D0 (fun e => e); have D1 := g6.cell D1 (fun e => e); have D2 := g6.cell D2 (fun e => e); have M0 := g6.cell M0 (fun e => e); have M1 := g6.cell M1 (fun e => e); have M2 := g6.cell M2 (fun e => e); have N0 := g6.cell N0 (fun e => e); have N1 := g6.cell N1 (fun e => e); have N2 := g6.cell N2 (fun e => e))
                      refine hK.out _ _ (by (and_intros <;> assumption)) (fun hHeld => ?_)
                      clear hK K
                      (try simp only [put_lit, List.set])
                      refine wpAnyH_tail 22 _ (by kernel_rfl) (by rfl) (by rfl) (by kernel_rfl) (fun _ => hHeld) ?_
                      go_simp
                      repeat (go_big_quiet_step ((fail)))
                      refine wpQuiet_nil ?_
                      (first | (intro _ hw'; obtain ⟨nq, hw''⟩ := hw'; subst hw'') | intro nq)
                      go_wp2_with (fail)
                      go_meet
                      exact ⟨rfl, ((hf.drew.trans g5 (fun _ _ e => e)).trans g6 (fun _ _ e => e)).drewN _⟩
                    · rw [t2]
                      refine wpAnyH_tail 11 _ (by kernel_rfl) (by rfl) (by rfl) (by kernel_rfl) (fun _ => hHeld) ?_
                      go_simp
                      repeat (go_big_quiet_step ((fail)))
                      refine wpQuiet_nil ?_
                      (first | (intro _ hw'; obtain ⟨nq, hw''⟩ := hw'; subst hw'') | intro nq)
                      go_wp2_with (fail)
                      go_meet
                      exact ⟨rfl, (hf.drew.trans g5 (fun _ _ e => e)).drewN _⟩
                case rest =>
                  obtain ⟨rfl, hf4⟩ := hcut
                  go_wp2_with (fail)
                  go_roundw
                  case rel => exact ⟨h + 1, by go_num, by omega, hf4⟩
                  case measure => first | (simp [intOf]; done) | (simp [intOf]; omega)
              · obtain rfl : h = 4 := by omega
                go_wp2_with (fail)
                go_roundw
                case rel => exact ⟨j + 1, by go_num, by omega, hf⟩
                case measure => first | (simp [intOf]; done) | (simp [intOf]; omega)
        · obtain rfl : j = 4 := by omega
          go_wp2_with (fail)
          go_roundw
          case rel => exact ⟨i + 1, by go_num, by omega, hf⟩
          case measure => first | (simp [intOf]; done) | (simp [intOf]; omega)
    · obtain rfl : i = 4 := by omega
      have hkr := hk3.fr hf
      go_wp2_with (fail)
      refine (lives11_any _ hkr).mono ?_
      rintro _ w9 ⟨rfl, f9⟩
      go_wp2_with (fail)
      go_ret
      exact ⟨rfl, (F2.trans hf (fun _ _ e => e)).trans f9 (fun _ _ e => e)⟩
end Oq
end Go.Proofs.YthmlaigpdpdpjaaDoor
