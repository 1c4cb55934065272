/-
  Names: the reference's HasID and Sorted; Ints.
  Conditions: as each theorem says.
-/
import Derived.Test.YtahcddlgghipjaaGreatDoorOpLess
import Derived.Laws.StructEq
namespace Go.Proofs.YtahcddlgghipjaaGreatDoor
open Go.RowKit
attribute [local go_sem ↓] Go.wp_at_zero Go.wp_at_succ
namespace Oq
attribute [local go_sem] Bool.not_false Bool.not_true

theorem hasId_snoc (l : List Id) (k : Nat) (x y : Id) (h : l[k]? = some y) : hasId (l.take (k + 1)) x = (hasId (l.take k) x || Id.eq y x) := by
  obtain ⟨hk, rfl⟩ := List.getElem?_eq_some_iff.1 h
  rw [List.take_succ_eq_append_getElem hk]
  unfold hasId
  rw [List.any_append]
  simp
theorem hasId_mem (l : List Id) (x : Id) : hasId l x = true ↔ x ∈ l := by
  unfold hasId
  rw [List.any_eq_true]
  exact ⟨fun ⟨y, hy, he⟩ => by rw [← (Id.eq_iff y x).1 he]; exact hy, fun h => ⟨x, h, (Id.eq_iff x x).2 rfl⟩⟩
theorem hasId_of (l : List Id) (k : Nat) (x : Id) (h : hasId (l.take k) x = true) : hasId l x = true :=
  (hasId_mem _ _).2 (List.mem_of_mem_take ((hasId_mem _ _).1 h))

/-- What == says of two names. -/
theorem eq_ident (x y : Id) (w : World) : (Op.equalIn 10000 27 (.agg #[.int .i64 x.b, .int .i64 x.s, .int .u64 (x.u : Int)]) (.agg #[.int .i64 y.b, .int .i64 y.s, .int .u64 (y.u : Int)])).run Tryz.prog w = .ok (Id.eq x y) w := by
  have hS : Tryz.prog.underlying 27 = some (.struct (Tryz.prog.fieldsOf 27)) := by kernel_rfl
  have hp : Tryz.prog.stoodInHeld 27 = false := by kernel_rfl
  rw [show (10000 : Nat) = 9999 + 1 from rfl, run_equalIn_agg w 9999 27 _ _ hS hp]
  simp only [Program.fieldsOf, Tryz.underlying27]
  have e3 : ((x.u : Int) == (y.u : Int)) = (x.u == y.u) := by rw [Bool.eq_iff_iff]; simp; omega
  unfold Id.eq
  go_simp
  by_cases h1 : x.b = y.b <;> by_cases h2 : x.s = y.s <;> by_cases h3 : x.u = y.u <;> simp [h1, h2, h3]
attribute [local go_sem ↓] eq_ident
theorem eqGuard_ident : Tryz.prog.eqGuardType Tryz.prog.depth 27 = false := by kernel_rfl

set_option maxHeartbeats 1000000 in
theorem hasid_any (B n c : Nat) (A : Option Addr) (l : List Id) (x : Id) (w : World) (hn : Hid (l.length = n)) (hr : Rd w B 3 A n (l.flatMap Id.cells)) (hnm : n ≤ 1000000) :
    Calls Tryz.prog 15 #[.slice A n c, .agg #[.int .i64 x.b, .int .i64 x.s, .int .u64 (x.u : Int)]] w (BoolPost (hasId l x) w) := by
  have hb0 := Blk.new w 27 #[.int .i64 x.b, .int .i64 x.s, .int .u64 (x.u : Int)]
  go_enter Tryz.func15, Tryz.ntmps15
  go_wp2
  go_loopw [5] (fun v wr => ∃ k : Nat, v = .int .i64 (k : Int) ∧ k ≤ n ∧ Hid (hasId (l.take k) x = false) ∧ Fr Non (w.alloc (.cells #[.int .i64 x.b, .int .i64 x.s, .int .u64 (x.u : Int)] 27)) wr) (fun v _ => n - (intOf v).toNat)
  case atStart => exact ⟨0, rfl, by omega, rfl, Fr.refl _ _⟩
  case round =>
    obtain ⟨k, rfl, hk, hh, hf⟩ := hrel
    by_cases hlt : k < n
    · obtain ⟨y, hy⟩ : ∃ y, l[k]? = some y := ⟨_, List.getElem?_eq_getElem (by rw [hn.out]; exact hlt)⟩
      obtain ⟨b, off, rfl, hbB, k0, k1, k2⟩ := Id.at ((hr.alloc _).fr hf (fun _ _ e => e)) hy
      have hsn := Lib.hid (hasId_snoc l k x y hy)
      clear hy
      have hb := hb0.fr hf (fun e => e)
      have c0 := hb.cell 0
      have c1 := hb.cell 1
      have c2 := hb.cell 2
      have i1 : (0 : Int) ≤ k := by omega
      have i2 : (k : Int) < n := by omega
      have i3 : (k : Int).toNat = k := by omega
      have hm := eqGuard_ident
      by_cases he : Id.eq y x = true
      · have hfin : Hid (hasId l x = true) := hasId_of l (k + 1) x (by rw [hsn.out, he]; simp)
        go_wp2
        go_quiet (fail)
        go_wp2
        go_ret
        exact ⟨by rw [hfin.out]; rfl, (((Fr.refl Non w).alloc _).trans hf (fun _ _ e => e)).drewN _⟩
      · have he := Bool.not_eq_true _ ▸ he
        have hfin : Hid (hasId (l.take (k + 1)) x = false) := by show _ = _; rw [hsn.out, he, hh.out]; rfl
        go_wp2
        go_quiet (fail)
        go_wp2
        go_roundw
        case rel => exact ⟨k + 1, by go_num, by omega, hfin, hf.drewN _⟩
        case measure => simp [intOf]; omega
    · obtain rfl : k = n := by omega
      have hfin : Hid (hasId l x = false) := by have h := hh.out; rw [List.take_of_length_le (by rw [hn.out]; omega)] at h; exact h
      go_wp2
      go_ret
      exact ⟨by rw [hfin.out]; rfl, ((Fr.refl Non w).alloc _).trans hf (fun _ _ e => e)⟩

theorem Rd.partN {w : World} {B size n : Nat} {A : Option Addr} {xs : List Value} (h : Rd w B size A n xs) {lo hi : Nat} (h1 : lo ≤ hi) (h2 : hi ≤ n) (A' : Option Addr)
    (hA : lo < hi → A' = A.map (·.add (lo * size))) : Rd w B size A' (hi - lo) ((xs.drop (lo * size)).take ((hi - lo) * size)) := by
  have hl := h.1
  have e1 := Nat.mul_le_mul_right size h2
  have e2 : (hi - lo) * size + lo * size = hi * size := by rw [← Nat.add_mul, Nat.sub_add_cancel h1]
  refine ⟨by simp; omega, ?_⟩
  rcases Nat.lt_or_ge lo hi with hlt | hge
  · rcases h.2 with h0 | ⟨b, off, e, hb, hc⟩
    · omega
    · refine .inr ⟨b, off + lo * size, ?_, hb, ?_⟩
      · rw [hA hlt, e]
        simp only [Option.map_some, Addr.add]
        split
        · rename_i h0
          rw [h0]; rfl
        · rfl
      · intro j u hu
        rw [List.getElem?_take] at hu
        split at hu
        · rw [List.getElem?_drop] at hu
          rw [Nat.add_assoc]
          exact hc _ _ hu
        · cases hu
  · exact .inl (by omega)
theorem flat_drop {α : Type} {f : α → List Value} {size : Nat} (hf : ∀ x, (f x).length = size) (l : List α) (m : Nat) : (l.flatMap f).drop (m * size) = (l.drop m).flatMap f := by
  induction l generalizing m with
  | nil => simp
  | cons y l ih =>
    match m with
    | 0 => simp
    | m + 1 =>
      rw [List.flatMap_cons, List.drop_succ_cons, List.drop_append, hf, List.drop_of_length_le (by rw [hf, Nat.add_mul]; omega), List.nil_append, show (m + 1) * size - size = m * size by rw [Nat.add_mul]; omega, ih]
theorem Id.cells_len (x : Id) : x.cells.length = 3 := rfl
theorem Id.cells_one (l : List Id) : ∀ u ∈ l.flatMap Id.cells, u.oneCell' = true := by
  intro u hu
  obtain ⟨x, _, hx⟩ := List.mem_flatMap.1 hu
  unfold Id.cells at hx
  simp at hx
  rcases hx with rfl | rfl | rfl <;> rfl
theorem cells_cut (l : List Id) (a b : Nat) : ∀ u ∈ ((l.flatMap Id.cells).drop a).take b, u.oneCell' = true := fun u hu => Id.cells_one l u (List.mem_of_mem_drop (List.mem_of_mem_take hu))
theorem add_zero (A : Option Addr) : A = A.map (·.add (0 * 3)) := by
  cases A with
  | none => rfl
  | some a => rw [Nat.zero_mul]; rfl
theorem ins_len (l : List Id) (x : Id) : (ins l x).length = l.length + 1 := by
  unfold ins
  have h : (l.take (insAt x l l.length)).length + (l.drop (insAt x l l.length)).length = l.length := by rw [← List.length_append, List.take_append_drop]
  rw [List.length_append, List.length_append, List.length_singleton]
  omega
theorem ins_cells (xs : List Id) (x : Id) {i K : Nat} (hl : xs.length = i) (hk : insAt x xs i = K) :
    (xs.take K).flatMap Id.cells ++ [.int .i64 x.b, .int .i64 x.s, .int .u64 (x.u : Int)] ++ ((xs.flatMap Id.cells).drop (K * 3)).take ((i - K) * 3) = (ins xs x).flatMap Id.cells := by
  rw [flat_drop Id.cells_len, flat_take Id.cells_len, List.take_of_length_le (l := xs.drop K) (by rw [List.length_drop, hl]; exact Nat.le_refl _)]
  unfold ins
  rw [hl, hk, List.flatMap_append, List.flatMap_append, List.flatMap_cons, List.flatMap_nil, List.append_nil]
  rfl
theorem sortIds_snoc (l : List Id) (k : Nat) (x : Id) (h : l[k]? = some x) : sortIds (l.take (k + 1)) = ins (sortIds (l.take k)) x := by
  obtain ⟨hk, rfl⟩ := List.getElem?_eq_some_iff.1 h
  rw [List.take_succ_eq_append_getElem hk]
  unfold sortIds
  rw [List.foldl_append]
  rfl
theorem insAt_go (x y : Id) (l : List Id) (k : Nat) (h : l[k]? = some y) : insAt x l (k + 1) = if Id.less x y then insAt x l k else k + 1 := by
  show (match l[k]? with | some y => if Id.less x y then insAt x l k else k + 1 | none => k + 1) = _
  rw [h]

def SortPost (l : List Id) (n : Nat) (w : World) (r : Ending) (w' : World) : Prop :=
  ∃ A c, r = .returned (.slice A n c) ∧ Own w' w.heap.size 27 3 A n c ((sortIds l).flatMap Id.cells) ∧ Fr Non w w'
set_option maxRecDepth 100000 in
set_option maxHeartbeats 2000000 in
theorem sorted_any (B n c : Nat) (A : Option Addr) (l : List Id) (w : World) (hn : Hid (l.length = n)) (hr : Rd w B 3 A n (l.flatMap Id.cells)) (hnm : n ≤ 1000000) :
    Calls Tryz.prog 16 #[.slice A n c] w (SortPost l n w) := by
  go_enter Tryz.func16, Tryz.ntmps16
  go_wp2
  go_loopw [3, 4] (fun s v wr => ∃ (i : Nat) (Ax : Option Addr) (cx : Nat) (xs : List Id), v = .int .i64 (i : Int) ∧ s = .slice Ax i cx ∧ i ≤ n ∧ Hid (xs = sortIds (l.take i)) ∧ Hid (xs.length = i) ∧
    Own wr w.heap.size 27 3 Ax i cx (xs.flatMap Id.cells) ∧ Fr Non w wr) (fun _ v _ => n - (intOf v).toNat)
  case atStart => exact ⟨0, none, 0, [], rfl, rfl, by omega, rfl, rfl, Own.nil _ _ _ _, Fr.refl _ _⟩
  case round =>
    obtain ⟨i, Ax, cx, xs, rfl, rfl, hi, hxs, hxl, hown, hf⟩ := hrel
    by_cases hlt : i < n
    · obtain ⟨x, hx⟩ : ∃ x, l[i]? = some x := ⟨_, List.getElem?_eq_getElem (by rw [hn.out]; exact hlt)⟩
      obtain ⟨b, off, rfl, hbB, k0, k1, k2⟩ := Id.at (hr.fr hf (fun _ _ e => e)) hx
      have hsn := Lib.hid (sortIds_snoc l i x hx)
      clear hx
      have hcap := hown.cap
      obtain ⟨wo, hwo⟩ : ∃ wo : World, wo = wr := ⟨_, rfl⟩
      subst hwo
      go_wp2
      go_loopw [5] (fun v wi => ∃ k : Nat, v = .int .i64 (k : Int) ∧ k ≤ i ∧ Hid (insAt x xs i = insAt x xs k) ∧ Fr Non wo wi) (fun v _ => (intOf v).toNat)
      case atStart => exact ⟨i, rfl, by omega, rfl, Fr.refl _ _⟩
      case round =>
        obtain ⟨k, rfl, hk, hins, hfi⟩ := hrel
        rcases Nat.eq_zero_or_pos k with h0 | h0
        · subst h0
          have hik := Lib.hid hins.out
          have hwS := hfi.size
          have hwR := hf.size
          have ownW := hown.fr hfi (fun _ _ e => e)
          have hnil := Own.nil wr w.heap.size 27 3
          have hrdA := ownW.rd.takeN (m := 0) (by omega)
          rw [flat_take Id.cells_len] at hrdA
          have hlo := ownW.row
          have G0 := hfi.cell k0 (fun e => e)
          have G1 := hfi.cell k1 (fun e => e)
          have G2 := hfi.cell k2 (fun e => e)
          go_upto_region 10 with (fail)
          have nA : ∀ k, rowOf Ax = some k → k < wo.heap.size := fun k hk => (hown.row k hk).2
          go_wp2_with (first
            | (at_builtin; go_loud (refine wpList_app (base := w.heap.size) (.tmp 30) (.tmp 33) 23 rfl rfl rfl rfl slId hnil hrdA (Id.cells_one _) (by omega) (by omega) (by omega) ?_); intro A1 c1 w2 own1 fr1 hat1; have fr1' : Fr Non _ w2 := fr1.mono (fun k _ hk => by cases hk); have hw2 := fr1'.size; have H0 := fr1'.cell G0 (fun e => e); have H1 := fr1'.cell G1 (fun e => e); have H2 := fr1'.cell G2 (fun e => e); have hr1 : ∀ k, rowOf A1 = some k → wo.heap.size ≤ k := fun k hk => (by rcases hat1 with e | e; (rw [e] at hk; cases hk); (rw [e] at hk; injection hk with hk; omega)); clear hat1; rw [Nat.zero_add, List.nil_append] at own1)
            | (at_builtin; go_loud (refine wpList_app (base := w.heap.size) (.tmp 35) (.tmp 40) 23 rfl rfl rfl rfl slId (own1.alloc (.cells #[.int .i64 x.b, .int .i64 x.s, .int .u64 (x.u : Int)] 27)) (Rd.blk (n := 1) (size := 3) (Blk.new w2 27 #[.int .i64 x.b, .int .i64 x.s, .int .u64 (x.u : Int)]) rfl) (by simp [Value.oneCell']) (by omega) (by omega) (by rw [World.size_alloc]; omega) ?_); intro A2 c2 w3 own2 fr2 hat2; have hw3 := fr2.size; rw [World.size_alloc] at hw3; have hr2 : ∀ k, rowOf A2 = some k → wo.heap.size ≤ k := fun k hk => (by rcases hat2 with e | e; (rw [e] at hk; exact hr1 k hk); (rw [e, World.size_alloc] at hk; injection hk with hk; omega)); clear hat2; have ownW3 := ((ownW.fr fr1' (fun _ _ e => e)).alloc (.cells #[.int .i64 x.b, .int .i64 x.s, .int .u64 (x.u : Int)] 27)).fr fr2 (fun k hk e => by have e1 := hr1 k e; have e2 := nA k hk; omega))
            | (at_builtin; go_loud (refine wpList_app (base := w.heap.size) (.tmp 42) (.tmp 45) 23 rfl rfl rfl rfl slId own2 (Rd.partN ownW3.rd (lo := 0) (hi := i) (by omega) (Nat.le_refl _) _ (fun hlt => add_zero Ax)) (cells_cut _ _ _) (by omega) (by omega) (by omega) ?_); intro A3 c3 w4 own3 fr3 hat3))
          have hfin : Hid (ins xs x = sortIds (l.take (i + 1))) := by show _ = _; rw [hsn.out, ← hxs.out]
          have hcells : (xs.take (0)).flatMap Id.cells ++ [.int .i64 x.b, .int .i64 x.s, .int .u64 (x.u : Int)] ++ ((xs.flatMap Id.cells).drop ((0) * 3)).take ((i - (0)) * 3) = (ins xs x).flatMap Id.cells := by
            exact ins_cells xs x hxl.out (hik.out)
          have hfr : Fr Non w w4 := (((hf.trans hfi (fun _ _ e => e)).trans fr1' (fun _ _ e => e)).alloc (.cells #[.int .i64 x.b, .int .i64 x.s, .int .u64 (x.u : Int)] 27)).trans fr2 (fun k hk e => by have := hr1 k e; omega) |>.trans fr3 (fun k hk e => by have := hr2 k e; omega)
          go_roundw
          case rel => exact ⟨i + 1, A3, c3, ins xs x, by go_num, by first | rfl | (congr 1; omega), by omega, hfin, by show _ = _; rw [ins_len, hxl.out], by rw [← hcells, show i + 1 = 0 + 1 + (i - (0)) by omega]; exact own3, hfr⟩
          case measure => simp [intOf]; omega
        · obtain ⟨j, rfl⟩ : ∃ j, k = j + 1 := ⟨k - 1, by omega⟩
          obtain ⟨y, hy⟩ : ∃ y, xs[j]? = some y := ⟨_, List.getElem?_eq_getElem (by rw [hxl.out]; omega)⟩
          obtain ⟨b2, off2, hA2, hb2, m0, m1, m2⟩ := Id.at (hown.rd.fr hfi (fun _ _ e => e)) hy
          subst hA2
          have hgo := Lib.hid (insAt_go x y xs j hy)
          clear hy
          have K0 := hfi.cell k0 (fun e => e)
          have K1 := hfi.cell k1 (fun e => e)
          have K2 := hfi.cell k2 (fun e => e)
          by_cases hL : Id.less x y = true
          · have hgo' : Hid (insAt x xs i = insAt x xs j) := by show _ = _; rw [hins.out, hgo.out, if_pos hL]
            go_upto_region 7 with (fail)
            have e1 : IntKind.i64.wrap (((j + 1 : Nat) : Int) - 1) = (j : Int) := by rw [show ((j + 1 : Nat) : Int) - 1 = j by omega]; exact IntWalk.i64_in _ (by omega)
            have e1' : IntKind.i64.wrap ((j : Int) + 1 - 1) = (j : Int) := by rw [show (j : Int) + 1 - 1 = j by omega]; exact IntWalk.i64_in _ (by omega)
            have e1'' : IntKind.i64.wrap (j : Int) = (j : Int) := IntWalk.i64_in _ (by omega)
            have e2 : (0 : Int) ≤ j := by omega
            have e3 : (j : Int) < i := by omega
            have e4 : (j : Int).toNat = j := by omega
            have f2 : (0 : Int) ≤ i := by omega
            have f3 : (i : Int) < n := by omega
            have f4 : (i : Int).toNat = i := by omega
            have D0 : wr.drew.cell? ⟨b, off + i * 3, none⟩ = some (.int .i64 x.b) := K0
            have D1 : wr.drew.cell? ⟨b, off + i * 3 + 1, none⟩ = some (.int .i64 x.s) := K1
            have D2 : wr.drew.cell? ⟨b, off + i * 3 + 2, none⟩ = some (.int .u64 (x.u : Int)) := K2
            have M0 : wr.drew.cell? ⟨b2, off2 + j * 3, none⟩ = some (.int .i64 y.b) := m0
            have M1 : wr.drew.cell? ⟨b2, off2 + j * 3 + 1, none⟩ = some (.int .i64 y.s) := m1
            have M2 : wr.drew.cell? ⟨b2, off2 + j * 3 + 2, none⟩ = some (.int .u64 (y.u : Int)) := m2
            go_region_held3 (fun w' => w'.cell? ⟨b, off + i * 3, none⟩ = some (.int .i64 x.b) ∧ w'.cell? ⟨b, off + i * 3 + 1, none⟩ = some (.int .i64 x.s) ∧ w'.cell? ⟨b, off + i * 3 + 2, none⟩ = some (.int .u64 (x.u : Int)) ∧ w'.cell? ⟨b2, off2 + j * 3, none⟩ = some (.int .i64 y.b) ∧ w'.cell? ⟨b2, off2 + j * 3 + 1, none⟩ = some (.int .i64 y.s) ∧ w'.cell? ⟨b2, off2 + j * 3 + 2, none⟩ = some (.int .u64 (y.u : Int))) ((and_intros <;> assumption)) (first
              | (go_at_call 27; (with_reducible refine (less11_any x y _).mono ?_); rintro _ w1 ⟨rfl, hf1⟩; have D0 := hf1.cell D0 (fun e => e); have D1 := hf1.cell D1 (fun e => e); have D2 := hf1.cell D2 (fun e => e); have M0 := hf1.cell M0 (fun e => e); have M1 := hf1.cell M1 (fun e => e); have M2 := hf1.cell M2 (fun e => e)))
            clear e1 e1' e1'' e2 e3 e4 f2 f3 f4
            have hfw := (hfi.drew).trans hf1 (fun _ _ e => e)
            go_wp2
            go_roundw
            case rel => exact ⟨j, by go_num, by omega, hgo', hfw⟩
            case measure => first | (simp [intOf]; done) | (simp [intOf]; omega)
          · have hik : Hid (insAt x xs i = j + 1) := by show _ = _; rw [hins.out, hgo.out, if_neg hL]
            have hL := Bool.not_eq_true _ ▸ hL
            go_upto_region 7 with (fail)
            have e1 : IntKind.i64.wrap (((j + 1 : Nat) : Int) - 1) = (j : Int) := by rw [show ((j + 1 : Nat) : Int) - 1 = j by omega]; exact IntWalk.i64_in _ (by omega)
            have e1' : IntKind.i64.wrap ((j : Int) + 1 - 1) = (j : Int) := by rw [show (j : Int) + 1 - 1 = j by omega]; exact IntWalk.i64_in _ (by omega)
            have e1'' : IntKind.i64.wrap (j : Int) = (j : Int) := IntWalk.i64_in _ (by omega)
            have e2 : (0 : Int) ≤ j := by omega
            have e3 : (j : Int) < i := by omega
            have e4 : (j : Int).toNat = j := by omega
            have f2 : (0 : Int) ≤ i := by omega
            have f3 : (i : Int) < n := by omega
            have f4 : (i : Int).toNat = i := by omega
            have D0 : wr.drew.cell? ⟨b, off + i * 3, none⟩ = some (.int .i64 x.b) := K0
            have D1 : wr.drew.cell? ⟨b, off + i * 3 + 1, none⟩ = some (.int .i64 x.s) := K1
            have D2 : wr.drew.cell? ⟨b, off + i * 3 + 2, none⟩ = some (.int .u64 (x.u : Int)) := K2
            have M0 : wr.drew.cell? ⟨b2, off2 + j * 3, none⟩ = some (.int .i64 y.b) := m0
            have M1 : wr.drew.cell? ⟨b2, off2 + j * 3 + 1, none⟩ = some (.int .i64 y.s) := m1
            have M2 : wr.drew.cell? ⟨b2, off2 + j * 3 + 2, none⟩ = some (.int .u64 (y.u : Int)) := m2
            go_region_held3 (fun w' => w'.cell? ⟨b, off + i * 3, none⟩ = some (.int .i64 x.b) ∧ w'.cell? ⟨b, off + i * 3 + 1, none⟩ = some (.int .i64 x.s) ∧ w'.cell? ⟨b, off + i * 3 + 2, none⟩ = some (.int .u64 (x.u : Int)) ∧ w'.cell? ⟨b2, off2 + j * 3, none⟩ = some (.int .i64 y.b) ∧ w'.cell? ⟨b2, off2 + j * 3 + 1, none⟩ = some (.int .i64 y.s) ∧ w'.cell? ⟨b2, off2 + j * 3 + 2, none⟩ = some (.int .u64 (y.u : Int))) ((and_intros <;> assumption)) (first
              | (go_at_call 27; (with_reducible refine (less11_any x y _).mono ?_); rintro _ w1 ⟨rfl, hf1⟩; have D0 := hf1.cell D0 (fun e => e); have D1 := hf1.cell D1 (fun e => e); have D2 := hf1.cell D2 (fun e => e); have M0 := hf1.cell M0 (fun e => e); have M1 := hf1.cell M1 (fun e => e); have M2 := hf1.cell M2 (fun e => e)))
            clear e1 e1' e1'' e2 e3 e4 f2 f3 f4
            have hfw := (hfi.drew).trans hf1 (fun _ _ e => e)
            have hwS := hfw.size
            have hwR := hf.size
            have ownW := hown.fr hfw (fun _ _ e => e)
            have hnil := Own.nil w1 w.heap.size 27 3
            have hrdA := ownW.rd.takeN (m := j + 1) (by omega)
            rw [flat_take Id.cells_len] at hrdA
            have hlo := ownW.row
            have G0 := hfw.cell k0 (fun e => e)
            have G1 := hfw.cell k1 (fun e => e)
            have G2 := hfw.cell k2 (fun e => e)
            go_upto_region 10 with (fail)
            have nA : ∀ k, rowOf (some (⟨b2, off2, none⟩ : Addr)) = some k → k < wo.heap.size := fun k hk => (hown.row k hk).2
            go_wp2_with (first
              | (at_builtin; go_loud (refine wpList_app (base := w.heap.size) (.tmp 30) (.tmp 33) 23 rfl rfl rfl rfl slId hnil hrdA (Id.cells_one _) (by omega) (by omega) (by omega) ?_); intro A1 c1 w2 own1 fr1 hat1; have fr1' : Fr Non _ w2 := fr1.mono (fun k _ hk => by cases hk); have hw2 := fr1'.size; have H0 := fr1'.cell G0 (fun e => e); have H1 := fr1'.cell G1 (fun e => e); have H2 := fr1'.cell G2 (fun e => e); have hr1 : ∀ k, rowOf A1 = some k → wo.heap.size ≤ k := fun k hk => (by rcases hat1 with e | e; (rw [e] at hk; cases hk); (rw [e] at hk; injection hk with hk; omega)); clear hat1; rw [Nat.zero_add, List.nil_append] at own1)
              | (at_builtin; go_loud (refine wpList_app (base := w.heap.size) (.tmp 35) (.tmp 40) 23 rfl rfl rfl rfl slId (own1.alloc (.cells #[.int .i64 x.b, .int .i64 x.s, .int .u64 (x.u : Int)] 27)) (Rd.blk (n := 1) (size := 3) (Blk.new w2 27 #[.int .i64 x.b, .int .i64 x.s, .int .u64 (x.u : Int)]) rfl) (by simp [Value.oneCell']) (by omega) (by omega) (by rw [World.size_alloc]; omega) ?_); intro A2 c2 w3 own2 fr2 hat2; have hw3 := fr2.size; rw [World.size_alloc] at hw3; have hr2 : ∀ k, rowOf A2 = some k → wo.heap.size ≤ k := fun k hk => (by rcases hat2 with e | e; (rw [e] at hk; exact hr1 k hk); (rw [e, World.size_alloc] at hk; injection hk with hk; omega)); clear hat2; have ownW3 := ((ownW.fr fr1' (fun _ _ e => e)).alloc (.cells #[.int .i64 x.b, .int .i64 x.s, .int .u64 (x.u : Int)] 27)).fr fr2 (fun k hk e => by have e1 := hr1 k e; have e2 := nA k hk; omega))
              | (at_builtin; go_loud (refine wpList_app (base := w.heap.size) (.tmp 42) (.tmp 45) 23 rfl rfl rfl rfl slId own2 (Rd.partN ownW3.rd (lo := j + 1) (hi := i) (by omega) (Nat.le_refl _) _ (fun hlt => if_neg (by omega))) (cells_cut _ _ _) (by omega) (by omega) (by omega) ?_); intro A3 c3 w4 own3 fr3 hat3))
            have hfin : Hid (ins xs x = sortIds (l.take (i + 1))) := by show _ = _; rw [hsn.out, ← hxs.out]
            have hcells : (xs.take (j + 1)).flatMap Id.cells ++ [.int .i64 x.b, .int .i64 x.s, .int .u64 (x.u : Int)] ++ ((xs.flatMap Id.cells).drop ((j + 1) * 3)).take ((i - (j + 1)) * 3) = (ins xs x).flatMap Id.cells := by
              exact ins_cells xs x hxl.out (hik.out)
            have hfr : Fr Non w w4 := (((hf.trans hfw (fun _ _ e => e)).trans fr1' (fun _ _ e => e)).alloc (.cells #[.int .i64 x.b, .int .i64 x.s, .int .u64 (x.u : Int)] 27)).trans fr2 (fun k hk e => by have := hr1 k e; omega) |>.trans fr3 (fun k hk e => by have := hr2 k e; omega)
            go_roundw
            case rel => exact ⟨i + 1, A3, c3, ins xs x, by go_num, by first | rfl | (congr 1; omega), by omega, hfin, by show _ = _; rw [ins_len, hxl.out], by rw [← hcells, show i + 1 = j + 1 + 1 + (i - (j + 1)) by omega]; exact own3, hfr⟩
            case measure => simp [intOf]; omega
    · obtain rfl : i = n := by omega
      have hfin : Hid (xs = sortIds l) := by have h := hxs.out; rw [List.take_of_length_le (by rw [hn.out]; omega)] at h; exact h
      go_wp2
      go_ret
      exact ⟨Ax, cx, rfl, by rw [← hfin.out]; exact hown, hf⟩
end Oq
end Go.Proofs.YtahcddlgghipjaaGreatDoor
