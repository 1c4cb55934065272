/-
  The references' source of numbers (huddleref11.taken): the next number, a name, boxes, bytes.
  Conditions: the source lies in a block of its own, its numbers below it; fewer than 2^20 numbers were taken.
-/
import Derived.Test.YtahcddlgghipjaaGreatDoorGenSpec
import Derived.Test.YtahcddlgghipjaaGreatDoorOpGet3
import Derived.Test.YtahcddlgghipjaaGreatDoorOpPut
import Derived.IntWalk
namespace Go.Proofs.YtahcddlgghipjaaGreatDoor
open Go.RowKit
attribute [local go_sem ↓] Go.wp_at_zero Go.wp_at_succ

theorem quiet_add_left {P : Program} {f : FuncId} {args : Array Value} {w : World} {a n : Nat} {v : Value}
    (h : Calls P f args (w.drewN (a + n)) fun e w' => e = .returned v ∧ w.drewN (a + n) = w') :
    Calls P f args (w.drewN (a + n)) fun e w'' => e = .returned v ∧ ∃ m, w'' = w.drewN (a + m) :=
  h.mono fun _ _ ⟨he, hm⟩ => ⟨he, n, hm.symm⟩
theorem quiet_left {P : Program} {f : FuncId} {args : Array Value} {w : World} {n : Nat} {v : Value}
    (h : Calls P f args (w.drewN n) fun e w' => e = .returned v ∧ w.drewN n = w') : Calls P f args (w.drewN n) fun e w'' => e = .returned v ∧ ∃ m, w'' = w.drewN m :=
  h.mono fun _ _ ⟨he, hm⟩ => ⟨he, n, hm.symm⟩
namespace Oq

/-- The source: its numbers L, and how many were taken. -/
def Tk (w : World) (B g : Nat) (L : List Int) (i : Nat) : Prop :=
  ∃ A c, Blk w g 48 #[.slice A L.length c, .int .i64 (i : Int)] ∧ Rd w B 1 A L.length (L.map Iv) ∧ B ≤ g ∧ L.length ≤ 60 ∧ ∀ x ∈ L, I64 x
section
variable {S : Nat → Prop} {w w' : World} {B g i : Nat} {L : List Int}
theorem Tk.lt (h : Tk w B g L i) : g < w.heap.size := by obtain ⟨_, _, hb, _⟩ := h; exact hb.lt
theorem Tk.le (h : Tk w B g L i) : B ≤ g := by obtain ⟨_, _, _, _, h, _⟩ := h; exact h
theorem Tk.fr (h : Tk w B g L i) (hf : Fr S w w') (hg : ¬ S g) (hs : ∀ k, k < B → ¬ S k) : Tk w' B g L i := by
  obtain ⟨A, c, hb, hr, r⟩ := h
  exact ⟨A, c, hb.fr hf hg, hr.fr hf hs, r⟩
theorem Tk.alloc (h : Tk w B g L i) (o : Obj) : Tk (w.alloc o) B g L i := h.fr (S := Non) ((Fr.refl _ _).alloc o) (fun e => e) (fun _ _ e => e)
theorem Tk.drew (h : Tk w B g L i) : Tk w.drew B g L i := h
theorem Tk.drewN (h : Tk w B g L i) (n : Nat) : Tk (w.drewN n) B g L i := h
theorem Tk.set (h : Tk w B g L i) {go : Nat} (hg : g < go) (j : Nat) (u : Value) : Tk (w.setCell ⟨go, j, none⟩ u) B g L i := by
  have hB := h.le
  exact h.fr ((Fr.refl (One go) w).setOne j u) (fun e => by have e' : g = go := e; omega) (fun k hk e => by have e' : k = go := e; omega)
end

def NxPost (B g : Nat) (L : List Int) (i : Nat) (v : Value) (w : World) (r : Ending) (w' : World) : Prop :=
  r = .returned v ∧ Tk w' B g L i ∧ Fr (One g) w w'

theorem nx_eq (L : List Int) (i : Nat) (x m : Int) (h : L[i]? = some x) : nx L i m = around x 1000000007 % m := by
  unfold nx
  rw [h]
theorem nx_none (L : List Int) (i : Nat) (m : Int) (h : L.length ≤ i) : nx L i m = 0 := by
  unfold nx
  rw [List.getElem?_eq_none h]

set_option maxHeartbeats 1000000 in
theorem next_any (B g : Nat) (L : List Int) (i : Nat) (m : Int) (w : World) (ht : Tk w B g L i) (hi : i ≤ 1000000) (hm : 1 ≤ m) (hm' : m ≤ 1000000007) :
    Calls Tryz.prog 13 #[.pointer (some ⟨g, 0, none⟩), .int .i64 m] w (NxPost B g L (i + 1) (.int .i64 (nx L i m)) w) := by
  obtain ⟨A, c, hb, hr, hB, hl, hL⟩ := ht
  have h0 := hb.cell 0
  have h1 := hb.cell 1
  have hz := hb.frozen 1
  have hb' := hb.set 1 (.int .i64 ((i : Int) + 1))
  have hf' := (Fr.refl (One g) w).setOne 1 (.int .i64 ((i : Int) + 1))
  have ht' : Tk (w.setCell ⟨g, 1, none⟩ (.int .i64 ((i : Int) + 1))) B g L (i + 1) := ⟨A, c, hb', hr.fr hf' (fun k hk => One.not hB hk), hB, hl, hL⟩
  have k0 := hb'.cell 0
  have k1 := hb'.cell 1
  by_cases hlt : i < L.length
  · obtain ⟨x, hx⟩ : ∃ x, L[i]? = some x := ⟨_, List.getElem?_eq_getElem hlt⟩
    have hxo := hL x (List.mem_of_getElem? hx)
    have hv : Hid (nx L i m = around x 1000000007 % m) := nx_eq L i x m hx
    have hr' := hr.fr hf' (fun k hk => One.not hB hk)
    obtain ⟨b, off, hA, hbl, k2⟩ := one_at hr' hx
    subst hA
    unfold Iv at k2
    have hab := around_bd (n := x) (m := 1000000007) (by omega)
    have hge : decide ((L.length : Int) < (i : Int) + 1) = false := decide_eq_false (by omega)
    clear hx
    go_enter Tryz.func13, Tryz.ntmps13
    go_upto_region 2 with (fail)
    go_quiet (fail)
    go_upto_region 4 with (fail)
    have e1 : IntKind.i64.wrap ((i : Int) + 1 - 1) = (i : Int) := by rw [show (i : Int) + 1 - 1 = i by omega]; exact IntWalk.i64_in _ (by omega)
    have e2 : (0 : Int) ≤ i := by omega
    have e3 : (i : Int) < L.length := by omega
    have e4 : (i : Int).toNat = i := by omega
    have e5 : ¬ m = 0 := by omega
    go_quiet ((go_at_call 5; exact quiet_add_left (around_any x 1000000007 _ hxo.1 hxo.2 (by omega) (by omega))))
    go_wp2
    go_ret
    exact ⟨by rw [hv.out]; rfl, (ht'.drewN _).drewN _, (hf'.drewN _).drewN _⟩
  · have hge : decide ((L.length : Int) < (i : Int) + 1) = true := decide_eq_true (by omega)
    have hv : Hid (nx L i m = 0) := nx_none L i m (by omega)
    clear hlt
    go_enter Tryz.func13, Tryz.ntmps13
    go_upto_region 2 with (fail)
    go_quiet (fail)
    go_wp2_with (fail)
    go_ret
    exact ⟨by rw [hv.out]; rfl, ht'.drewN _, hf'.drewN _⟩

/-- The next number, below most. -/
def NumPost (B g : Nat) (L : List Int) (i : Nat) (m : Int) (w : World) (r : Ending) (w' : World) : Prop :=
  ∃ v : Int, 0 ≤ v ∧ v < m ∧ r = .returned (.int .i64 v) ∧ Tk w' B g L i ∧ Fr (One g) w w'
theorem next_e (B g : Nat) (L : List Int) (i : Nat) (m : Int) (w : World) (ht : Tk w B g L i) (hi : i ≤ 1000000) (hm : 1 ≤ m) (hm' : m ≤ 1000000007) :
    Calls Tryz.prog 13 #[.pointer (some ⟨g, 0, none⟩), .int .i64 m] w (NumPost B g L (i + 1) m w) :=
  (next_any B g L i m w ht hi hm hm').mono fun _ _ ⟨h1, h2, h3⟩ => ⟨_, (nx_bd L i hm).1, (nx_bd L i hm).2, h1, h2, h3⟩

/-- Names and boxes as the source makes them. -/
structure Id.gen (x : Id) : Prop where
  b : 1 ≤ x.b ∧ x.b ≤ 6
  s : 1 ≤ x.s ∧ x.s ≤ 9
  u : x.u < 1000000
structure Bx.gen (x : Bx) : Prop where
  t : 1 ≤ x.t ∧ x.t ≤ 1000
  e : 1 ≤ x.e ∧ x.e ≤ 1000
  y : x.y < 1000
  g : x.g < 1000
def NamePost (B g : Nat) (L : List Int) (i : Nat) (w : World) (r : Ending) (w' : World) : Prop :=
  ∃ x : Id, x.gen ∧ r = .returned (.agg #[.int .i64 x.b, .int .i64 x.s, .int .u64 (x.u : Int)]) ∧ Tk w' B g L i ∧ Fr (One g) w w'

theorem name_any (B g : Nat) (L : List Int) (i : Nat) (w : World) (ht : Tk w B g L i) (hi : i ≤ 900000) :
    Calls Tryz.prog 14 #[.pointer (some ⟨g, 0, none⟩)] w (NamePost B g L (i + 3) w) := by
  have hg := ht.lt
  have hb0 := Blk.new w 27 #[.int .i64 0, .int .i64 0, .int .u64 0]
  have nR : ¬ One g w.heap.size := by unfold One; omega
  go_enter Tryz.func14, Tryz.ntmps14
  go_wp2_with (fail)
  refine (next_e B g L i 6 _ (ht.alloc _) (by omega) (by omega) (by omega)).mono ?_
  rintro _ w1 ⟨v1, p1, q1, rfl, ht1, hf1⟩
  go_wp2_with (fail)
  refine (next_e B g L _ 9 _ ht1 (by omega) (by omega) (by omega)).mono ?_
  rintro _ w2 ⟨v2, p2, q2, rfl, ht2, hf2⟩
  go_wp2_with (fail)
  refine (next_e B g L _ 1000000 _ ht2 (by omega) (by omega) (by omega)).mono ?_
  rintro _ w3 ⟨v3, p3, q3, rfl, ht3, hf3⟩
  have hf := ((((Fr.refl (One g) w).alloc (.cells #[.int .i64 0, .int .i64 0, .int .u64 0] 27)).transOne hf1).transOne hf2).transOne hf3
  have hb := ((hb0.fr hf1 nR).fr hf2 nR).fr hf3 nR
  have c0 := hb.cell 0
  have c1 := hb.cell 1
  have c2 := hb.cell 2
  have z0 := hb.frozen 0
  have z1 := hb.frozen 1
  have z2 := hb.frozen 2
  go_wp2
  refine ret_blk (t := 27) rfl rfl (((hb.set 0 _).set 1 _).set 2 _) rfl Tryz.underlying27 (by kernel_rfl) rfl ?_
  have hfe := (((Fr.refl (One w.heap.size) w3).setOne 0 (.int .i64 (1 + v1))).setOne 1 (.int .i64 (1 + v2))).setOne 2 (.int .u64 v3)
  have hB := ht.le
  refine ⟨⟨1 + v1, 1 + v2, v3.toNat⟩, ⟨by simp; omega, by simp; omega, by simp; omega⟩, ?_, ht3.fr hfe (by unfold One; omega) (fun k hk => One.not (by omega) hk), hf.trans hfe (fun k hk e => absurd hk (by have e' : k = w.heap.size := e; omega))⟩
  rw [Int.toNat_of_nonneg p3]
  rfl

/-- So many boxes. -/
def BoxesPost (B g : Nat) (L : List Int) (i n : Nat) (w : World) (r : Ending) (w' : World) : Prop :=
  ∃ (xs : List Bx) (A : Option Addr) (c : Nat), r = .returned (.slice A n c) ∧ xs.length = n ∧ (∀ x ∈ xs, x.gen) ∧ Own w' w.heap.size 60 4 A n c (xs.flatMap Bx.cells) ∧ Tk w' B g L i ∧ Fr (One g) w w'
set_option maxHeartbeats 1000000 in
theorem boxes_any (B g : Nat) (L : List Int) (i n : Nat) (w : World) (ht : Tk w B g L i) (hn : n ≤ 1000) (hi : i ≤ 900000) :
    Calls Tryz.prog 17 #[.pointer (some ⟨g, 0, none⟩), .int .i64 (n : Int)] w (BoxesPost B g L (i + 4 * n) n w) := by
  have hg := ht.lt
  go_enter Tryz.func17, Tryz.ntmps17
  go_wp2
  go_loopw [5, 6] (fun s v wr => ∃ (k : Nat) (A : Option Addr) (c : Nat) (xs : List Bx), v = .int .i64 (k : Int) ∧ s = .slice A k c ∧ Hid (xs.length = k) ∧ k ≤ n ∧ Hid (∀ x ∈ xs, x.gen) ∧
    Own wr w.heap.size 60 4 A k c (xs.flatMap Bx.cells) ∧ Tk wr B g L (i + 4 * k) ∧ Fr (One g) w wr) (fun _ v _ => n - (intOf v).toNat)
  case atStart => exact ⟨0, none, 0, [], rfl, rfl, rfl, by omega, (fun _ h => by cases h), Own.nil _ _ _ _, ht, Fr.refl _ _⟩
  case round =>
    obtain ⟨k, A, c, xs, rfl, rfl, hl, hk, hgen, hown, htk, hf⟩ := hrel
    by_cases hlt : k < n
    · have hs := hf.size
      have hne : ∀ j, rowOf A = some j → ¬ One g j := fun j hj e => by have := (hown.row j hj).1; have e' : j = g := e; omega
      go_wp2_with (fail)
      refine (next_e B g L _ 1000 _ htk (by omega) (by omega) (by omega)).mono ?_
      rintro _ w1 ⟨v1, p1, q1, rfl, ht1, hf1⟩
      go_wp2_with (fail)
      refine (next_e B g L _ 1000 _ ht1 (by omega) (by omega) (by omega)).mono ?_
      rintro _ w2 ⟨v2, p2, q2, rfl, ht2, hf2⟩
      go_wp2_with (fail)
      refine (next_e B g L _ 1000 _ ht2 (by omega) (by omega) (by omega)).mono ?_
      rintro _ w3 ⟨v3, p3, q3, rfl, ht3, hf3⟩
      go_wp2_with (fail)
      refine (next_e B g L _ 1000 _ ht3 (by omega) (by omega) (by omega)).mono ?_
      rintro _ w4 ⟨v4, p4, q4, rfl, ht4, hf4⟩
      have hf14 := ((hf1.transOne hf2).transOne hf3).transOne hf4
      have ho4 := hown.fr hf14 hne
      have hs4 := hf14.size
      have hrd1 := Rd.blk (n := 1) (size := 4) (Blk.new w4 60 #[.int .u64 (1 + v1), .int .u64 (1 + v2), .int .u64 v3, .int .u64 v4]) rfl
      go_wp2_with (first | (at_builtin; go_loud (refine wpList_app (.tmp 12) (.tmp 28) 30 rfl rfl rfl rfl slBx (ho4.alloc _) hrd1 (by simp [Value.oneCell']) (by omega) (by omega) (by simp; omega) ?_); intro A2 c2 w5 hown2 hf5 hat2))
      have hrow : ∀ j, rowOf A = some j → w.heap.size ≤ j := fun j hj => (hown.row j hj).1
      have hB := ht.le
      have ht5 := (ht4.alloc (.cells #[.int .u64 (1 + v1), .int .u64 (1 + v2), .int .u64 v3, .int .u64 v4] 60)).fr hf5 (fun e => by have := hrow _ e; omega) (fun j hj e => by have := hrow j e; omega)
      have hfe : Fr (One g) w w5 := ((hf.transOne hf14).alloc (.cells #[.int .u64 (1 + v1), .int .u64 (1 + v2), .int .u64 v3, .int .u64 v4] 60)).trans hf5 (fun j hj e => by have := hrow j e; omega)
      have hl' : Hid ((xs ++ [(⟨(1 + v1).toNat, (1 + v2).toNat, v3.toNat, v4.toNat⟩ : Bx)]).length = k + 1) := by show _ = _; rw [List.length_append, hl.out]; rfl
      have hg' : Hid (∀ x ∈ xs ++ [(⟨(1 + v1).toNat, (1 + v2).toNat, v3.toNat, v4.toNat⟩ : Bx)], x.gen) := by
        intro x hx
        rcases List.mem_append.1 hx with hx | hx
        · exact hgen.out x hx
        · rw [List.mem_singleton.1 hx]
          exact ⟨by simp; omega, by simp; omega, by simp; omega, by simp; omega⟩
      go_roundw
      case rel =>
        refine ⟨k + 1, A2, c2, _, by go_num, rfl, hl', by omega, hg', ?_, ht5, hfe⟩
        rw [List.flatMap_append, List.flatMap_cons, List.flatMap_nil, List.append_nil]
        have e : Bx.cells ⟨(1 + v1).toNat, (1 + v2).toNat, v3.toNat, v4.toNat⟩ = [.int .u64 (1 + v1), .int .u64 (1 + v2), .int .u64 v3, .int .u64 v4] := by
          unfold Bx.cells
          rw [Int.toNat_of_nonneg (by omega), Int.toNat_of_nonneg (by omega), Int.toNat_of_nonneg p3, Int.toNat_of_nonneg p4]
        rw [e]
        exact hown2
      case measure => simp [intOf]; omega
    · obtain rfl : k = n := by omega
      go_wp2
      go_ret
      exact ⟨xs, A, c, rfl, hl.out, hgen.out, hown, htk, hf⟩

/-- So many bytes. -/
def FewPost (B g : Nat) (L : List Int) (i n : Nat) (w : World) (r : Ending) (w' : World) : Prop :=
  ∃ (bs : List UInt8) (A : Option Addr) (c : Nat), r = .returned (.slice A n c) ∧ bs.length = n ∧ Own w' w.heap.size 5 1 A n c (bs.map Bv) ∧ Tk w' B g L i ∧ Fr (One g) w w'
set_option maxHeartbeats 1000000 in
theorem tbytes_any (B g : Nat) (L : List Int) (i n : Nat) (w : World) (ht : Tk w B g L i) (hn : n ≤ 1000) (hi : i ≤ 900000) :
    Calls Tryz.prog 18 #[.pointer (some ⟨g, 0, none⟩), .int .i64 (n : Int)] w (FewPost B g L (i + n) n w) := by
  have hg := ht.lt
  go_enter Tryz.func18, Tryz.ntmps18
  go_wp2
  go_loopw [5, 6] (fun s v wr => ∃ (k : Nat) (A : Option Addr) (c : Nat) (bs : List UInt8), v = .int .i64 (k : Int) ∧ s = .slice A k c ∧ Hid (bs.length = k) ∧ k ≤ n ∧
    Own wr w.heap.size 5 1 A k c (bs.map Bv) ∧ Tk wr B g L (i + k) ∧ Fr (One g) w wr) (fun _ v _ => n - (intOf v).toNat)
  case atStart => exact ⟨0, none, 0, [], rfl, rfl, rfl, by omega, Own.nil _ _ _ _, ht, Fr.refl _ _⟩
  case round =>
    obtain ⟨k, A, c, bs, rfl, rfl, hl, hk, hown, htk, hf⟩ := hrel
    by_cases hlt : k < n
    · have hs := hf.size
      have hne : ∀ j, rowOf A = some j → ¬ One g j := fun j hj e => by have := (hown.row j hj).1; have e' : j = g := e; omega
      go_wp2_with (fail)
      refine (next_e B g L _ 256 _ htk (by omega) (by omega) (by omega)).mono ?_
      rintro _ w1 ⟨v1, p1, q1, rfl, ht1, hf1⟩
      have ho1 := hown.fr hf1 hne
      have hs1 := hf1.size
      have hrd1 := Rd.blk (n := 1) (size := 1) (Blk.new w1 5 #[.int .u8 v1]) rfl
      go_wp2_with (first | (at_builtin; go_loud (refine wpList_app (.tmp 12) (.tmp 16) 28 rfl rfl rfl rfl slB (ho1.alloc _) hrd1 (by simp [Value.oneCell']) (by omega) (by omega) (by simp; omega) ?_); intro A2 c2 w5 hown2 hf5 hat2))
      have hrow : ∀ j, rowOf A = some j → w.heap.size ≤ j := fun j hj => (hown.row j hj).1
      have hB := ht.le
      have ht5 := (ht1.alloc (.cells #[.int .u8 v1] 5)).fr hf5 (fun e => by have := hrow _ e; omega) (fun j hj e => by have := hrow j e; omega)
      have hfe : Fr (One g) w w5 := ((hf.transOne hf1).alloc (.cells #[.int .u8 v1] 5)).trans hf5 (fun j hj e => by have := hrow j e; omega)
      have hl' : Hid ((bs ++ [UInt8.ofNat v1.toNat]).length = k + 1) := by show _ = _; rw [List.length_append, hl.out]; rfl
      go_roundw
      case rel =>
        refine ⟨k + 1, A2, c2, _, by go_num, rfl, hl', by omega, ?_, ht5, hfe⟩
        have e : (bs ++ [UInt8.ofNat v1.toNat]).map Bv = bs.map Bv ++ [.int .u8 v1] := by
          rw [List.map_append]
          congr 1
          unfold Bv
          rw [List.map_cons, UInt8.toNat_ofNat', Nat.mod_eq_of_lt (by omega), Int.toNat_of_nonneg p1]
          rfl
        rw [e]
        exact hown2
      case measure => simp [intOf]; omega
    · obtain rfl : k = n := by omega
      go_wp2
      go_ret
      exact ⟨bs, A, c, rfl, hl.out, hown, htk, hf⟩
end Oq
end Go.Proofs.YtahcddlgghipjaaGreatDoor
