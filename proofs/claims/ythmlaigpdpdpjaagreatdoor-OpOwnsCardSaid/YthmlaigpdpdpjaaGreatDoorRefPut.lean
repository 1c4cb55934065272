/-
  The reference of layer 11: the bytes of an operation (ints, nums, boxes, Bytes, Put, SameOp).
  Conditions: the operation reads; numbers are of their kinds; lists are not too long.
-/
import Derived.Test.YthmlaigpdpdpjaaGreatDoorOpPutB
import Derived.Test.YthmlaigpdpdpjaaGreatDoorRef04W
namespace Go.Proofs.YthmlaigpdpdpjaaGreatDoor
open Go.RowKit
attribute [local go_sem ↓] Go.wp_at_zero Go.wp_at_succ
namespace Oq

/-- Bytes that are gathered in a variable, from world w0 on: at most K. -/
structure Acc (w0 w : World) (A : Option Addr) (c L K : Nat) (D : List UInt8) : Prop where
  own : Own w w0.heap.size 5 1 A L c (D.map Bv)
  fr : Fr Non w0 w
  le : L ≤ K
section
variable {w0 w w' : World} {A : Option Addr} {c L K : Nat} {D : List UInt8}
theorem Acc.len (h : Acc w0 w A c L K D) : L = D.length := by have := h.own.len; simpa using this.symm
theorem Acc.nil (w : World) : Acc w w none 0 0 0 [] := ⟨Own.nil _ _ _ _, Fr.refl _ _, Nat.le_refl _⟩
theorem Acc.step (h : Acc w0 w A c L K D) (hf : Fr Non w w') : Acc w0 w' A c L K D := ⟨h.own.fr hf (fun _ _ e => e), h.fr.trans hf (fun _ _ e => e), h.le⟩
theorem Acc.more (h : Acc w0 w A c L K D) {K' : Nat} (hK : K ≤ K') : Acc w0 w A c L K' D := ⟨h.own, h.fr, Nat.le_trans h.le hK⟩
theorem Acc.of_new {X : List UInt8} (hown : Own w' w.heap.size 5 1 A X.length c (X.map Bv)) (hf : Fr Non w w') (hX : X.length ≤ K) : Acc w w' A c X.length K X := ⟨hown, hf, hX⟩
theorem Acc.post {w1 : World} (h : Acc w0 w A c L K D) (hf : Fr Non w1 w0) {D' : List UInt8} (e : D' = D) : NewB w1 D' (.returned (.slice A L c)) w := by
  subst e
  have hl := h.len
  subst hl
  exact ⟨A, c, rfl, h.own.lower hf.size, hf.trans h.fr (fun _ _ e => e)⟩
end
theorem wpList_acc {P : Program} {ops : Array Oper} {rest : List Oper} {o : Oper} {a : Act} {Q : Exit → Act → World → Prop} {w0 w : World} (s x : Operand) (t : TypeId) (hgd : o.guard = none)
    (ho : o.op = .call { callee := .builtin .append, args := #[s, x], argTypes := #[t, t] })
    {c L K cx base : Nat} {A Ax : Option Addr} {D X : List UInt8} (Kx : Nat)
    (hs : a.eval s = .slice A L c) (hx : a.eval x = .slice Ax X.length cx) (hT : SlT P t 5 (.int .u8 0) 1 1) (h : Acc w0 w A c L K D) (hr : Own w base 5 1 Ax X.length cx (X.map Bv)) (hX : X.length ≤ Kx) (hK : K + Kx ≤ 1099511627776)
    (hk : ∀ A' c' L' w', Acc w0 w' A' c' L' (K + Kx) (D ++ X) → wpList P ops Q rest (a.put o.dst (.slice A' L' c')) w') : wpList P ops Q (o :: rest) a w := by
  have hle := h.le
  refine wpList_app s x t hgd ho hs hx hT h.own hr.rd (Bv_one _) (by omega) (by omega) h.fr.size ?_
  intro A' c' w' hown hf _
  rw [← List.map_append] at hown
  exact hk A' c' _ w' ⟨hown, h.fr.trans hf (h.own.notNon (Nat.le_refl _)), by omega⟩
theorem step_acc {P : Program} {ops : Array Oper} {o : Oper} {a : Act} {Kt : Act → World → Prop} {Q : Exit → Act → World → Prop} {E : Prop} {w0 w : World} (s x : Operand) (t : TypeId) (hgd : o.guard = none)
    (ho : o.op = .call { callee := .builtin .append, args := #[s, x], argTypes := #[t, t] })
    {c L K cx base : Nat} {A Ax : Option Addr} {D X : List UInt8} (Kx : Nat)
    (hs : a.eval s = .slice A L c) (hx : a.eval x = .slice Ax X.length cx) (hT : SlT P t 5 (.int .u8 0) 1 1) (h : Acc w0 w A c L K D) (hr : Own w base 5 1 Ax X.length cx (X.map Bv)) (hX : X.length ≤ Kx) (hK : K + Kx ≤ 1099511627776)
    (hk : ∀ A' c' L' w', Acc w0 w' A' c' L' (K + Kx) (D ++ X) → Fr Non w0 w' → Kt (a.put o.dst (.slice A' L' c')) w') :
    if Region.wanted o (yielded ops a.tmps) = true then Oper.wp P o a w Kt Q else E := by
  have hle := h.le
  refine step_app s x t hgd ho hs hx hT h.own hr.rd (Bv_one _) (by omega) (by omega) h.fr.size ?_
  intro A' c' w' hown hf _
  rw [← List.map_append] at hown
  have hff := h.fr.trans hf (h.own.notNon (Nat.le_refl _))
  exact hk A' c' _ w' ⟨hown, hff, by omega⟩ hff

set_option maxRecDepth 100000 in
set_option maxHeartbeats 1000000 in
theorem ints11_any (B n cl : Nat) (Al : Option Addr) (l : List Int) (w : World) (hn : Hid (l.length = n)) (hr : Rd w B 1 Al n (l.map Iv)) (hok : ∀ x ∈ l, I64 x) (hn1 : n ≤ 100000) :
    Calls Tryz.prog 72 #[.slice Al n cl] w (NewB w (l.flatMap Pk.int)) := by
  go_enter Tryz.func72, Tryz.ntmps72
  go_wp2
  go_loopw [3, 4] (fun s v wr => ∃ (i : Nat) (A : Option Addr) (c L : Nat), v = .int .i64 (i : Int) ∧ s = .slice A L c ∧ i ≤ n ∧ Acc w wr A c L (10 * i) ((l.take i).flatMap Pk.int)) (fun _ v _ => n - (intOf v).toNat)
  case atStart => exact ⟨0, none, 0, 0, rfl, rfl, by omega, Acc.nil w⟩
  case round =>
    obtain ⟨i, A, c, L, rfl, rfl, hin, hac⟩ := hrel
    by_cases hlt : i < n
    · obtain ⟨x, hx⟩ : ∃ x, l[i]? = some x := ⟨_, List.getElem?_eq_getElem (by rw [hn.out]; exact hlt)⟩
      have hxo := hok x (List.mem_of_getElem? hx)
      obtain ⟨b, off, rfl, hb, k0⟩ := one_at (hr.fr hac.fr (fun _ _ e => e)) hx
      unfold Iv at k0
      have hx' := Lib.hid hx
      clear hx
      have hxl := Pk.int_len x
      go_wp2_with (fail)
      refine (number04_any x _ hxo.1 hxo.2).mono ?_
      rintro _ w1 ⟨A1, c1, rfl, hown1, hf1⟩
      have hac1 := hac.step hf1
      go_wp2_with (first | (at_builtin; go_loud (refine wpList_acc (.tmp 11) (.tmp 16) 28 rfl rfl 10 rfl rfl slB hac1 hown1 hxl (by omega) ?_); intro A2 c2 L2 w2 hac2))
      go_roundw
      case rel => exact ⟨i + 1, A2, c2, L2, by go_num, rfl, by omega, by rw [lst_snoc _ l hx'.out, Nat.mul_add]; exact hac2⟩
      case measure => simp [intOf]; omega
    · have hi : i = n := by omega
      subst hi
      go_wp2
      go_ret
      refine hac.post (Fr.refl _ _) ?_
      rw [List.take_of_length_le (by rw [hn.out]; omega)]

set_option maxRecDepth 100000 in
set_option maxHeartbeats 1000000 in
theorem nums11_any (B n cl : Nat) (Al : Option Addr) (l : List Nat) (w : World) (hn : Hid (l.length = n)) (hr : Rd w B 1 Al n (l.map Uv)) (hok : ∀ x ∈ l, U64 x) (hn1 : n ≤ 100000) :
    Calls Tryz.prog 43 #[.slice Al n cl] w (NewB w (l.flatMap Pk.num)) := by
  go_enter Tryz.func43, Tryz.ntmps43
  go_wp2
  go_loopw [3, 4] (fun s v wr => ∃ (i : Nat) (A : Option Addr) (c L : Nat), v = .int .i64 (i : Int) ∧ s = .slice A L c ∧ i ≤ n ∧ Acc w wr A c L (10 * i) ((l.take i).flatMap Pk.num)) (fun _ v _ => n - (intOf v).toNat)
  case atStart => exact ⟨0, none, 0, 0, rfl, rfl, by omega, Acc.nil w⟩
  case round =>
    obtain ⟨i, A, c, L, rfl, rfl, hin, hac⟩ := hrel
    by_cases hlt : i < n
    · obtain ⟨x, hx⟩ : ∃ x, l[i]? = some x := ⟨_, List.getElem?_eq_getElem (by rw [hn.out]; exact hlt)⟩
      have hxo := hok x (List.mem_of_getElem? hx)
      obtain ⟨b, off, rfl, hb, k0⟩ := one_at (hr.fr hac.fr (fun _ _ e => e)) hx
      unfold Uv at k0
      have hx' := Lib.hid hx
      clear hx
      have hxl := Pk.num_len x
      go_wp2_with (fail)
      refine (num04_any x _ hxo).mono ?_
      rintro _ w1 ⟨A1, c1, rfl, hown1, hf1⟩
      have hac1 := hac.step hf1
      go_wp2_with (first | (at_builtin; go_loud (refine wpList_acc (.tmp 11) (.tmp 16) 28 rfl rfl 10 rfl rfl slB hac1 hown1 hxl (by omega) ?_); intro A2 c2 L2 w2 hac2))
      go_roundw
      case rel => exact ⟨i + 1, A2, c2, L2, by go_num, rfl, by omega, by rw [lst_snoc _ l hx'.out, Nat.mul_add]; exact hac2⟩
      case measure => simp [intOf]; omega
    · have hi : i = n := by omega
      subst hi
      go_wp2
      go_ret
      refine hac.post (Fr.refl _ _) ?_
      rw [List.take_of_length_le (by rw [hn.out]; omega)]

theorem Uv_blk {w : World} {k : Nat} {l : List Nat} (h : Blk w k 25 (l.map Uv).toArray) (n : Nat) (hn : l.length = n) : Rd w w.heap.size 1 (some ⟨k, 0, none⟩) n (l.map Uv) := by
  refine ⟨by simp [hn], .inr ⟨k, 0, rfl, h.lt, fun j u hu => ?_⟩⟩
  rw [Nat.zero_add, h.cell j, List.getElem?_toArray]
  exact hu
theorem Iv_blk {w : World} {k : Nat} {l : List Int} (h : Blk w k 3 (l.map Iv).toArray) (n : Nat) (hn : l.length = n) : Rd w w.heap.size 1 (some ⟨k, 0, none⟩) n (l.map Iv) := by
  refine ⟨by simp [hn], .inr ⟨k, 0, rfl, h.lt, fun j u hu => ?_⟩⟩
  rw [Nat.zero_add, h.cell j, List.getElem?_toArray]
  exact hu
theorem bx_flat (x : Bx) : [x.t, x.e, x.y, x.g].flatMap Pk.num = x.bytes := by unfold Bx.bytes; simp [List.flatMap_cons]

theorem bxnums_any (x : Bx) (hx : x.ok) (w : World) (k : Nat) (h : Blk w k 25 #[.int .u64 (x.t : Int), .int .u64 (x.e : Int), .int .u64 (x.y : Int), .int .u64 (x.g : Int)]) : Calls Tryz.prog 43 #[.slice (some ⟨k, 0, none⟩) 4 4] w (NewB w x.bytes) := by
  rw [← bx_flat x]
  exact nums11_any w.heap.size 4 4 _ [x.t, x.e, x.y, x.g] _ rfl (Uv_blk h 4 rfl) (all4 hx.1 hx.2.1 hx.2.2.1 hx.2.2.2) (by omega)

set_option maxRecDepth 100000 in
set_option maxHeartbeats 2000000 in
theorem boxes11_any (B n cl : Nat) (Al : Option Addr) (l : List Bx) (w : World) (hn : Hid (l.length = n)) (hr : Rd w B 4 Al n (l.flatMap Bx.cells)) (hok : ∀ x ∈ l, x.ok) (hn1 : n ≤ 100000) :
    Calls Tryz.prog 75 #[.slice Al n cl] w (NewB w (lst Bx.bytes l)) := by
  go_enter Tryz.func75, Tryz.ntmps75
  go_wp2_with (fail)
  refine (number04_any (n : Int) _ (by omega) (by omega)).mono ?_
  rintro _ w0 ⟨A0, c0, rfl, hown0, hf0⟩
  have hil := Pk.int_len (n : Int)
  have hac0 : Acc w w0 A0 c0 (Pk.int (n : Int)).length 10 (Pk.int (n : Int)) := Acc.of_new hown0 hf0 hil
  go_wp2
  go_loopw [3, 4] (fun s v wr => ∃ (i : Nat) (A : Option Addr) (c L : Nat), v = .int .i64 (i : Int) ∧ s = .slice A L c ∧ i ≤ n ∧ Acc w wr A c L (10 + 40 * i) (Pk.int (n : Int) ++ (l.take i).flatMap Bx.bytes)) (fun _ v _ => n - (intOf v).toNat)
  case atStart => exact ⟨0, A0, c0, _, rfl, rfl, by omega, by simpa using hac0⟩
  case round =>
    obtain ⟨i, A, c, L, rfl, rfl, hin, hac⟩ := hrel
    by_cases hlt : i < n
    · obtain ⟨x, hx⟩ : ∃ x, l[i]? = some x := ⟨_, List.getElem?_eq_getElem (by rw [hn.out]; exact hlt)⟩
      have kn := Lib.hid (bxnums_any x (hok x (List.mem_of_getElem? hx)) (wr.alloc (.cells #[.int .u64 (x.t : Int), .int .u64 (x.e : Int), .int .u64 (x.y : Int), .int .u64 (x.g : Int)] 25)).drew _ (Blk.new wr 25 _).drew)
      obtain ⟨b, off, rfl, hb, z0, z1, z2, z3⟩ := Bx.at hr hx
      have k0 := hac.fr.cell z0 (fun e => e)
      have k1 := hac.fr.cell z1 (fun e => e)
      have k2 := hac.fr.cell z2 (fun e => e)
      have k3 := hac.fr.cell z3 (fun e => e)
      have hx' := Lib.hid hx
      clear hx
      have hxl := Bx.bytes_len x
      have hlt' : (i : Int) < (n : Int) := by omega
      have hi0 : (0 : Int) ≤ (i : Int) := by omega
      have n0 := World.new_ne wr ⟨b, off + i * 4, none⟩ (by rw [k0])
      have n1 := World.new_ne wr ⟨b, off + i * 4 + 1, none⟩ (by rw [k1])
      have n2 := World.new_ne wr ⟨b, off + i * 4 + 2, none⟩ (by rw [k2])
      have n3 := World.new_ne wr ⟨b, off + i * 4 + 3, none⟩ (by rw [k3])
      go_wp2_with (fail)
      go_region_held3 (fun w' => w'.cell? ⟨b, off + i * 4, none⟩ = some (.int .u64 (x.t : Int)) ∧ w'.cell? ⟨b, off + i * 4 + 1, none⟩ = some (.int .u64 (x.e : Int)) ∧ w'.cell? ⟨b, off + i * 4 + 2, none⟩ = some (.int .u64 (x.y : Int)) ∧ w'.cell? ⟨b, off + i * 4 + 3, none⟩ = some (.int .u64 (x.g : Int))) (go_keep) (first
        | ((refine step_acc (.tmp 14) (.tmp 36) 28 (by rfl) (by rfl) 40 (by rfl) (by rfl) slB hac1 hown1 hxl (by omega) ?_; intro A3 c3 L3 w3 hac3 hf3; have ca := hf3.cell z0 (fun e => e); have cb := hf3.cell z1 (fun e => e); have cc := hf3.cell z2 (fun e => e); have cd := hf3.cell z3 (fun e => e)))
        | (go_at_call 43; (with_reducible refine kn.out.mono ?_); rintro _ w1 ⟨A1, c1, rfl, hown1, hf1⟩; have hac1 := (hac.step ((Fr.refl _ _).alloc _).drew).step hf1; have ya := hf1.cell (((Fr.refl Non wr).alloc _).cell k0 (fun e => e)) (fun e => e); have yb := hf1.cell (((Fr.refl Non wr).alloc _).cell k1 (fun e => e)) (fun e => e); have yc := hf1.cell (((Fr.refl Non wr).alloc _).cell k2 (fun e => e)) (fun e => e); have yd := hf1.cell (((Fr.refl Non wr).alloc _).cell k3 (fun e => e)) (fun e => e)))
      go_wp2
      go_roundw
      case rel => exact ⟨i + 1, A3, c3, L3, by go_num, rfl, by omega, by rw [lst_snoc _ l hx'.out, ← List.append_assoc, Nat.mul_add, ← Nat.add_assoc]; exact hac3⟩
      case measure => simp [intOf]; omega
    · have hi : i = n := by omega
      subst hi
      go_wp2
      go_ret
      refine hac.post (Fr.refl _ _) ?_
      unfold lst
      rw [List.take_of_length_le (by rw [hn.out]; omega), hn.out]
end Oq
end Go.Proofs.YthmlaigpdpdpjaaGreatDoor
