/-
  op.put at its instances, and the closures of op.bare: what each writes.
  Conditions: the Out lies in blocks of its own from B on, the lists below B; numbers are of their kinds.
-/
import Derived.Test.YtahcddlgghipjaaGreatDoorOpMem
import Derived.Test.YtahcddlgghipjaaGreatDoorPackOut
namespace Go.Proofs.YtahcddlgghipjaaGreatDoor
open Go.RowKit
attribute [local go_sem ↓] Go.wp_at_zero Go.wp_at_succ
namespace Oq

theorem lst_snoc {α : Type} (enc : α → List UInt8) (l : List α) {k : Nat} {x : α} (h : l[k]? = some x) : (l.take (k + 1)).flatMap enc = (l.take k).flatMap enc ++ enc x := by
  obtain ⟨hk, rfl⟩ := List.getElem?_eq_some_iff.1 h
  rw [List.take_succ_eq_append_getElem hk, List.flatMap_append, List.flatMap_cons, List.flatMap_nil, List.append_nil]
theorem flat_le {α : Type} {enc : α → List UInt8} {K : Nat} (l : List α) (h : ∀ x ∈ l, (enc x).length ≤ K) : (l.flatMap enc).length ≤ K * l.length := by
  induction l with
  | nil => simp
  | cons x l ih =>
    have h1 := h x (by simp)
    have h2 := ih (fun y hy => h y (by simp [hy]))
    rw [List.flatMap_cons, List.length_append, List.length_cons, Nat.mul_add]
    omega
theorem lst_le {α : Type} {enc : α → List UInt8} {K : Nat} (l : List α) (h : ∀ x ∈ l, (enc x).length ≤ K) : (lst enc l).length ≤ 10 + K * l.length := by
  unfold lst
  rw [List.length_append]
  have h1 := Pk.int_len l.length
  have h2 := flat_le l h
  omega
theorem Id.bytes_len (x : Id) : x.bytes.length ≤ 30 := Pk.ident_len _ _ _
theorem Bx.bytes_len (x : Bx) : x.bytes.length ≤ 40 := by
  unfold Bx.bytes
  simp only [List.length_append]
  have h1 := Pk.num_len x.t
  have h2 := Pk.num_len x.e
  have h3 := Pk.num_len x.y
  have h4 := Pk.num_len x.g
  omega
theorem Nd.bytes_len (x : Nd) (h : x.ok) : x.bytes.length ≤ 40020 := by
  unfold Nd.bytes
  rw [List.length_append]
  have h1 := Pk.num_len x.p
  have h2 := lst_le x.xs (fun y _ => Bx.bytes_len y)
  have h3 := h.2.1
  omega
theorem Sl.bytes_len (x : Sl) (h : x.y.length ≤ 1000000) : x.bytes.length ≤ 1000040 := by
  unfold Sl.bytes
  rw [List.length_append]
  have h1 := Id.bytes_len x.f
  have h2 := Pk.text_len x.y
  omega

/-- Element k of a slice whose elements are of `size` cells. -/
theorem el_at {α : Type} {f : α → List Value} {size : Nat} {w : World} {B n : Nat} {A : Option Addr} {l : List α} (hlen : ∀ x, (f x).length = size) (hs : 0 < size) (h : Rd w B size A n (l.flatMap f)) {k : Nat} {o : α} (hk : l[k]? = some o) :
    ∃ b off, A = some ⟨b, off, none⟩ ∧ b < B ∧ ∀ j, j < size → ∀ u, (f o)[j]? = some u → w.cell? ⟨b, off + k * size + j, none⟩ = some u := by
  have hl := h.1
  rw [flat_len hlen] at hl
  have hkl := (List.getElem?_eq_some_iff.1 hk).1
  have hle : l.length = n := Nat.eq_of_mul_eq_mul_right hs hl
  obtain ⟨b, off, e, hb, hc⟩ := h.cells (k := k) (by omega)
  exact ⟨b, off, e, hb, fun j hj u hu => hc j hj u (by rw [flat_get (f := f) hlen l k j o hk hj]; exact hu)⟩
theorem Id.at {w : World} {B n : Nat} {A : Option Addr} {l : List Id} (h : Rd w B 3 A n (l.flatMap Id.cells)) {k : Nat} {o : Id} (hk : l[k]? = some o) :
    ∃ b off, A = some ⟨b, off, none⟩ ∧ b < B ∧ w.cell? ⟨b, off + k * 3, none⟩ = some (.int .i64 o.b) ∧ w.cell? ⟨b, off + k * 3 + 1, none⟩ = some (.int .i64 o.s) ∧ w.cell? ⟨b, off + k * 3 + 2, none⟩ = some (.int .u64 (o.u : Int)) := by
  obtain ⟨b, off, e, hb, hc⟩ := el_at (f := Id.cells) (fun _ => rfl) (by omega) h hk
  exact ⟨b, off, e, hb, hc 0 (by omega) _ rfl, hc 1 (by omega) _ rfl, hc 2 (by omega) _ rfl⟩
theorem Bx.at {w : World} {B n : Nat} {A : Option Addr} {l : List Bx} (h : Rd w B 4 A n (l.flatMap Bx.cells)) {k : Nat} {o : Bx} (hk : l[k]? = some o) :
    ∃ b off, A = some ⟨b, off, none⟩ ∧ b < B ∧ w.cell? ⟨b, off + k * 4, none⟩ = some (.int .u64 (o.t : Int)) ∧ w.cell? ⟨b, off + k * 4 + 1, none⟩ = some (.int .u64 (o.e : Int)) ∧ w.cell? ⟨b, off + k * 4 + 2, none⟩ = some (.int .u64 (o.y : Int)) ∧ w.cell? ⟨b, off + k * 4 + 3, none⟩ = some (.int .u64 (o.g : Int)) := by
  obtain ⟨b, off, e, hb, hc⟩ := el_at (f := Bx.cells) (fun _ => rfl) (by omega) h hk
  exact ⟨b, off, e, hb, hc 0 (by omega) _ rfl, hc 1 (by omega) _ rfl, hc 2 (by omega) _ rfl, hc 3 (by omega) _ rfl⟩
theorem NdL.el {w : World} {B n : Nat} {A : Option Addr} {l : List NdL} (h : Rd w B 2 A n (l.flatMap NdL.cells)) {k : Nat} {o : NdL} (hk : l[k]? = some o) :
    ∃ b off, A = some ⟨b, off, none⟩ ∧ b < B ∧ w.cell? ⟨b, off + k * 2, none⟩ = some (.int .u64 (o.p : Int)) ∧ w.cell? ⟨b, off + k * 2 + 1, none⟩ = some (.slice o.A o.xs.length o.c) := by
  obtain ⟨b, off, e, hb, hc⟩ := el_at (f := NdL.cells) (fun _ => rfl) (by omega) h hk
  exact ⟨b, off, e, hb, hc 0 (by omega) _ rfl, hc 1 (by omega) _ rfl⟩
theorem SlL.el {w : World} {B n : Nat} {A : Option Addr} {l : List SlL} (h : Rd w B 4 A n (l.flatMap SlL.cells)) {k : Nat} {o : SlL} (hk : l[k]? = some o) :
    ∃ b off, A = some ⟨b, off, none⟩ ∧ b < B ∧ w.cell? ⟨b, off + k * 4, none⟩ = some (.int .i64 o.f.b) ∧ w.cell? ⟨b, off + k * 4 + 1, none⟩ = some (.int .i64 o.f.s) ∧ w.cell? ⟨b, off + k * 4 + 2, none⟩ = some (.int .u64 (o.f.u : Int)) ∧ w.cell? ⟨b, off + k * 4 + 3, none⟩ = some (.slice o.A o.y.length o.c) := by
  obtain ⟨b, off, e, hb, hc⟩ := el_at (f := SlL.cells) (fun _ => rfl) (by omega) h hk
  exact ⟨b, off, e, hb, hc 0 (by omega) _ rfl, hc 1 (by omega) _ rfl, hc 2 (by omega) _ rfl, hc 3 (by omega) _ rfl⟩
theorem one_at {α : Type} {f : α → Value} {w : World} {B n : Nat} {A : Option Addr} {l : List α} (h : Rd w B 1 A n (l.map f)) {k : Nat} {o : α} (hk : l[k]? = some o) :
    ∃ b off, A = some ⟨b, off, none⟩ ∧ b < B ∧ w.cell? ⟨b, off + k, none⟩ = some (f o) := by
  have hkl := (List.getElem?_eq_some_iff.1 hk).1
  have hl := h.1
  simp at hl
  obtain ⟨b, off, u, e, hb, hx, hc⟩ := h.at (k := k) (by omega)
  rw [List.getElem?_map, hk] at hx
  injection hx with hx
  exact ⟨b, off, e, hb, by rw [hc, ← hx]⟩

set_option maxRecDepth 100000 in
set_option maxHeartbeats 1000000 in
theorem putId_any (B g : Nat) (A0 : Option Addr) (c0 : Nat) (bs : List UInt8) (l : List Id) (Al : Option Addr) (n cl : Nat) (w : World) (ho : OutAt w B g A0 c0 bs) (hn : Hid (l.length = n)) (hok : ∀ x ∈ l, x.ok)
    (hr : Rd w B 3 Al n (l.flatMap Id.cells)) (hl : bs.length + 10 + 30 * n ≤ 1099511627690) :
    Calls Tryz.prog 98 #[.pointer (some ⟨g, 0, none⟩), .slice Al n cl, .func (.func 99) #[.pointer (some ⟨g, 0, none⟩)] #[]] w (OutPost B g A0 (bs ++ lst Id.bytes l) w) := by
  go_enter Tryz.func98, Tryz.ntmps98
  go_wp2_with (fail)
  refine (outInt_any B g A0 c0 bs (n : Int) _ ho (by omega) (by omega) (by omega)).mono ?_
  rintro _ w1 ⟨rfl, A1, c1, ho1, hst1⟩
  have hil := Pk.int_len (n : Int)
  go_wp2
  go_loopw [14] (fun v wr => ∃ (i : Nat) (A : Option Addr) (c : Nat) (D : List UInt8), v = .int .i64 (i : Int) ∧ i ≤ n ∧ Hid (D = bs ++ Pk.int (n : Int) ++ (l.take i).flatMap Id.bytes) ∧ D.length ≤ bs.length + 10 + 30 * i ∧ OutAt wr B g A c D ∧ OStep g w A0 wr A) (fun v _ => n - (intOf v).toNat)
  case atStart => exact ⟨0, A1, c1, _, rfl, by omega, by show _ = _; simp, by simp; omega, ho1, hst1⟩
  case round =>
    obtain ⟨i, A, c, D, rfl, hin, hD, hDl, hoi, hst⟩ := hrel
    by_cases hlt : i < n
    · obtain ⟨x, hx⟩ : ∃ x, l[i]? = some x := ⟨_, List.getElem?_eq_getElem (by rw [hn.out]; exact hlt)⟩
      have hxo := hok x (List.mem_of_getElem? hx)
      obtain ⟨⟨x0, x1⟩, ⟨x2, x3⟩, x4⟩ := hxo
      obtain ⟨b, off, rfl, hb, k0, k1, k2⟩ := Id.at (hr.fr hst.fr (ho.not (Nat.le_refl _))) hx
      have hxl := Id.bytes_len x
      have hx' := Lib.hid hx
      clear hx
      go_wp2_with (fail)
      refine (outIdent_any B g A c D x.b x.s x.u _ (hoi.alloc (.cells #[.int .i64 x.b, .int .i64 x.s, .int .u64 (x.u : Int)] 27)) x0 x1 x2 x3 x4 (by omega)).mono ?_
      rw [show Pk.ident x.b x.s x.u = x.bytes from rfl]
      rintro _ w2 ⟨rfl, A2, c2, ho2, hs2⟩
      go_wp2
      go_roundw
      case rel =>
        refine ⟨i + 1, A2, c2, _, by go_num, by omega, ?_, by rw [List.length_append, Nat.mul_add]; omega, ho2, (hst.alloc (.cells #[.int .i64 x.b, .int .i64 x.s, .int .u64 (x.u : Int)] 27)).trans hs2⟩
        show _ = _
        rw [hD.out, lst_snoc _ l hx'.out, ← List.append_assoc]
      case measure => simp [intOf]; omega
    · have hi : i = n := by omega
      subst hi
      go_wp2
      go_end0
      refine ⟨rfl, A, c, ?_, hst⟩
      have e : bs ++ lst Id.bytes l = D := by rw [hD.out, List.take_of_length_le (by rw [hn.out]; omega), List.append_assoc]; unfold lst; rw [hn.out]
      rw [e]
      exact hoi

set_option maxRecDepth 100000 in
set_option maxHeartbeats 1000000 in
theorem putNum_any (B g : Nat) (A0 : Option Addr) (c0 : Nat) (bs : List UInt8) (l : List Nat) (Al : Option Addr) (n cl : Nat) (w : World) (ho : OutAt w B g A0 c0 bs) (hn : Hid (l.length = n)) (hok : ∀ x ∈ l, U64 x)
    (hr : Rd w B 1 Al n (l.map Uv)) (hl : bs.length + 10 + 10 * n ≤ 1099511627690) :
    Calls Tryz.prog 104 #[.pointer (some ⟨g, 0, none⟩), .slice Al n cl, .func (.func 72) #[.pointer (some ⟨g, 0, none⟩)] #[]] w (OutPost B g A0 (bs ++ lst Pk.num l) w) := by
  go_enter Tryz.func104, Tryz.ntmps104
  go_wp2_with (fail)
  refine (outInt_any B g A0 c0 bs (n : Int) _ ho (by omega) (by omega) (by omega)).mono ?_
  rintro _ w1 ⟨rfl, A1, c1, ho1, hst1⟩
  have hil := Pk.int_len (n : Int)
  go_wp2
  go_loopw [14] (fun v wr => ∃ (i : Nat) (A : Option Addr) (c : Nat) (D : List UInt8), v = .int .i64 (i : Int) ∧ i ≤ n ∧ Hid (D = bs ++ Pk.int (n : Int) ++ (l.take i).flatMap Pk.num) ∧ D.length ≤ bs.length + 10 + 10 * i ∧ OutAt wr B g A c D ∧ OStep g w A0 wr A) (fun v _ => n - (intOf v).toNat)
  case atStart => exact ⟨0, A1, c1, _, rfl, by omega, by show _ = _; simp, by simp; omega, ho1, hst1⟩
  case round =>
    obtain ⟨i, A, c, D, rfl, hin, hD, hDl, hoi, hst⟩ := hrel
    by_cases hlt : i < n
    · obtain ⟨x, hx⟩ : ∃ x, l[i]? = some x := ⟨_, List.getElem?_eq_getElem (by rw [hn.out]; exact hlt)⟩
      have hxo := hok x (List.mem_of_getElem? hx)
      obtain ⟨b, off, rfl, hb, k0⟩ := one_at (hr.fr hst.fr (ho.not (Nat.le_refl _))) hx
      unfold Uv at k0
      have hxl := Pk.num_len x
      have hx' := Lib.hid hx
      clear hx
      go_wp2_with (fail)
      refine (outNum_any B g A c D x _ hoi hxo (by omega)).mono ?_
      rintro _ w2 ⟨rfl, A2, c2, ho2, hs2⟩
      go_wp2
      go_roundw
      case rel =>
        refine ⟨i + 1, A2, c2, _, by go_num, by omega, ?_, by rw [List.length_append, Nat.mul_add]; omega, ho2, hst.trans hs2⟩
        show _ = _
        rw [hD.out, lst_snoc _ l hx'.out, ← List.append_assoc]
      case measure => simp [intOf]; omega
    · have hi : i = n := by omega
      subst hi
      go_wp2
      go_end0
      refine ⟨rfl, A, c, ?_, hst⟩
      have e : bs ++ lst Pk.num l = D := by rw [hD.out, List.take_of_length_le (by rw [hn.out]; omega), List.append_assoc]; unfold lst; rw [hn.out]
      rw [e]
      exact hoi

set_option maxRecDepth 100000 in
set_option maxHeartbeats 1000000 in
theorem putInt_any (B g : Nat) (A0 : Option Addr) (c0 : Nat) (bs : List UInt8) (l : List Int) (Al : Option Addr) (n cl : Nat) (w : World) (ho : OutAt w B g A0 c0 bs) (hn : Hid (l.length = n)) (hok : ∀ x ∈ l, I64 x)
    (hr : Rd w B 1 Al n (l.map Iv)) (hl : bs.length + 10 + 10 * n ≤ 1099511627690) :
    Calls Tryz.prog 105 #[.pointer (some ⟨g, 0, none⟩), .slice Al n cl, .func (.func 96) #[.pointer (some ⟨g, 0, none⟩)] #[]] w (OutPost B g A0 (bs ++ lst Pk.int l) w) := by
  go_enter Tryz.func105, Tryz.ntmps105
  go_wp2_with (fail)
  refine (outInt_any B g A0 c0 bs (n : Int) _ ho (by omega) (by omega) (by omega)).mono ?_
  rintro _ w1 ⟨rfl, A1, c1, ho1, hst1⟩
  have hil := Pk.int_len (n : Int)
  go_wp2
  go_loopw [14] (fun v wr => ∃ (i : Nat) (A : Option Addr) (c : Nat) (D : List UInt8), v = .int .i64 (i : Int) ∧ i ≤ n ∧ Hid (D = bs ++ Pk.int (n : Int) ++ (l.take i).flatMap Pk.int) ∧ D.length ≤ bs.length + 10 + 10 * i ∧ OutAt wr B g A c D ∧ OStep g w A0 wr A) (fun v _ => n - (intOf v).toNat)
  case atStart => exact ⟨0, A1, c1, _, rfl, by omega, by show _ = _; simp, by simp; omega, ho1, hst1⟩
  case round =>
    obtain ⟨i, A, c, D, rfl, hin, hD, hDl, hoi, hst⟩ := hrel
    by_cases hlt : i < n
    · obtain ⟨x, hx⟩ : ∃ x, l[i]? = some x := ⟨_, List.getElem?_eq_getElem (by rw [hn.out]; exact hlt)⟩
      have hxo := hok x (List.mem_of_getElem? hx)
      obtain ⟨b, off, rfl, hb, k0⟩ := one_at (hr.fr hst.fr (ho.not (Nat.le_refl _))) hx
      unfold Iv at k0
      have hxl := Pk.int_len x
      have hx' := Lib.hid hx
      clear hx
      go_wp2_with (fail)
      refine (outInt_any B g A c D x _ hoi hxo.1 hxo.2 (by omega)).mono ?_
      rintro _ w2 ⟨rfl, A2, c2, ho2, hs2⟩
      go_wp2
      go_roundw
      case rel =>
        refine ⟨i + 1, A2, c2, _, by go_num, by omega, ?_, by rw [List.length_append, Nat.mul_add]; omega, ho2, hst.trans hs2⟩
        show _ = _
        rw [hD.out, lst_snoc _ l hx'.out, ← List.append_assoc]
      case measure => simp [intOf]; omega
    · have hi : i = n := by omega
      subst hi
      go_wp2
      go_end0
      refine ⟨rfl, A, c, ?_, hst⟩
      have e : bs ++ lst Pk.int l = D := by rw [hD.out, List.take_of_length_le (by rw [hn.out]; omega), List.append_assoc]; unfold lst; rw [hn.out]
      rw [e]
      exact hoi

/-- The closure that writes a box; gp: where it finds the Out. -/
theorem box_any (B g gp : Nat) (A : Option Addr) (c : Nat) (bs : List UInt8) (x : Bx) (w : World) (ho : OutAt w B g A c bs) (hp : Blk w gp 104 #[.pointer (some ⟨g, 0, none⟩)]) (hx : x.ok) (hl : bs.length ≤ 1099511627700) :
    Calls Tryz.prog 97 #[.agg #[.int .u64 (x.t : Int), .int .u64 (x.e : Int), .int .u64 (x.y : Int), .int .u64 (x.g : Int)], .pointer (some ⟨gp, 0, none⟩)] w (OutPost B g A (bs ++ x.bytes) w) := by
  obtain ⟨x0, x1, x2, x3⟩ := hx
  have l1 := Pk.num_len x.t
  have l2 := Pk.num_len x.e
  have l3 := Pk.num_len x.y
  have hbx := Blk.new w 60 #[.int .u64 (x.t : Int), .int .u64 (x.e : Int), .int .u64 (x.y : Int), .int .u64 (x.g : Int)]
  have k0 := hbx.cell 0
  have k1 := hbx.cell 1
  have k2 := hbx.cell 2
  have k3 := hbx.cell 3
  have ho0 := (ho.alloc (.cells #[.int .u64 (x.t : Int), .int .u64 (x.e : Int), .int .u64 (x.y : Int), .int .u64 (x.g : Int)] 60)).alloc (.cells #[.int .u64 (x.t : Int), .int .u64 (x.e : Int), .int .u64 (x.y : Int), .int .u64 (x.g : Int)] 25)
  have hp0 := (hp.alloc (.cells #[.int .u64 (x.t : Int), .int .u64 (x.e : Int), .int .u64 (x.y : Int), .int .u64 (x.g : Int)] 60)).alloc (.cells #[.int .u64 (x.t : Int), .int .u64 (x.e : Int), .int .u64 (x.y : Int), .int .u64 (x.g : Int)] 25)
  have hs0 := ((OStep.refl g w A).alloc (.cells #[.int .u64 (x.t : Int), .int .u64 (x.e : Int), .int .u64 (x.y : Int), .int .u64 (x.g : Int)] 60)).alloc (.cells #[.int .u64 (x.t : Int), .int .u64 (x.e : Int), .int .u64 (x.y : Int), .int .u64 (x.g : Int)] 25)
  have hn0 := Blk.new (w.alloc (.cells #[.int .u64 (x.t : Int), .int .u64 (x.e : Int), .int .u64 (x.y : Int), .int .u64 (x.g : Int)] 60)) 25 #[.int .u64 (x.t : Int), .int .u64 (x.e : Int), .int .u64 (x.y : Int), .int .u64 (x.g : Int)]
  rw [World.size_alloc] at hn0
  go_enter Tryz.func97, Tryz.ntmps97
  go_wp2
  generalize (w.alloc (.cells #[.int .u64 (x.t : Int), .int .u64 (x.e : Int), .int .u64 (x.y : Int), .int .u64 (x.g : Int)] 60)).alloc (.cells #[.int .u64 (x.t : Int), .int .u64 (x.e : Int), .int .u64 (x.y : Int), .int .u64 (x.g : Int)] 25) = w0 at *
  clear k0 k1 k2 k3 hbx
  refine wp_loop_rounds 5 ?_
  have c0 := hn0.cell 0
  have p0 := hp0.cell 0
  rw [rounds_succ]
  go_wp2_with (fail)
  refine (outNum_any B g A c bs x.t _ ho0 x0 (by omega)).mono ?_
  rintro _ w1 ⟨rfl, A1, c1, ho1, hs1⟩
  have hn1 := hn0.fr hs1.fr (ho0.far hn0 (by decide) (by decide))
  have hp1 := hp0.fr hs1.fr (ho0.far hp0 (by decide) (by decide))
  have d1 := hn1.cell 1
  have p1 := hp1.cell 0
  go_wp2
  rw [rounds_succ]
  go_wp2_with (fail)
  refine (outNum_any B g A1 c1 _ x.e _ ho1 x1 (by rw [List.length_append]; omega)).mono ?_
  rintro _ w2 ⟨rfl, A2, c2, ho2, hs2⟩
  have hn2 := hn1.fr hs2.fr (ho1.far hn1 (by decide) (by decide))
  have hp2 := hp1.fr hs2.fr (ho1.far hp1 (by decide) (by decide))
  have d2 := hn2.cell 2
  have p2 := hp2.cell 0
  go_wp2
  rw [rounds_succ]
  go_wp2_with (fail)
  refine (outNum_any B g A2 c2 _ x.y _ ho2 x2 (by simp only [List.length_append]; omega)).mono ?_
  rintro _ w3 ⟨rfl, A3, c3, ho3, hs3⟩
  have hn3 := hn2.fr hs3.fr (ho2.far hn2 (by decide) (by decide))
  have hp3 := hp2.fr hs3.fr (ho2.far hp2 (by decide) (by decide))
  have d3 := hn3.cell 3
  have p3 := hp3.cell 0
  go_wp2
  rw [rounds_succ]
  go_wp2_with (fail)
  refine (outNum_any B g A3 c3 _ x.g _ ho3 x3 (by simp only [List.length_append]; omega)).mono ?_
  rintro _ w4 ⟨rfl, A4, c4, ho4, hs4⟩
  go_wp2
  rw [rounds_succ]
  go_wp2
  go_end0
  refine ⟨rfl, A4, c4, ?_, (((hs0.trans hs1).trans hs2).trans hs3).trans hs4⟩
  have e : bs ++ x.bytes = bs ++ Pk.num x.t ++ Pk.num x.e ++ Pk.num x.y ++ Pk.num x.g := by unfold Bx.bytes; simp
  rw [e]
  exact ho4

set_option maxRecDepth 100000 in
set_option maxHeartbeats 1000000 in
theorem putBx_any (B g gp : Nat) (A0 : Option Addr) (c0 : Nat) (bs : List UInt8) (l : List Bx) (Al : Option Addr) (n cl : Nat) (w : World) (ho : OutAt w B g A0 c0 bs) (hn : Hid (l.length = n)) (hok : ∀ x ∈ l, x.ok)
    (hr : Rd w B 4 Al n (l.flatMap Bx.cells)) (hl : bs.length + 10 + 40 * n ≤ 1099511627690) (hp : Blk w gp 104 #[.pointer (some ⟨g, 0, none⟩)]) :
    Calls Tryz.prog 102 #[.pointer (some ⟨g, 0, none⟩), .slice Al n cl, .func (.func 97) #[] #[.pointer (some ⟨gp, 0, none⟩)]] w (OutPost B g A0 (bs ++ lst Bx.bytes l) w) := by
  go_enter Tryz.func102, Tryz.ntmps102
  go_wp2_with (fail)
  refine (outInt_any B g A0 c0 bs (n : Int) _ ho (by omega) (by omega) (by omega)).mono ?_
  rintro _ w1 ⟨rfl, A1, c1, ho1, hst1⟩
  have hil := Pk.int_len (n : Int)
  go_wp2
  go_loopw [14] (fun v wr => ∃ (i : Nat) (A : Option Addr) (c : Nat) (D : List UInt8), v = .int .i64 (i : Int) ∧ i ≤ n ∧ Hid (D = bs ++ Pk.int (n : Int) ++ (l.take i).flatMap Bx.bytes) ∧ D.length ≤ bs.length + 10 + 40 * i ∧ OutAt wr B g A c D ∧ OStep g w A0 wr A ∧ Blk wr gp 104 #[.pointer (some ⟨g, 0, none⟩)]) (fun v _ => n - (intOf v).toNat)
  case atStart => exact ⟨0, A1, c1, _, rfl, by omega, by show _ = _; simp, by simp; omega, ho1, hst1, hp.fr hst1.fr (ho.far hp (by decide) (by decide))⟩
  case round =>
    obtain ⟨i, A, c, D, rfl, hin, hD, hDl, hoi, hst, hpi⟩ := hrel
    by_cases hlt : i < n
    · obtain ⟨x, hx⟩ : ∃ x, l[i]? = some x := ⟨_, List.getElem?_eq_getElem (by rw [hn.out]; exact hlt)⟩
      have hxo := hok x (List.mem_of_getElem? hx)
      obtain ⟨b, off, rfl, hb, k0, k1, k2, k3⟩ := Bx.at (hr.fr hst.fr (ho.not (Nat.le_refl _))) hx
      have hxl := Bx.bytes_len x
      have hx' := Lib.hid hx
      clear hx
      go_wp2_with (fail)
      refine (box_any B g gp A c D x _ (hoi.alloc (.cells #[.int .u64 (x.t : Int), .int .u64 (x.e : Int), .int .u64 (x.y : Int), .int .u64 (x.g : Int)] 60)) (hpi.alloc (.cells #[.int .u64 (x.t : Int), .int .u64 (x.e : Int), .int .u64 (x.y : Int), .int .u64 (x.g : Int)] 60)) hxo (by omega)).mono ?_
      rintro _ w2 ⟨rfl, A2, c2, ho2, hs2⟩
      have hpi2 := (hpi.alloc (.cells #[.int .u64 (x.t : Int), .int .u64 (x.e : Int), .int .u64 (x.y : Int), .int .u64 (x.g : Int)] 60)).fr hs2.fr ((hoi.alloc (.cells #[.int .u64 (x.t : Int), .int .u64 (x.e : Int), .int .u64 (x.y : Int), .int .u64 (x.g : Int)] 60)).far (hpi.alloc (.cells #[.int .u64 (x.t : Int), .int .u64 (x.e : Int), .int .u64 (x.y : Int), .int .u64 (x.g : Int)] 60)) (by decide) (by decide))
      go_wp2
      go_roundw
      case rel =>
        refine ⟨i + 1, A2, c2, _, by go_num, by omega, ?_, by rw [List.length_append, Nat.mul_add]; omega, ho2, (hst.alloc (.cells #[.int .u64 (x.t : Int), .int .u64 (x.e : Int), .int .u64 (x.y : Int), .int .u64 (x.g : Int)] 60)).trans hs2, hpi2⟩
        show _ = _
        rw [hD.out, lst_snoc _ l hx'.out, ← List.append_assoc]
      case measure => simp [intOf]; omega
    · have hi : i = n := by omega
      subst hi
      go_wp2
      go_end0
      refine ⟨rfl, A, c, ?_, hst⟩
      have e : bs ++ lst Bx.bytes l = D := by rw [hD.out, List.take_of_length_le (by rw [hn.out]; omega), List.append_assoc]; unfold lst; rw [hn.out]
      rw [e]
      exact hoi

/-- The closure that writes a node; gc: where it finds what writes a box. -/
theorem node_any (B g gp gc : Nat) (A : Option Addr) (c : Nat) (bs : List UInt8) (x : NdL) (w : World) (ho : OutAt w B g A c bs) (hp : Blk w gp 104 #[.pointer (some ⟨g, 0, none⟩)]) (hc : Blk w gc 119 #[.func (.func 97) #[] #[.pointer (some ⟨gp, 0, none⟩)]])
    (hx : x.nd.ok) (hat : x.at w B) (hl : bs.length + 40020 ≤ 1099511627690) :
    Calls Tryz.prog 101 #[.agg #[.int .u64 (x.p : Int), .slice x.A x.xs.length x.c], .pointer (some ⟨gp, 0, none⟩), .pointer (some ⟨gc, 0, none⟩)] w (OutPost B g A (bs ++ x.nd.bytes) w) := by
  obtain ⟨x0, x1, x2⟩ := hx
  have x1' : x.xs.length ≤ 1000 := x1
  have l1 := Pk.num_len x.p
  have hbx := Blk.new w 55 #[.int .u64 (x.p : Int), .slice x.A x.xs.length x.c]
  have k0 := hbx.cell 0
  have k1 := hbx.cell 1
  have ho0 := ho.alloc (.cells #[.int .u64 (x.p : Int), .slice x.A x.xs.length x.c] 55)
  have hp0 := hp.alloc (.cells #[.int .u64 (x.p : Int), .slice x.A x.xs.length x.c] 55)
  have hc0 := hc.alloc (.cells #[.int .u64 (x.p : Int), .slice x.A x.xs.length x.c] 55)
  have hs0 := (OStep.refl g w A).alloc (.cells #[.int .u64 (x.p : Int), .slice x.A x.xs.length x.c] 55)
  have p0 := hp0.cell 0
  go_enter Tryz.func101, Tryz.ntmps101
  go_wp2_with (fail)
  refine (outNum_any B g A c bs x.p _ ho0 x0 (by omega)).mono ?_
  rintro _ w1 ⟨rfl, A1, c1, ho1, hs1⟩
  have hbx1 := hbx.fr hs1.fr (ho0.far hbx (by decide) (by decide))
  have hp1 := hp0.fr hs1.fr (ho0.far hp0 (by decide) (by decide))
  have hc1 := hc0.fr hs1.fr (ho0.far hc0 (by decide) (by decide))
  have m1 := hbx1.cell 1
  have p1 := hp1.cell 0
  have q1 := hc1.cell 0
  have hst := hs0.trans hs1
  have hr1 := hat.1.fr hst.fr (ho.not (Nat.le_refl _))
  go_wp2_with (fail)
  refine (putBx_any B g gp A1 c1 _ x.xs x.A x.xs.length x.c _ ho1 rfl x2 hr1 (by rw [List.length_append]; omega) hp1).mono ?_
  rintro _ w2 ⟨rfl, A2, c2, ho2, hs2⟩
  go_wp2
  go_end0
  refine ⟨rfl, A2, c2, ?_, hst.trans hs2⟩
  have e : bs ++ x.nd.bytes = bs ++ Pk.num x.p ++ lst Bx.bytes x.xs := by unfold Nd.bytes; rw [List.append_assoc]; rfl
  rw [e]
  exact ho2

set_option maxRecDepth 100000 in
set_option maxHeartbeats 1000000 in
theorem putNd_any (B g gp gc : Nat) (A0 : Option Addr) (c0 : Nat) (bs : List UInt8) (l : List NdL) (Al : Option Addr) (n cl : Nat) (w : World) (ho : OutAt w B g A0 c0 bs) (hn : Hid (l.length = n)) (hok : ∀ x ∈ l, x.nd.ok)
    (hr : Rd w B 2 Al n (l.flatMap NdL.cells)) (hl : bs.length + 10 + 40020 * n ≤ 1099511627690) (hp : Blk w gp 104 #[.pointer (some ⟨g, 0, none⟩)]) (hc : Blk w gc 119 #[.func (.func 97) #[] #[.pointer (some ⟨gp, 0, none⟩)]]) (hat : ∀ x ∈ l, x.at w B) :
    Calls Tryz.prog 100 #[.pointer (some ⟨g, 0, none⟩), .slice Al n cl, .func (.func 101) #[] #[.pointer (some ⟨gp, 0, none⟩), .pointer (some ⟨gc, 0, none⟩)]] w (OutPost B g A0 (bs ++ lst (fun x => x.nd.bytes) l) w) := by
  go_enter Tryz.func100, Tryz.ntmps100
  go_wp2_with (fail)
  refine (outInt_any B g A0 c0 bs (n : Int) _ ho (by omega) (by omega) (by omega)).mono ?_
  rintro _ w1 ⟨rfl, A1, c1, ho1, hst1⟩
  have hil := Pk.int_len (n : Int)
  go_wp2
  go_loopw [14] (fun v wr => ∃ (i : Nat) (A : Option Addr) (c : Nat) (D : List UInt8), v = .int .i64 (i : Int) ∧ i ≤ n ∧ Hid (D = bs ++ Pk.int (n : Int) ++ (l.take i).flatMap (fun x => x.nd.bytes)) ∧ D.length ≤ bs.length + 10 + 40020 * i ∧ OutAt wr B g A c D ∧ OStep g w A0 wr A ∧ Blk wr gp 104 #[.pointer (some ⟨g, 0, none⟩)] ∧ Blk wr gc 119 #[.func (.func 97) #[] #[.pointer (some ⟨gp, 0, none⟩)]]) (fun v _ => n - (intOf v).toNat)
  case atStart => exact ⟨0, A1, c1, _, rfl, by omega, by show _ = _; simp, by simp; omega, ho1, hst1, hp.fr hst1.fr (ho.far hp (by decide) (by decide)), hc.fr hst1.fr (ho.far hc (by decide) (by decide))⟩
  case round =>
    obtain ⟨i, A, c, D, rfl, hin, hD, hDl, hoi, hst, hpi, hci⟩ := hrel
    by_cases hlt : i < n
    · obtain ⟨x, hx⟩ : ∃ x, l[i]? = some x := ⟨_, List.getElem?_eq_getElem (by rw [hn.out]; exact hlt)⟩
      have hxo := hok x (List.mem_of_getElem? hx)
      obtain ⟨b, off, rfl, hb, k0, k1⟩ := NdL.el (hr.fr hst.fr (ho.not (Nat.le_refl _))) hx
      have hxl := Nd.bytes_len x.nd hxo
      have hxa := ((hat x (List.mem_of_getElem? hx)).fr hst.fr (ho.not (Nat.le_refl _)))
      have hx' := Lib.hid hx
      clear hx
      go_wp2_with (fail)
      refine (node_any B g gp gc A c D x _ (hoi.alloc (.cells #[.int .u64 (x.p : Int), .slice x.A x.xs.length x.c] 55)) (hpi.alloc (.cells #[.int .u64 (x.p : Int), .slice x.A x.xs.length x.c] 55)) (hci.alloc (.cells #[.int .u64 (x.p : Int), .slice x.A x.xs.length x.c] 55)) hxo (hxa.fr (S := Non) ((Fr.refl _ _).alloc (.cells #[.int .u64 (x.p : Int), .slice x.A x.xs.length x.c] 55)) (fun _ _ e => e)) (by omega)).mono ?_
      rintro _ w2 ⟨rfl, A2, c2, ho2, hs2⟩
      have hpi2 := (hpi.alloc (.cells #[.int .u64 (x.p : Int), .slice x.A x.xs.length x.c] 55)).fr hs2.fr ((hoi.alloc (.cells #[.int .u64 (x.p : Int), .slice x.A x.xs.length x.c] 55)).far (hpi.alloc (.cells #[.int .u64 (x.p : Int), .slice x.A x.xs.length x.c] 55)) (by decide) (by decide))
      have hci2 := (hci.alloc (.cells #[.int .u64 (x.p : Int), .slice x.A x.xs.length x.c] 55)).fr hs2.fr ((hoi.alloc (.cells #[.int .u64 (x.p : Int), .slice x.A x.xs.length x.c] 55)).far (hci.alloc (.cells #[.int .u64 (x.p : Int), .slice x.A x.xs.length x.c] 55)) (by decide) (by decide))
      go_wp2
      go_roundw
      case rel =>
        refine ⟨i + 1, A2, c2, _, by go_num, by omega, ?_, by rw [List.length_append, Nat.mul_add]; omega, ho2, (hst.alloc (.cells #[.int .u64 (x.p : Int), .slice x.A x.xs.length x.c] 55)).trans hs2, hpi2, hci2⟩
        show _ = _
        rw [hD.out, lst_snoc _ l hx'.out, ← List.append_assoc]
      case measure => simp [intOf]; omega
    · have hi : i = n := by omega
      subst hi
      go_wp2
      go_end0
      refine ⟨rfl, A, c, ?_, hst⟩
      have e : bs ++ lst (fun x => x.nd.bytes) l = D := by rw [hD.out, List.take_of_length_le (by rw [hn.out]; omega), List.append_assoc]; unfold lst; rw [hn.out]
      rw [e]
      exact hoi

/-- The closure that writes a sealed one. -/
theorem seal_any (B g gp : Nat) (A : Option Addr) (c : Nat) (bs : List UInt8) (x : SlL) (w : World) (ho : OutAt w B g A c bs) (hp : Blk w gp 104 #[.pointer (some ⟨g, 0, none⟩)])
    (hx : x.f.ok) (hy : x.y.length ≤ 1000000) (hat : x.at w B) (hl : bs.length + 1000040 ≤ 1099511627700) :
    Calls Tryz.prog 107 #[.agg #[.int .i64 x.f.b, .int .i64 x.f.s, .int .u64 (x.f.u : Int), .slice x.A x.y.length x.c], .pointer (some ⟨gp, 0, none⟩)] w (OutPost B g A (bs ++ x.sl.bytes) w) := by
  obtain ⟨⟨x0, x1⟩, ⟨x2, x3⟩, x4⟩ := hx
  have l1 := Pk.ident_len x.f.b x.f.s x.f.u
  have hbx := Blk.new w 58 #[.int .i64 x.f.b, .int .i64 x.f.s, .int .u64 (x.f.u : Int), .slice x.A x.y.length x.c]
  have k0 := hbx.cell 0
  have k1 := hbx.cell 1
  have k2 := hbx.cell 2
  have ho0 := ho.alloc (.cells #[.int .i64 x.f.b, .int .i64 x.f.s, .int .u64 (x.f.u : Int), .slice x.A x.y.length x.c] 58)
  have hp0 := hp.alloc (.cells #[.int .i64 x.f.b, .int .i64 x.f.s, .int .u64 (x.f.u : Int), .slice x.A x.y.length x.c] 58)
  have hs0 := (OStep.refl g w A).alloc (.cells #[.int .i64 x.f.b, .int .i64 x.f.s, .int .u64 (x.f.u : Int), .slice x.A x.y.length x.c] 58)
  have p0 := hp0.cell 0
  go_enter Tryz.func107, Tryz.ntmps107
  go_wp2_with (fail)
  refine (outIdent_any B g A c bs x.f.b x.f.s x.f.u _ ho0 x0 x1 x2 x3 x4 (by omega)).mono ?_
  rintro _ w1 ⟨rfl, A1, c1, ho1, hs1⟩
  have hbx1 := hbx.fr hs1.fr (ho0.far hbx (by decide) (by decide))
  have hp1 := hp0.fr hs1.fr (ho0.far hp0 (by decide) (by decide))
  have m3 := hbx1.cell 3
  have p1 := hp1.cell 0
  have hst := hs0.trans hs1
  have hr1 := hat.1.fr hst.fr (ho.not (Nat.le_refl _))
  have hstr : (convert 28 9 (.slice x.A x.y.length x.c)).run Tryz.prog w1 = .ok (.string (str x.y)) w1 := run_str 28 5 9 Tryz.underlying28 Tryz.underlying5 Tryz.underlying9 w1 _ _ _ _ _ hr1
  go_wp2_with (fail)
  refine (outText_any B g A1 c1 _ x.y _ ho1 (by rw [List.length_append]; omega)).mono ?_
  rintro _ w2 ⟨rfl, A2, c2, ho2, hs2⟩
  go_wp2
  go_end0
  refine ⟨rfl, A2, c2, ?_, hst.trans hs2⟩
  have e : bs ++ x.sl.bytes = bs ++ Pk.ident x.f.b x.f.s x.f.u ++ Pk.text x.y := by unfold Sl.bytes Id.bytes; rw [List.append_assoc]; rfl
  rw [e]
  exact ho2

set_option maxRecDepth 100000 in
set_option maxHeartbeats 1000000 in
theorem putSl_any (B g gp : Nat) (A0 : Option Addr) (c0 : Nat) (bs : List UInt8) (l : List SlL) (Al : Option Addr) (n cl : Nat) (w : World) (ho : OutAt w B g A0 c0 bs) (hn : Hid (l.length = n)) (hok : ∀ x ∈ l, (x.f.ok ∧ x.y.length ≤ 1000000))
    (hr : Rd w B 4 Al n (l.flatMap SlL.cells)) (hl : bs.length + 10 + 1000040 * n ≤ 1099511627690) (hp : Blk w gp 104 #[.pointer (some ⟨g, 0, none⟩)]) (hat : ∀ x ∈ l, x.at w B) :
    Calls Tryz.prog 106 #[.pointer (some ⟨g, 0, none⟩), .slice Al n cl, .func (.func 107) #[] #[.pointer (some ⟨gp, 0, none⟩)]] w (OutPost B g A0 (bs ++ lst (fun x => x.sl.bytes) l) w) := by
  go_enter Tryz.func106, Tryz.ntmps106
  go_wp2_with (fail)
  refine (outInt_any B g A0 c0 bs (n : Int) _ ho (by omega) (by omega) (by omega)).mono ?_
  rintro _ w1 ⟨rfl, A1, c1, ho1, hst1⟩
  have hil := Pk.int_len (n : Int)
  go_wp2
  go_loopw [14] (fun v wr => ∃ (i : Nat) (A : Option Addr) (c : Nat) (D : List UInt8), v = .int .i64 (i : Int) ∧ i ≤ n ∧ Hid (D = bs ++ Pk.int (n : Int) ++ (l.take i).flatMap (fun x => x.sl.bytes)) ∧ D.length ≤ bs.length + 10 + 1000040 * i ∧ OutAt wr B g A c D ∧ OStep g w A0 wr A ∧ Blk wr gp 104 #[.pointer (some ⟨g, 0, none⟩)]) (fun v _ => n - (intOf v).toNat)
  case atStart => exact ⟨0, A1, c1, _, rfl, by omega, by show _ = _; simp, by simp; omega, ho1, hst1, hp.fr hst1.fr (ho.far hp (by decide) (by decide))⟩
  case round =>
    obtain ⟨i, A, c, D, rfl, hin, hD, hDl, hoi, hst, hpi⟩ := hrel
    by_cases hlt : i < n
    · obtain ⟨x, hx⟩ : ∃ x, l[i]? = some x := ⟨_, List.getElem?_eq_getElem (by rw [hn.out]; exact hlt)⟩
      have hxo := hok x (List.mem_of_getElem? hx)
      obtain ⟨b, off, rfl, hb, k0, k1, k2, k3⟩ := SlL.el (hr.fr hst.fr (ho.not (Nat.le_refl _))) hx
      have hxl := Sl.bytes_len x.sl hxo.2
      have hxa := ((hat x (List.mem_of_getElem? hx)).fr hst.fr (ho.not (Nat.le_refl _)))
      have hx' := Lib.hid hx
      clear hx
      go_wp2_with (fail)
      refine (seal_any B g gp A c D x _ (hoi.alloc (.cells #[.int .i64 x.f.b, .int .i64 x.f.s, .int .u64 (x.f.u : Int), .slice x.A x.y.length x.c] 58)) (hpi.alloc (.cells #[.int .i64 x.f.b, .int .i64 x.f.s, .int .u64 (x.f.u : Int), .slice x.A x.y.length x.c] 58)) hxo.1 hxo.2 (hxa.fr (S := Non) ((Fr.refl _ _).alloc (.cells #[.int .i64 x.f.b, .int .i64 x.f.s, .int .u64 (x.f.u : Int), .slice x.A x.y.length x.c] 58)) (fun _ _ e => e)) (by omega)).mono ?_
      rintro _ w2 ⟨rfl, A2, c2, ho2, hs2⟩
      have hpi2 := (hpi.alloc (.cells #[.int .i64 x.f.b, .int .i64 x.f.s, .int .u64 (x.f.u : Int), .slice x.A x.y.length x.c] 58)).fr hs2.fr ((hoi.alloc (.cells #[.int .i64 x.f.b, .int .i64 x.f.s, .int .u64 (x.f.u : Int), .slice x.A x.y.length x.c] 58)).far (hpi.alloc (.cells #[.int .i64 x.f.b, .int .i64 x.f.s, .int .u64 (x.f.u : Int), .slice x.A x.y.length x.c] 58)) (by decide) (by decide))
      go_wp2
      go_roundw
      case rel =>
        refine ⟨i + 1, A2, c2, _, by go_num, by omega, ?_, by rw [List.length_append, Nat.mul_add]; omega, ho2, (hst.alloc (.cells #[.int .i64 x.f.b, .int .i64 x.f.s, .int .u64 (x.f.u : Int), .slice x.A x.y.length x.c] 58)).trans hs2, hpi2⟩
        show _ = _
        rw [hD.out, lst_snoc _ l hx'.out, ← List.append_assoc]
      case measure => simp [intOf]; omega
    · have hi : i = n := by omega
      subst hi
      go_wp2
      go_end0
      refine ⟨rfl, A, c, ?_, hst⟩
      have e : bs ++ lst (fun x => x.sl.bytes) l = D := by rw [hD.out, List.take_of_length_le (by rw [hn.out]; omega), List.append_assoc]; unfold lst; rw [hn.out]
      rw [e]
      exact hoi
end Oq
end Go.Proofs.YtahcddlgghipjaaGreatDoor
