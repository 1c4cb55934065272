/-
  op.bare, op.Put: an operation's bytes.
  Conditions: the operation reads below the heap's size; numbers are of their kinds; lists are not too long.
-/
import Derived.Test.YtahcddlgghipjaaGreatDoorOpPut
import Derived.Deep.Cut
namespace Go.Proofs.YtahcddlgghipjaaGreatDoor
open Go.RowKit
attribute [local go_sem ↓] Go.wp_at_zero Go.wp_at_succ
namespace Oq

theorem run_store_func {P : Program} {w : World} (a : Addr) (m : Mode) (f : Fn) (x y : Array Value) : (store a (.func f x y) m).run P w = stored P w a (.func f x y) m := run_store P w a _ m rfl
attribute [local go_sem] run_store_func

theorem Blk.el {w : World} {k : Nat} {t : TypeId} {l : List Int} (h : Blk w k t (l.map Iv).toArray) {i : Nat} {x : Int} (hx : l[i]? = some x) : w.cell? ⟨k, i, none⟩ = some (.int .i64 x) := by
  rw [h.cell i]
  simp [hx, Iv]

set_option maxRecDepth 100000 in
set_option maxHeartbeats 1000000 in
/-- The closure that writes numbers, out of a block of its own. -/
theorem ints_any (B g gp k : Nat) (A0 : Option Addr) (c0 : Nat) (bs : List UInt8) (l : List Int) (n : Nat) (w : World) (ho : OutAt w B g A0 c0 bs) (hp : Blk w gp 104 #[.pointer (some ⟨g, 0, none⟩)]) (hk : Blk w k 3 (l.map Iv).toArray) (hn : Hid (l.length = n)) (hn0 : 0 < n) (hok : ∀ x ∈ l, I64 x)
    (hl : bs.length + 10 * n ≤ 1099511627700) (hn1 : n ≤ 1000) :
    Calls Tryz.prog 95 #[.slice (some ⟨k, 0, none⟩) n n, .pointer (some ⟨gp, 0, none⟩)] w (OutPost B g A0 (bs ++ l.flatMap Pk.int) w) := by
  go_enter Tryz.func95, Tryz.ntmps95
  go_wp2
  go_loopw [7] (fun v wr => ∃ (i : Nat) (A : Option Addr) (c : Nat) (D : List UInt8), v = .int .i64 (i : Int) ∧ i ≤ n ∧ Hid (D = bs ++ (l.take i).flatMap Pk.int) ∧ D.length ≤ bs.length + 10 * i ∧ OutAt wr B g A c D ∧ OStep g w A0 wr A ∧ Blk wr gp 104 #[.pointer (some ⟨g, 0, none⟩)] ∧ Blk wr k 3 (l.map Iv).toArray) (fun v _ => n - (intOf v).toNat)
  case atStart => exact ⟨0, A0, c0, bs, rfl, by omega, by show _ = _; simp, by simp, ho, OStep.refl _ _ _, hp, hk⟩
  case round =>
    obtain ⟨i, A, c, D, rfl, hin, hD, hDl, hoi, hst, hpi, hki⟩ := hrel
    by_cases hlt : i < n
    · obtain ⟨x, hx⟩ : ∃ x, l[i]? = some x := ⟨_, List.getElem?_eq_getElem (by rw [hn.out]; exact hlt)⟩
      have hxo := hok x (List.mem_of_getElem? hx)
      have k0 := Blk.el hki hx
      have p0 := hpi.cell 0
      have hx' := Lib.hid hx
      clear hx
      have hxl := Pk.int_len x
      go_wp2_with (fail)
      refine (outInt_any B g A c D x _ hoi hxo.1 hxo.2 (by omega)).mono ?_
      rintro _ w2 ⟨rfl, A2, c2, ho2, hs2⟩
      have hpi2 := hpi.fr hs2.fr (hoi.far hpi (by decide) (by decide))
      have hki2 := hki.fr hs2.fr (hoi.far hki (by decide) (by decide))
      clear k0 p0
      go_wp2
      go_roundw
      case rel =>
        refine ⟨i + 1, A2, c2, _, by go_num, by omega, ?_, by rw [List.length_append, Nat.mul_add]; omega, ho2, hst.trans hs2, hpi2, hki2⟩
        show _ = _
        rw [hD.out, lst_snoc _ l hx'.out, ← List.append_assoc]
      case measure => simp [intOf]; omega
    · have hi : i = n := by omega
      subst hi
      go_wp2
      go_end0
      refine ⟨rfl, A, c, ?_, hst⟩
      have e : bs ++ l.flatMap Pk.int = D := by rw [hD.out, List.take_of_length_le (by rw [hn.out]; omega)]
      rw [e]
      exact hoi

theorem lst_map {α β : Type} (enc : β → List UInt8) (f : α → β) (l : List α) : lst enc (l.map f) = lst (fun x => enc (f x)) l := by
  unfold lst
  rw [List.length_map, List.flatMap_map]
theorem all2 {α : Type} {P : α → Prop} {a b : α} (h1 : P a) (h2 : P b) : ∀ x ∈ [a, b], P x := by
  intro x hx
  rcases List.mem_cons.1 hx with rfl | hx
  · exact h1
  · rw [List.mem_singleton.1 hx]; exact h2
theorem all4 {α : Type} {P : α → Prop} {a b c d : α} (h1 : P a) (h2 : P b) (h3 : P c) (h4 : P d) : ∀ x ∈ [a, b, c, d], P x := by
  intro x hx
  rcases List.mem_cons.1 hx with rfl | hx
  · exact h1
  · rcases List.mem_cons.1 hx with rfl | hx
    · exact h2
    · exact all2 h3 h4 x hx
theorem ints2_len (a b : Int) : ([a, b].flatMap Pk.int).length ≤ 20 := by
  have h := flat_le (enc := Pk.int) [a, b] (fun y _ => Pk.int_len y)
  exact h
theorem ints4_len (a b c d : Int) : ([a, b, c, d].flatMap Pk.int).length ≤ 40 := by
  have h := flat_le (enc := Pk.int) [a, b, c, d] (fun y _ => Pk.int_len y)
  exact h
/-- What bare answers: an Out of its own, with the bytes. -/
def BarePost (bs : List UInt8) (w : World) (r : Ending) (w' : World) : Prop :=
  ∃ A c, r = .returned (.pointer (some ⟨w.heap.size + 1, 0, none⟩)) ∧ OutAt w' w.heap.size (w.heap.size + 1) A c bs ∧ Fr Non w w'

theorem OpL.lens {x : OpL} (hok : x.op.ok) : x.past.length ≤ 1000 ∧ x.path.length ≤ 1000 ∧ x.body.length ≤ 1000000 ∧ x.refs.length ≤ 1000 ∧ x.guards.length ≤ 1000 ∧ x.boxes.length ≤ 1000 ∧ x.hist.length ≤ 1000 ∧ (∀ y ∈ x.path, y.nd.ok) ∧ (∀ y ∈ x.hist, y.f.ok ∧ y.y.length ≤ 1000000) := by
  refine ⟨hok.past.1, ?_, hok.body, hok.refs.1, hok.guards.1, hok.boxes.1, ?_, fun y hy => hok.path.2 _ (List.mem_map_of_mem hy), fun y hy => hok.hist.2 _ (List.mem_map_of_mem hy)⟩
  · have := hok.path.1
    rwa [show x.op.path = x.path.map NdL.nd from rfl, List.length_map] at this
  · have := hok.hist.1
    rwa [show x.op.hist = x.hist.map SlL.sl from rfl, List.length_map] at this

set_option maxRecDepth 100000 in
set_option maxHeartbeats 4000000 in
theorem bare_any (x : OpL) (w : World) (hat : x.at w w.heap.size) (hok : x.op.ok) : Calls Tryz.prog 71 #[.agg x.cells] w (BarePost x.op.bare w) := by
  obtain ⟨l_past, l_path, l_body, l_refs, l_guards, l_boxes, l_hist, o_path, o_hist⟩ := OpL.lens hok
  have hsz : x.cells.size = 27 := rfl
  obtain ⟨CS, hCS⟩ := hid_ex x.cells
  have e0 : Hid (CS[0]? = some (.int .i64 x.by_)) := by show _ = _; rw [← hCS.out]; rfl
  have e1 : Hid (CS[1]? = some (.int .i64 x.sq)) := by show _ = _; rw [← hCS.out]; rfl
  have e2 : Hid (CS[2]? = some (.int .i64 x.kind)) := by show _ = _; rw [← hCS.out]; rfl
  have e3 : Hid (CS[3]? = some (.int .i64 x.at_)) := by show _ = _; rw [← hCS.out]; rfl
  have e4 : Hid (CS[4]? = some (.slice x.pastA x.past.length x.pastC)) := by show _ = _; rw [← hCS.out]; rfl
  have e5 : Hid (CS[5]? = some (.int .i64 x.dev)) := by show _ = _; rw [← hCS.out]; rfl
  have e6 : Hid (CS[6]? = some (.int .i64 x.old)) := by show _ = _; rw [← hCS.out]; rfl
  have e7 : Hid (CS[7]? = some (.int .i64 x.mem)) := by show _ = _; rw [← hCS.out]; rfl
  have e8 : Hid (CS[8]? = some (.int .i64 x.role)) := by show _ = _; rw [← hCS.out]; rfl
  have e9 : Hid (CS[9]? = some (.slice x.pathA x.path.length x.pathC)) := by show _ = _; rw [← hCS.out]; rfl
  have e10 : Hid (CS[10]? = some (.int .i64 x.epoch.b)) := by show _ = _; rw [← hCS.out]; rfl
  have e11 : Hid (CS[11]? = some (.int .i64 x.epoch.s)) := by show _ = _; rw [← hCS.out]; rfl
  have e12 : Hid (CS[12]? = some (.int .u64 (x.epoch.u : Int))) := by show _ = _; rw [← hCS.out]; rfl
  have e13 : Hid (CS[13]? = some (.int .i64 x.n)) := by show _ = _; rw [← hCS.out]; rfl
  have e14 : Hid (CS[14]? = some (.slice x.bodyA x.body.length x.bodyC)) := by show _ = _; rw [← hCS.out]; rfl
  have e15 : Hid (CS[15]? = some (.slice x.refsA x.refs.length x.refsC)) := by show _ = _; rw [← hCS.out]; rfl
  have e16 : Hid (CS[16]? = some (.int .i64 x.of.b)) := by show _ = _; rw [← hCS.out]; rfl
  have e17 : Hid (CS[17]? = some (.int .i64 x.of.s)) := by show _ = _; rw [← hCS.out]; rfl
  have e18 : Hid (CS[18]? = some (.int .u64 (x.of.u : Int))) := by show _ = _; rw [← hCS.out]; rfl
  have e19 : Hid (CS[19]? = some (.slice x.guardsA x.guards.length x.guardsC)) := by show _ = _; rw [← hCS.out]; rfl
  have e20 : Hid (CS[20]? = some (.int .i64 x.need)) := by show _ = _; rw [← hCS.out]; rfl
  have e21 : Hid (CS[21]? = some (.int .i64 x.wait)) := by show _ = _; rw [← hCS.out]; rfl
  have e22 : Hid (CS[22]? = some (.slice x.boxesA x.boxes.length x.boxesC)) := by show _ = _; rw [← hCS.out]; rfl
  have e23 : Hid (CS[23]? = some (.int .u64 (x.pub : Int))) := by show _ = _; rw [← hCS.out]; rfl
  have e24 : Hid (CS[24]? = some (.slice x.histA x.hist.length x.histC)) := by show _ = _; rw [← hCS.out]; rfl
  rw [hCS.out] at hsz
  rw [hCS.out]
  have hb0 : Blk ((((w.alloc (.cells CS 35)).alloc (.cells #[.slice none 0 0] 116)).alloc (.cells #[.pointer (some ⟨w.heap.size + 1, 0, none⟩)] 104)).alloc (.cells #[.func (.func 97) #[] #[.pointer (some ⟨w.heap.size + 1 + 1, 0, none⟩)]] 119)) w.heap.size 35 CS := (((Blk.new w 35 CS).alloc _).alloc _).alloc _
  have ho0 : OutAt ((((w.alloc (.cells CS 35)).alloc (.cells #[.slice none 0 0] 116)).alloc (.cells #[.pointer (some ⟨w.heap.size + 1, 0, none⟩)] 104)).alloc (.cells #[.func (.func 97) #[] #[.pointer (some ⟨w.heap.size + 1 + 1, 0, none⟩)]] 119)) w.heap.size (w.heap.size + 1) none 0 [] := by
    refine ⟨?_, Own.nil _ _ _ _, by omega⟩
    have := ((Blk.new (w.alloc (.cells CS 35)) 116 #[.slice none 0 0]).alloc (.cells #[.pointer (some ⟨w.heap.size + 1, 0, none⟩)] 104)).alloc (.cells #[.func (.func 97) #[] #[.pointer (some ⟨w.heap.size + 1 + 1, 0, none⟩)]] 119)
    rwa [World.size_alloc] at this
  have hp0 : Blk ((((w.alloc (.cells CS 35)).alloc (.cells #[.slice none 0 0] 116)).alloc (.cells #[.pointer (some ⟨w.heap.size + 1, 0, none⟩)] 104)).alloc (.cells #[.func (.func 97) #[] #[.pointer (some ⟨w.heap.size + 1 + 1, 0, none⟩)]] 119)) (w.heap.size + 1 + 1) 104 #[.pointer (some ⟨w.heap.size + 1, 0, none⟩)] := by
    have := (Blk.new ((w.alloc (.cells CS 35)).alloc (.cells #[.slice none 0 0] 116)) 104 #[.pointer (some ⟨w.heap.size + 1, 0, none⟩)]).alloc (.cells #[.func (.func 97) #[] #[.pointer (some ⟨w.heap.size + 1 + 1, 0, none⟩)]] 119)
    rwa [World.size_alloc, World.size_alloc] at this
  have hc0 : Blk ((((w.alloc (.cells CS 35)).alloc (.cells #[.slice none 0 0] 116)).alloc (.cells #[.pointer (some ⟨w.heap.size + 1, 0, none⟩)] 104)).alloc (.cells #[.func (.func 97) #[] #[.pointer (some ⟨w.heap.size + 1 + 1, 0, none⟩)]] 119)) (w.heap.size + 1 + 1 + 1) 119 #[.func (.func 97) #[] #[.pointer (some ⟨w.heap.size + 1 + 1, 0, none⟩)]] := by
    have := Blk.new (((w.alloc (.cells CS 35)).alloc (.cells #[.slice none 0 0] 116)).alloc (.cells #[.pointer (some ⟨w.heap.size + 1, 0, none⟩)] 104)) 119 #[.func (.func 97) #[] #[.pointer (some ⟨w.heap.size + 1 + 1, 0, none⟩)]]
    rwa [World.size_alloc, World.size_alloc, World.size_alloc] at this
  have hf4 : Fr Non w ((((w.alloc (.cells CS 35)).alloc (.cells #[.slice none 0 0] 116)).alloc (.cells #[.pointer (some ⟨w.heap.size + 1, 0, none⟩)] 104)).alloc (.cells #[.func (.func 97) #[] #[.pointer (some ⟨w.heap.size + 1 + 1, 0, none⟩)]] 119)) := ((((Fr.refl _ _).alloc _).alloc _).alloc _).alloc _
  have hx0 := hat.fr hf4 (fun _ _ e => e)
  have nb : ¬ RS (w.heap.size + 1) none w.heap.size := by rintro (e | e); omega; cases e
  have np : ¬ RS (w.heap.size + 1) none (w.heap.size + 1 + 1) := by rintro (e | e); omega; cases e
  have nc : ¬ RS (w.heap.size + 1) none (w.heap.size + 1 + 1 + 1) := by rintro (e | e); omega; cases e
  have nx : ∀ k, k < w.heap.size → ¬ RS (w.heap.size + 1) none k := by rintro k hk (e | e); omega; cases e
  obtain ⟨D, hD⟩ := hid_ex x.op.bare
  rw [hD.out]
  go_enter Tryz.func71, Tryz.ntmps71
  go_upto_region 4 with (fail)
  generalize ((((w.alloc (.cells CS 35)).alloc (.cells #[.slice none 0 0] 116)).alloc (.cells #[.pointer (some ⟨w.heap.size + 1, 0, none⟩)] 104)).alloc (.cells #[.func (.func 97) #[] #[.pointer (some ⟨w.heap.size + 1 + 1, 0, none⟩)]] 119)) = w0 at *
  have st0 := OStep.refl (w.heap.size + 1) w0 none
  have c0 := (hb0.cell 0).trans e0.out
  have c1 := (hb0.cell 1).trans e1.out
  have c2 := (hb0.cell 2).trans e2.out
  have c3 := (hb0.cell 3).trans e3.out
  have p0 := hp0.cell 0
  go_wp2_with (fail)
  refine (ints_any w.heap.size (w.heap.size + 1) (w.heap.size + 1 + 1) w0.heap.size none 0 [] [x.by_, x.sq, x.kind, x.at_] 4 _ (ho0.alloc (.cells #[.int .i64 x.by_, .int .i64 x.sq, .int .i64 x.kind, .int .i64 x.at_] 3)) (hp0.alloc (.cells #[.int .i64 x.by_, .int .i64 x.sq, .int .i64 x.kind, .int .i64 x.at_] 3)) (Blk.new w0 3 _) rfl (by omega) (all4 (P := I64) hok.by_ hok.sq hok.kind hok.at_) (by simp) (by omega)).mono ?_
  rintro _ w1 ⟨rfl, A1, cc1, ho1, hs1⟩
  clear c0 c1 c2 c3 p0
  have st1 := (st0.alloc (.cells #[.int .i64 x.by_, .int .i64 x.sq, .int .i64 x.kind, .int .i64 x.at_] 3)).trans hs1
  have lD1 : ([] ++ [x.by_, x.sq, x.kind, x.at_].flatMap Pk.int).length ≤ 40 := by rw [List.nil_append]; exact ints4_len _ _ _ _
  obtain ⟨D1, hD1⟩ := hid_ex ([] ++ [x.by_, x.sq, x.kind, x.at_].flatMap Pk.int)
  rw [hD1.out] at ho1 lD1
  have hb1 := hb0.fr st1.fr nb
  have hp1 := hp0.fr st1.fr np
  have hc1 := hc0.fr st1.fr nc
  have hx1 := hx0.fr st1.fr nx
  clear ho0 hs1 st0
  have c4 := (hb1.cell 4).trans e4.out
  have p1 := hp1.cell 0
  go_wp2_with (fail)
  refine (putId_any w.heap.size (w.heap.size + 1) A1 cc1 D1 x.past x.pastA _ x.pastC _ ho1 rfl hok.past.2 hx1.past.1 (by omega)).mono ?_
  rintro _ w2 ⟨rfl, A2, cc2, ho2, hs2⟩
  clear c4 p1
  have st2 := (st1).trans hs2
  have lD2 : (D1 ++ lst Id.bytes x.past).length ≤ 30050 := by rw [List.length_append]; have := (Nat.le_trans (lst_le x.past (fun y _ => Id.bytes_len y)) (by omega) : (lst Id.bytes x.past).length ≤ 30010); omega
  obtain ⟨D2, hD2⟩ := hid_ex (D1 ++ lst Id.bytes x.past)
  rw [hD2.out] at ho2 lD2
  have hb2 := hb0.fr st2.fr nb
  have hp2 := hp0.fr st2.fr np
  have hc2 := hc0.fr st2.fr nc
  have hx2 := hx0.fr st2.fr nx
  clear hb1 hp1 hc1 hx1 ho1 hs2 st1
  have c5 := (hb2.cell 5).trans e5.out
  have c6 := (hb2.cell 6).trans e6.out
  have c7 := (hb2.cell 7).trans e7.out
  have c8 := (hb2.cell 8).trans e8.out
  have p2 := hp2.cell 0
  go_wp2_with (fail)
  refine (ints_any w.heap.size (w.heap.size + 1) (w.heap.size + 1 + 1) w2.heap.size A2 cc2 D2 [x.dev, x.old, x.mem, x.role] 4 _ (ho2.alloc (.cells #[.int .i64 x.dev, .int .i64 x.old, .int .i64 x.mem, .int .i64 x.role] 3)) (hp2.alloc (.cells #[.int .i64 x.dev, .int .i64 x.old, .int .i64 x.mem, .int .i64 x.role] 3)) (Blk.new w2 3 _) rfl (by omega) (all4 (P := I64) hok.dev hok.old hok.mem hok.role) (by omega) (by omega)).mono ?_
  rintro _ w3 ⟨rfl, A3, cc3, ho3, hs3⟩
  clear c5 c6 c7 c8 p2
  have st3 := (st2.alloc (.cells #[.int .i64 x.dev, .int .i64 x.old, .int .i64 x.mem, .int .i64 x.role] 3)).trans hs3
  have lD3 : (D2 ++ [x.dev, x.old, x.mem, x.role].flatMap Pk.int).length ≤ 30090 := by rw [List.length_append]; have := (ints4_len _ _ _ _ : ([x.dev, x.old, x.mem, x.role].flatMap Pk.int).length ≤ 40); omega
  obtain ⟨D3, hD3⟩ := hid_ex (D2 ++ [x.dev, x.old, x.mem, x.role].flatMap Pk.int)
  rw [hD3.out] at ho3 lD3
  have hb3 := hb0.fr st3.fr nb
  have hp3 := hp0.fr st3.fr np
  have hc3 := hc0.fr st3.fr nc
  have hx3 := hx0.fr st3.fr nx
  clear hb2 hp2 hc2 hx2 ho2 hs3 st2
  have c9 := (hb3.cell 9).trans e9.out
  have p3 := hp3.cell 0
  go_wp2_with (fail)
  refine (putNd_any w.heap.size (w.heap.size + 1) (w.heap.size + 1 + 1) (w.heap.size + 1 + 1 + 1) A3 cc3 D3 x.path x.pathA _ x.pathC _ ho3 rfl o_path hx3.path.1 (by omega) hp3 hc3 hx3.nodes).mono ?_
  rintro _ w4 ⟨rfl, A4, cc4, ho4, hs4⟩
  clear c9 p3
  have st4 := (st3).trans hs4
  have lD4 : (D3 ++ lst (fun x => x.nd.bytes) x.path).length ≤ 40050100 := by rw [List.length_append]; have := (Nat.le_trans (lst_le x.path (fun y hy => Nd.bytes_len _ (o_path y hy))) (by omega) : (lst (fun x => x.nd.bytes) x.path).length ≤ 40020010); omega
  obtain ⟨D4, hD4⟩ := hid_ex (D3 ++ lst (fun x => x.nd.bytes) x.path)
  rw [hD4.out] at ho4 lD4
  have hb4 := hb0.fr st4.fr nb
  have hp4 := hp0.fr st4.fr np
  have hc4 := hc0.fr st4.fr nc
  have hx4 := hx0.fr st4.fr nx
  clear hb3 hp3 hc3 hx3 ho3 hs4 st3
  have c10 := (hb4.cell 10).trans e10.out
  have c11 := (hb4.cell 11).trans e11.out
  have c12 := (hb4.cell 12).trans e12.out
  have p4 := hp4.cell 0
  go_wp2_with (fail)
  refine (outIdent_any w.heap.size (w.heap.size + 1) A4 cc4 D4 x.epoch.b x.epoch.s x.epoch.u _ ho4 hok.epoch.1.1 hok.epoch.1.2 hok.epoch.2.1.1 hok.epoch.2.1.2 hok.epoch.2.2 (by omega)).mono ?_
  rintro _ w5 ⟨rfl, A5, cc5, ho5, hs5⟩
  clear c10 c11 c12 p4
  have st5 := (st4).trans hs5
  have lD5 : (D4 ++ Pk.ident x.epoch.b x.epoch.s x.epoch.u).length ≤ 40050130 := by rw [List.length_append]; have := (Pk.ident_len _ _ _ : (Pk.ident x.epoch.b x.epoch.s x.epoch.u).length ≤ 30); omega
  obtain ⟨D5, hD5⟩ := hid_ex (D4 ++ Pk.ident x.epoch.b x.epoch.s x.epoch.u)
  rw [hD5.out] at ho5 lD5
  have hb5 := hb0.fr st5.fr nb
  have hp5 := hp0.fr st5.fr np
  have hc5 := hc0.fr st5.fr nc
  have hx5 := hx0.fr st5.fr nx
  clear hb4 hp4 hc4 hx4 ho4 hs5 st4
  have c13 := (hb5.cell 13).trans e13.out
  have p5 := hp5.cell 0
  go_wp2_with (fail)
  refine (outInt_any w.heap.size (w.heap.size + 1) A5 cc5 D5 x.n _ ho5 hok.n.1 hok.n.2 (by omega)).mono ?_
  rintro _ w6 ⟨rfl, A6, cc6, ho6, hs6⟩
  clear c13 p5
  have st6 := (st5).trans hs6
  have lD6 : (D5 ++ Pk.int x.n).length ≤ 40050140 := by rw [List.length_append]; have := (Pk.int_len _ : (Pk.int x.n).length ≤ 10); omega
  obtain ⟨D6, hD6⟩ := hid_ex (D5 ++ Pk.int x.n)
  rw [hD6.out] at ho6 lD6
  have hb6 := hb0.fr st6.fr nb
  have hp6 := hp0.fr st6.fr np
  have hc6 := hc0.fr st6.fr nc
  have hx6 := hx0.fr st6.fr nx
  clear hb5 hp5 hc5 hx5 ho5 hs6 st5
  have c14 := (hb6.cell 14).trans e14.out
  have p6 := hp6.cell 0
  have hstr : (convert 28 9 (.slice x.bodyA x.body.length x.bodyC)).run Tryz.prog w6 = .ok (.string (str x.body)) w6 := run_str 28 5 9 Tryz.underlying28 Tryz.underlying5 Tryz.underlying9 w6 _ _ _ _ _ hx6.body.1
  go_wp2_with (fail)
  refine (outText_any w.heap.size (w.heap.size + 1) A6 cc6 D6 x.body _ ho6 (by omega)).mono ?_
  rintro _ w7 ⟨rfl, A7, cc7, ho7, hs7⟩
  clear c14 p6 hstr
  have st7 := (st6).trans hs7
  have lD7 : (D6 ++ Pk.text x.body).length ≤ 41050150 := by rw [List.length_append]; have := (Nat.le_trans (Pk.text_len _) (by omega) : (Pk.text x.body).length ≤ 1000010); omega
  obtain ⟨D7, hD7⟩ := hid_ex (D6 ++ Pk.text x.body)
  rw [hD7.out] at ho7 lD7
  have hb7 := hb0.fr st7.fr nb
  have hp7 := hp0.fr st7.fr np
  have hc7 := hc0.fr st7.fr nc
  have hx7 := hx0.fr st7.fr nx
  clear hb6 hp6 hc6 hx6 ho6 hs7 st6
  have c15 := (hb7.cell 15).trans e15.out
  have p7 := hp7.cell 0
  go_wp2_with (fail)
  refine (putNum_any w.heap.size (w.heap.size + 1) A7 cc7 D7 x.refs x.refsA _ x.refsC _ ho7 rfl hok.refs.2 hx7.refs.1 (by omega)).mono ?_
  rintro _ w8 ⟨rfl, A8, cc8, ho8, hs8⟩
  clear c15 p7
  have st8 := (st7).trans hs8
  have lD8 : (D7 ++ lst Pk.num x.refs).length ≤ 41060160 := by rw [List.length_append]; have := (Nat.le_trans (lst_le x.refs (fun y _ => Pk.num_len y)) (by omega) : (lst Pk.num x.refs).length ≤ 10010); omega
  obtain ⟨D8, hD8⟩ := hid_ex (D7 ++ lst Pk.num x.refs)
  rw [hD8.out] at ho8 lD8
  have hb8 := hb0.fr st8.fr nb
  have hp8 := hp0.fr st8.fr np
  have hc8 := hc0.fr st8.fr nc
  have hx8 := hx0.fr st8.fr nx
  clear hb7 hp7 hc7 hx7 ho7 hs8 st7
  have c16 := (hb8.cell 16).trans e16.out
  have c17 := (hb8.cell 17).trans e17.out
  have c18 := (hb8.cell 18).trans e18.out
  have p8 := hp8.cell 0
  go_wp2_with (fail)
  refine (outIdent_any w.heap.size (w.heap.size + 1) A8 cc8 D8 x.of.b x.of.s x.of.u _ ho8 hok.of.1.1 hok.of.1.2 hok.of.2.1.1 hok.of.2.1.2 hok.of.2.2 (by omega)).mono ?_
  rintro _ w9 ⟨rfl, A9, cc9, ho9, hs9⟩
  clear c16 c17 c18 p8
  have st9 := (st8).trans hs9
  have lD9 : (D8 ++ Pk.ident x.of.b x.of.s x.of.u).length ≤ 41060190 := by rw [List.length_append]; have := (Pk.ident_len _ _ _ : (Pk.ident x.of.b x.of.s x.of.u).length ≤ 30); omega
  obtain ⟨D9, hD9⟩ := hid_ex (D8 ++ Pk.ident x.of.b x.of.s x.of.u)
  rw [hD9.out] at ho9 lD9
  have hb9 := hb0.fr st9.fr nb
  have hp9 := hp0.fr st9.fr np
  have hc9 := hc0.fr st9.fr nc
  have hx9 := hx0.fr st9.fr nx
  clear hb8 hp8 hc8 hx8 ho8 hs9 st8
  have c19 := (hb9.cell 19).trans e19.out
  have p9 := hp9.cell 0
  go_wp2_with (fail)
  refine (putInt_any w.heap.size (w.heap.size + 1) A9 cc9 D9 x.guards x.guardsA _ x.guardsC _ ho9 rfl hok.guards.2 hx9.guards.1 (by omega)).mono ?_
  rintro _ w10 ⟨rfl, A10, cc10, ho10, hs10⟩
  clear c19 p9
  have st10 := (st9).trans hs10
  have lD10 : (D9 ++ lst Pk.int x.guards).length ≤ 41070200 := by rw [List.length_append]; have := (Nat.le_trans (lst_le x.guards (fun y _ => Pk.int_len y)) (by omega) : (lst Pk.int x.guards).length ≤ 10010); omega
  obtain ⟨D10, hD10⟩ := hid_ex (D9 ++ lst Pk.int x.guards)
  rw [hD10.out] at ho10 lD10
  have hb10 := hb0.fr st10.fr nb
  have hp10 := hp0.fr st10.fr np
  have hc10 := hc0.fr st10.fr nc
  have hx10 := hx0.fr st10.fr nx
  clear hb9 hp9 hc9 hx9 ho9 hs10 st9
  have c20 := (hb10.cell 20).trans e20.out
  have c21 := (hb10.cell 21).trans e21.out
  have p10 := hp10.cell 0
  go_wp2_with (fail)
  refine (ints_any w.heap.size (w.heap.size + 1) (w.heap.size + 1 + 1) w10.heap.size A10 cc10 D10 [x.need, x.wait] 2 _ (ho10.alloc (.cells #[.int .i64 x.need, .int .i64 x.wait] 3)) (hp10.alloc (.cells #[.int .i64 x.need, .int .i64 x.wait] 3)) (Blk.new w10 3 _) rfl (by omega) (all2 (P := I64) hok.need hok.wait) (by omega) (by omega)).mono ?_
  rintro _ w11 ⟨rfl, A11, cc11, ho11, hs11⟩
  clear c20 c21 p10
  have st11 := (st10.alloc (.cells #[.int .i64 x.need, .int .i64 x.wait] 3)).trans hs11
  have lD11 : (D10 ++ [x.need, x.wait].flatMap Pk.int).length ≤ 41070220 := by rw [List.length_append]; have := (ints2_len _ _ : ([x.need, x.wait].flatMap Pk.int).length ≤ 20); omega
  obtain ⟨D11, hD11⟩ := hid_ex (D10 ++ [x.need, x.wait].flatMap Pk.int)
  rw [hD11.out] at ho11 lD11
  have hb11 := hb0.fr st11.fr nb
  have hp11 := hp0.fr st11.fr np
  have hc11 := hc0.fr st11.fr nc
  have hx11 := hx0.fr st11.fr nx
  clear hb10 hp10 hc10 hx10 ho10 hs11 st10
  have c22 := (hb11.cell 22).trans e22.out
  have p11 := hp11.cell 0
  have q11 := hc11.cell 0
  go_wp2_with (fail)
  refine (putBx_any w.heap.size (w.heap.size + 1) (w.heap.size + 1 + 1) A11 cc11 D11 x.boxes x.boxesA _ x.boxesC _ ho11 rfl hok.boxes.2 hx11.boxes.1 (by omega) hp11).mono ?_
  rintro _ w12 ⟨rfl, A12, cc12, ho12, hs12⟩
  clear c22 p11 q11
  have st12 := (st11).trans hs12
  have lD12 : (D11 ++ lst Bx.bytes x.boxes).length ≤ 41110230 := by rw [List.length_append]; have := (Nat.le_trans (lst_le x.boxes (fun y _ => Bx.bytes_len y)) (by omega) : (lst Bx.bytes x.boxes).length ≤ 40010); omega
  obtain ⟨D12, hD12⟩ := hid_ex (D11 ++ lst Bx.bytes x.boxes)
  rw [hD12.out] at ho12 lD12
  have hb12 := hb0.fr st12.fr nb
  have hp12 := hp0.fr st12.fr np
  have hc12 := hc0.fr st12.fr nc
  have hx12 := hx0.fr st12.fr nx
  clear hb11 hp11 hc11 hx11 ho11 hs12 st11
  have c23 := (hb12.cell 23).trans e23.out
  have p12 := hp12.cell 0
  go_wp2_with (fail)
  refine (outNum_any w.heap.size (w.heap.size + 1) A12 cc12 D12 x.pub _ ho12 hok.pub (by omega)).mono ?_
  rintro _ w13 ⟨rfl, A13, cc13, ho13, hs13⟩
  clear c23 p12
  have st13 := (st12).trans hs13
  have lD13 : (D12 ++ Pk.num x.pub).length ≤ 41110240 := by rw [List.length_append]; have := (Pk.num_len _ : (Pk.num x.pub).length ≤ 10); omega
  obtain ⟨D13, hD13⟩ := hid_ex (D12 ++ Pk.num x.pub)
  rw [hD13.out] at ho13 lD13
  have hb13 := hb0.fr st13.fr nb
  have hp13 := hp0.fr st13.fr np
  have hc13 := hc0.fr st13.fr nc
  have hx13 := hx0.fr st13.fr nx
  clear hb12 hp12 hc12 hx12 ho12 hs13 st12
  have c24 := (hb13.cell 24).trans e24.out
  have p13 := hp13.cell 0
  go_wp2_with (fail)
  refine (putSl_any w.heap.size (w.heap.size + 1) (w.heap.size + 1 + 1) A13 cc13 D13 x.hist x.histA _ x.histC _ ho13 rfl o_hist hx13.hist.1 (by omega) hp13 hx13.seals).mono ?_
  rintro _ w14 ⟨rfl, A14, cc14, ho14, hs14⟩
  clear c24 p13
  have st14 := (st13).trans hs14
  have lD14 : (D13 ++ lst (fun x => x.sl.bytes) x.hist).length ≤ 1041150250 := by rw [List.length_append]; have := (Nat.le_trans (lst_le x.hist (fun y hy => Sl.bytes_len _ (o_hist y hy).2)) (by omega) : (lst (fun x => x.sl.bytes) x.hist).length ≤ 1000040010); omega
  obtain ⟨D14, hD14⟩ := hid_ex (D13 ++ lst (fun x => x.sl.bytes) x.hist)
  rw [hD14.out] at ho14 lD14
  have pz := (hp0.fr st14.fr np).cell 0
  go_wp2
  go_ret
  have e : D = D14 := by
    rw [← hD.out, ← hD14.out, ← hD13.out, ← hD12.out, ← hD11.out, ← hD10.out, ← hD9.out, ← hD8.out, ← hD7.out, ← hD6.out, ← hD5.out, ← hD4.out, ← hD3.out, ← hD2.out, ← hD1.out]
    unfold Op.bare
    simp [OpL.op, lst_map, Id.bytes, List.flatMap_cons]
  rw [e]
  exact ⟨A14, cc14, rfl, ho14, hf4.trans st14.fr (fun k hk e => by rcases e with e | e; omega; cases e)⟩
end Oq
end Go.Proofs.YtahcddlgghipjaaGreatDoor
