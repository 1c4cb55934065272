/-
  op.range1: whether all numbers of what a kind has may be.
      Conditions: the operation reads by its form.
    The reference's Boxes: may all boxes be.
      Conditions: the list reads as data.
    huddleref11.items: whether all numbers of lists are right.
      Conditions: the operation reads by its form.
    huddleref11.numbers: whether all numbers are right that are no lists'.
      Conditions: none.
-/
import Derived.Deep.CutBlock
import Derived.Deep.Cut
import Derived.Test.YtafonabghnogaaaGreatDoorGfM2
import Derived.Test.YtafonabghnogaaaGreatDoorGfM4
import Derived.Test.YtafonabghnogaaaGreatDoorGfM9
namespace Go.Proofs.YtafonabghnogaaaGreatDoor
open Go.RowKit Go.Maps
attribute [local go_sem ↓] Go.wp_at_zero Go.wp_at_succ
namespace Oq
attribute [local go_sem] Bool.not_false Bool.not_true

def OpL.ls (x : OpL) : Int := if x.kind = 3 then 0 else 1
def OpL.nd (x : OpL) : Int := if x.kind = 1 then 0 else 1
def OpL.mo (x : OpL) : Int := if x.kind = 1 then 20 else (x.guards.length : Int)
def OpL.mb (x : OpL) : Bool := if x.kind = 3 then ((inR x.mem 1 8 && x.dev == 0) || (x.mem == 0 && x.dev != 0)) else inR x.mem 1 8
/-- What of an operation may be, bit by bit. -/
def OpL.mayB (x : OpL) (j : Nat) : Bool := match j with
  | 0 => inR x.dev x.ls 12
  | 1 => inR x.old 1 12
  | 2 => x.mb
  | 3 => inR x.role 1 3
  | 5 => x.epoch.named
  | 6 => inR x.n 0 2147483647
  | 9 => x.of.named
  | 11 => inR x.need x.nd x.mo
  | 12 => inR x.wait 0 2147483647
  | 14 => pubOk x.pub
  | _ => true
def OpL.itemsL (x : OpL) : Bool := x.guards.all (fun n => inR n 1 12) && (x.refs.all fOk && (x.past.all Id.named && (x.path.all (fun y => pubOk y.p && y.xs.all Bx.may) && (x.boxes.all Bx.may && x.hist.all (fun y => y.f.named)))))
def OpL.loopB (x : OpL) (has : Nat) : Bool := (List.range 16).all (fun j => !has.testBit j || x.mayB j)
def OpL.rngB (x : OpL) (has : Nat) : Bool := inR x.by_ 1 12 && (inR x.sq 1 2147483647 && (inR x.at_ 0 2147483647 && (x.loopB has && x.itemsL)))
def RA (x : OpL) (has : Nat) (left : Lit → Bool) : Prop := ∀ j, j < 16 → left (.int .i64 ((2 ^ j : Nat) : Int)) = false → has.testBit j = true → x.mayB j = true
def mayIns : List (Nat × Int × Nat) := [(5, (1 : Int), 62), (9, (2 : Int), 65), (11, (4 : Int), 66), (15, (8 : Int), 69), (19, (64 : Int), 72), (23, (4096 : Int), 75), (29, (2048 : Int), 80), (33, (32 : Int), 83), (37, (512 : Int), 86), (41, (16384 : Int), 89)]
def mayBv (x : OpL) (t : Nat) : Bool := match t with
  | 62 => x.mayB 0
  | 65 => x.mayB 1
  | 66 => x.mayB 2
  | 69 => x.mayB 3
  | 72 => x.mayB 6
  | 75 => x.mayB 12
  | 80 => x.mayB 11
  | 83 => x.mayB 5
  | 86 => x.mayB 9
  | 89 => x.mayB 14
  | _ => false
def mayCv (x : OpL) (t : Nat) : Bool := match t with
  | 4 => x.mayB 0
  | 8 => x.mayB 1
  | 14 => x.mayB 3
  | 18 => x.mayB 6
  | 22 => x.mayB 12
  | 28 => x.mayB 11
  | 32 => x.mayB 5
  | 36 => x.mayB 9
  | 40 => x.mayB 14
  | _ => false
theorem may_ins (x : OpL) : ∀ y ∈ mayIns, ∃ j, j < 16 ∧ y.2.1 = ((2 ^ j : Nat) : Int) ∧ mayBv x y.2.2 = x.mayB j := by
  unfold mayIns
  refine List.forall_mem_cons.2 ⟨⟨0, by decide, rfl, rfl⟩, ?_⟩
  refine List.forall_mem_cons.2 ⟨⟨1, by decide, rfl, rfl⟩, ?_⟩
  refine List.forall_mem_cons.2 ⟨⟨2, by decide, rfl, rfl⟩, ?_⟩
  refine List.forall_mem_cons.2 ⟨⟨3, by decide, rfl, rfl⟩, ?_⟩
  refine List.forall_mem_cons.2 ⟨⟨6, by decide, rfl, rfl⟩, ?_⟩
  refine List.forall_mem_cons.2 ⟨⟨12, by decide, rfl, rfl⟩, ?_⟩
  refine List.forall_mem_cons.2 ⟨⟨11, by decide, rfl, rfl⟩, ?_⟩
  refine List.forall_mem_cons.2 ⟨⟨5, by decide, rfl, rfl⟩, ?_⟩
  refine List.forall_mem_cons.2 ⟨⟨9, by decide, rfl, rfl⟩, ?_⟩
  refine List.forall_mem_cons.2 ⟨⟨14, by decide, rfl, rfl⟩, ?_⟩
  exact fun y hy => absurd hy (by simp)
theorem may_out : ∀ j, j < 16 → (mayIns.find? (fun y => y.2.1 == ((2 ^ j : Nat) : Int))).isSome = false → j = 4 ∨ j = 7 ∨ j = 8 ∨ j = 10 ∨ j = 13 ∨ j = 15 := by decide
theorem RA.start {x : OpL} {has : Nat} {left : Lit → Bool} (h : ∀ j, j < 16 → left (.int .i64 ((2 ^ j : Nat) : Int)) = (mayIns.find? (fun y => y.2.1 == ((2 ^ j : Nat) : Int))).isSome) : RA x has left := by
  intro j hj hl _
  rw [h j hj] at hl
  rcases may_out j hj hl with rfl | rfl | rfl | rfl | rfl | rfl <;> rfl
theorem RA.step {x : OpL} {has j : Nat} {left : Lit → Bool} (h : RA x has left) (hj : j < 16) (hb : has.testBit j = true → x.mayB j = true) : RA x has (fun z => left z && !z.sameKey (.int .i64 ((2 ^ j : Nat) : Int))) := by
  intro i hi hl hbi
  by_cases hij : i = j
  · subst hij
    exact hb hbi
  · replace hl : (left (.int .i64 ((2 ^ i : Nat) : Int)) && !(Lit.int .i64 ((2 ^ i : Nat) : Int)).sameKey (.int .i64 ((2 ^ j : Nat) : Int))) = false := hl
    rw [pow_key hij] at hl
    exact h i hi (by simpa using hl) hbi
theorem RA.done {x : OpL} {has : Nat} {left : Lit → Bool} (h : RA x has left) (hl : ∀ kl, left kl = false) : x.loopB has = true := by
  unfold OpL.loopB
  rw [List.all_eq_true]
  intro j hj
  have hj' : j < 16 := by simpa using hj
  cases hb : has.testBit j with
  | false => rfl
  | true => rw [h j hj' (hl _) hb]; rfl
theorem loop_fail {x : OpL} {has j : Nat} (hj : j < 16) (hb : has.testBit j = true) (hm : x.mayB j = false) : x.loopB has = false := by
  unfold OpL.loopB
  rw [List.all_eq_false]
  exact ⟨j, by simpa using hj, by rw [hb, hm]; decide⟩

set_option maxRecDepth 100000 in
set_option maxHeartbeats 8000000 in
theorem range1_any (x : OpL) (has : Nat) (hhas : has < 65536) (w : World) (hat : x.at w w.heap.size) (hok : x.op.ok) : Calls Tryz.prog 116 #[.agg x.cells, .int .i64 (has : Int)] w (BoolPost (x.rngB has) w) := by
  have hb0 := Blk.new w 44 x.cells
  have f0 : Fr Non w (w.alloc (.cells x.cells 44)) := (Fr.refl Non w).alloc _
  have c0 : (w.alloc (.cells x.cells 44)).cell? ⟨w.heap.size, 0, none⟩ = some (.int .i64 x.by_) := hb0.cell 0
  have c1 : (w.alloc (.cells x.cells 44)).cell? ⟨w.heap.size, 1, none⟩ = some (.int .i64 x.sq) := hb0.cell 1
  have c2 : (w.alloc (.cells x.cells 44)).cell? ⟨w.heap.size, 2, none⟩ = some (.int .i64 x.kind) := hb0.cell 2
  have c3 : (w.alloc (.cells x.cells 44)).cell? ⟨w.heap.size, 3, none⟩ = some (.int .i64 x.at_) := hb0.cell 3
  have c4 : (w.alloc (.cells x.cells 44)).cell? ⟨w.heap.size, 4, none⟩ = some (.slice x.pastA x.past.length x.pastC) := hb0.cell 4
  have c5 : (w.alloc (.cells x.cells 44)).cell? ⟨w.heap.size, 5, none⟩ = some (.int .i64 x.dev) := hb0.cell 5
  have c6 : (w.alloc (.cells x.cells 44)).cell? ⟨w.heap.size, 6, none⟩ = some (.int .i64 x.old) := hb0.cell 6
  have c7 : (w.alloc (.cells x.cells 44)).cell? ⟨w.heap.size, 7, none⟩ = some (.int .i64 x.mem) := hb0.cell 7
  have c8 : (w.alloc (.cells x.cells 44)).cell? ⟨w.heap.size, 8, none⟩ = some (.int .i64 x.role) := hb0.cell 8
  have c9 : (w.alloc (.cells x.cells 44)).cell? ⟨w.heap.size, 9, none⟩ = some (.slice x.pathA x.path.length x.pathC) := hb0.cell 9
  have c10 : (w.alloc (.cells x.cells 44)).cell? ⟨w.heap.size, 10, none⟩ = some (.int .i64 x.epoch.b) := hb0.cell 10
  have c11 : (w.alloc (.cells x.cells 44)).cell? ⟨w.heap.size, 11, none⟩ = some (.int .i64 x.epoch.s) := hb0.cell 11
  have c12 : (w.alloc (.cells x.cells 44)).cell? ⟨w.heap.size, 12, none⟩ = some (.int .u64 (x.epoch.u : Int)) := hb0.cell 12
  have c13 : (w.alloc (.cells x.cells 44)).cell? ⟨w.heap.size, 13, none⟩ = some (.int .i64 x.n) := hb0.cell 13
  have c15 : (w.alloc (.cells x.cells 44)).cell? ⟨w.heap.size, 15, none⟩ = some (.slice x.refsA x.refs.length x.refsC) := hb0.cell 15
  have c16 : (w.alloc (.cells x.cells 44)).cell? ⟨w.heap.size, 16, none⟩ = some (.int .i64 x.of.b) := hb0.cell 16
  have c17 : (w.alloc (.cells x.cells 44)).cell? ⟨w.heap.size, 17, none⟩ = some (.int .i64 x.of.s) := hb0.cell 17
  have c18 : (w.alloc (.cells x.cells 44)).cell? ⟨w.heap.size, 18, none⟩ = some (.int .u64 (x.of.u : Int)) := hb0.cell 18
  have c19 : (w.alloc (.cells x.cells 44)).cell? ⟨w.heap.size, 19, none⟩ = some (.slice x.guardsA x.guards.length x.guardsC) := hb0.cell 19
  have c20 : (w.alloc (.cells x.cells 44)).cell? ⟨w.heap.size, 20, none⟩ = some (.int .i64 x.need) := hb0.cell 20
  have c21 : (w.alloc (.cells x.cells 44)).cell? ⟨w.heap.size, 21, none⟩ = some (.int .i64 x.wait) := hb0.cell 21
  have c22 : (w.alloc (.cells x.cells 44)).cell? ⟨w.heap.size, 22, none⟩ = some (.slice x.boxesA x.boxes.length x.boxesC) := hb0.cell 22
  have c23 : (w.alloc (.cells x.cells 44)).cell? ⟨w.heap.size, 23, none⟩ = some (.int .u64 (x.pub : Int)) := hb0.cell 23
  have c24 : (w.alloc (.cells x.cells 44)).cell? ⟨w.heap.size, 24, none⟩ = some (.slice x.histA x.hist.length x.histC) := hb0.cell 24
  have lguards : x.guards.length ≤ 1000000 := by have h := hok.guards.1; rw [show x.op.guards = x.guards from rfl] at h; omega
  have lrefs : x.refs.length ≤ 1000000 := by have h := hok.refs.1; rw [show x.op.refs = x.refs from rfl] at h; omega
  have lboxes : x.boxes.length ≤ 1000000 := by have h := hok.boxes.1; rw [show x.op.boxes = x.boxes from rfl] at h; omega
  have lnodes : ∀ y ∈ x.path, y.xs.length ≤ 1000000 := fun y hy => by have h := (hok.path.2 y.nd (List.mem_map.2 ⟨y, hy, rfl⟩)).2.1; rw [show y.nd.xs = y.xs from rfl] at h; omega
  have lpast : x.past.length ≤ 1000000 := by have h := hok.past.1; rw [show x.op.past = x.past from rfl] at h; omega
  have lpath : x.path.length ≤ 1000000 := by have h := hok.path.1; rw [show x.op.path = x.path.map NdL.nd from rfl, List.length_map] at h; omega
  have lhist : x.hist.length ≤ 1000000 := by have h := hok.hist.1; rw [show x.op.hist = x.hist.map SlL.sl from rfl, List.length_map] at h; omega
  have ki1 := Lib.hid (fun w' => in_any x.by_ 1 12 w')
  have ki2 := Lib.hid (fun w' => in_any x.sq 1 2147483647 w')
  have ki3 := Lib.hid (fun w' => in_any x.at_ 0 2147483647 w')
  have km := Lib.hid (fun w' => in_any x.mem 1 8 w')
  have kA1 := Lib.hid (fun (w' : World) (h : Fr Non w w') => all_int w.heap.size x.guards.length x.guardsC x.guardsA x.guards (fun n => inR n 1 12) w' rfl (hat.guards.1.fr h (fun _ _ e => e)) lguards (fun y _ w'' _ => guard_any y w''))
  have kA2 := Lib.hid (fun (w' : World) (h : Fr Non w w') => all_uint64 w.heap.size x.refs.length x.refsC x.refsA x.refs fOk w' rfl (hat.refs.1.fr h (fun _ _ e => e)) lrefs (fun y _ w'' _ => ok_any y w''))
  have kA3 := Lib.hid (fun (w' : World) (h : Fr Non w w') => all_Ident w.heap.size x.past.length x.pastC x.pastA x.past Id.named w' rfl (hat.past.1.fr h (fun _ _ e => e)) lpast (fun y _ w'' _ => named_any y w''))
  have kA4 := Lib.hid (fun (w' : World) (h : Fr Non w w') => all_Node w.heap.size x.path.length x.pathC x.pathA x.path (fun y => pubOk y.p && y.xs.all Bx.may) w' rfl (hat.path.1.fr h (fun _ _ e => e)) lpath (fun y hy w'' h' => noden_any w.heap.size y w'' ((hat.nodes y hy).fr (h.trans h' (fun _ _ e => e)) (fun _ _ e => e)) (lnodes y hy)))
  have kA5 := Lib.hid (fun (w' : World) (h : Fr Non w w') => all_Box w.heap.size x.boxes.length x.boxesC x.boxesA x.boxes Bx.may w' rfl (hat.boxes.1.fr h (fun _ _ e => e)) lboxes (fun y _ w'' _ => boxed_any y w''))
  have kA6 := Lib.hid (fun (w' : World) (h : Fr Non w w') => all_Sealed w.heap.size x.hist.length x.histC x.histA x.hist (fun y => y.f.named) w' rfl (hat.hist.1.fr h (fun _ _ e => e)) lhist (fun y _ w'' _ => sealn_any y w''))
  have hfin : Hid (x.rngB has = (inR x.by_ 1 12 && (inR x.sq 1 2147483647 && (inR x.at_ 0 2147483647 && (x.loopB has && (x.guards.all (fun n => inR n 1 12) && (x.refs.all fOk && (x.past.all Id.named && (x.path.all (fun y => pubOk y.p && y.xs.all Bx.may) && (x.boxes.all Bx.may && x.hist.all (fun y => y.f.named))))))))))) := rfl
  generalize x.rngB has = LB at *
  generalize inR x.by_ 1 12 = b1 at *
  generalize inR x.sq 1 2147483647 = b2 at *
  generalize inR x.at_ 0 2147483647 = b3 at *
  generalize (x.guards.all (fun n => inR n 1 12)) = g1 at *
  generalize (x.refs.all fOk) = g2 at *
  generalize (x.past.all Id.named) = g3 at *
  generalize (x.path.all (fun y => pubOk y.p && y.xs.all Bx.may)) = g4 at *
  generalize (x.boxes.all Bx.may) = g5 at *
  generalize (x.hist.all (fun y => y.f.named)) = g6 at *
  generalize x.cells = CS at *
  clear hb0 hat hok lpast lpath lhist lguards lrefs lnodes lboxes
  cases b1
  · have hv : Hid (false = LB) := by show _ = _; rw [hfin.out]; rfl
    clear hfin
    go_enter Tryz.func116, Tryz.ntmps116
    go_wp2_with (first
    | (go_at_call 156; (with_reducible refine (ki1.out _).mono ?_); rintro _ v1 ⟨rfl, f1⟩; have fz1 := f0.trans f1 (fun _ _ e => e); clear ki1; have c1_a := f1.cell c1 (fun e => e); have c2_a := f1.cell c2 (fun e => e); have c3_a := f1.cell c3 (fun e => e); have c4_a := f1.cell c4 (fun e => e); have c5_a := f1.cell c5 (fun e => e); have c6_a := f1.cell c6 (fun e => e); have c7_a := f1.cell c7 (fun e => e); have c8_a := f1.cell c8 (fun e => e); have c9_a := f1.cell c9 (fun e => e); have c10_a := f1.cell c10 (fun e => e); have c11_a := f1.cell c11 (fun e => e); have c12_a := f1.cell c12 (fun e => e); have c13_a := f1.cell c13 (fun e => e); have c15_a := f1.cell c15 (fun e => e); have c16_a := f1.cell c16 (fun e => e); have c17_a := f1.cell c17 (fun e => e); have c18_a := f1.cell c18 (fun e => e); have c19_a := f1.cell c19 (fun e => e); have c20_a := f1.cell c20 (fun e => e); have c21_a := f1.cell c21 (fun e => e); have c22_a := f1.cell c22 (fun e => e); have c23_a := f1.cell c23 (fun e => e); have c24_a := f1.cell c24 (fun e => e))
    | (go_at_call 156; (with_reducible refine (ki2.out _).mono ?_); rintro _ v2 ⟨rfl, f2⟩; have fz2 := fz1.trans f2 (fun _ _ e => e); clear ki2; have c2_b := f2.cell c2_a (fun e => e); have c3_b := f2.cell c3_a (fun e => e); have c4_b := f2.cell c4_a (fun e => e); have c5_b := f2.cell c5_a (fun e => e); have c6_b := f2.cell c6_a (fun e => e); have c7_b := f2.cell c7_a (fun e => e); have c8_b := f2.cell c8_a (fun e => e); have c9_b := f2.cell c9_a (fun e => e); have c10_b := f2.cell c10_a (fun e => e); have c11_b := f2.cell c11_a (fun e => e); have c12_b := f2.cell c12_a (fun e => e); have c13_b := f2.cell c13_a (fun e => e); have c15_b := f2.cell c15_a (fun e => e); have c16_b := f2.cell c16_a (fun e => e); have c17_b := f2.cell c17_a (fun e => e); have c18_b := f2.cell c18_a (fun e => e); have c19_b := f2.cell c19_a (fun e => e); have c20_b := f2.cell c20_a (fun e => e); have c21_b := f2.cell c21_a (fun e => e); have c22_b := f2.cell c22_a (fun e => e); have c23_b := f2.cell c23_a (fun e => e); have c24_b := f2.cell c24_a (fun e => e))
    | (go_at_call 156; (with_reducible refine (ki3.out _).mono ?_); rintro _ v3 ⟨rfl, f3⟩; have fz3 := fz2.trans f3 (fun _ _ e => e); clear ki3; have c2_c := f3.cell c2_b (fun e => e); have c4_c := f3.cell c4_b (fun e => e); have c5_c := f3.cell c5_b (fun e => e); have c6_c := f3.cell c6_b (fun e => e); have c7_c := f3.cell c7_b (fun e => e); have c8_c := f3.cell c8_b (fun e => e); have c9_c := f3.cell c9_b (fun e => e); have c10_c := f3.cell c10_b (fun e => e); have c11_c := f3.cell c11_b (fun e => e); have c12_c := f3.cell c12_b (fun e => e); have c13_c := f3.cell c13_b (fun e => e); have c15_c := f3.cell c15_b (fun e => e); have c16_c := f3.cell c16_b (fun e => e); have c17_c := f3.cell c17_b (fun e => e); have c18_c := f3.cell c18_b (fun e => e); have c19_c := f3.cell c19_b (fun e => e); have c20_c := f3.cell c20_b (fun e => e); have c21_c := f3.cell c21_b (fun e => e); have c22_c := f3.cell c22_b (fun e => e); have c23_c := f3.cell c23_b (fun e => e); have c24_c := f3.cell c24_b (fun e => e)))
    go_ret
    exact ⟨congrArg (fun z => Ending.returned (.bool z)) hv.out, fz1⟩
  cases b2
  · have hv : Hid (false = LB) := by show _ = _; rw [hfin.out]; rfl
    clear hfin
    go_enter Tryz.func116, Tryz.ntmps116
    go_wp2_with (first
    | (go_at_call 156; (with_reducible refine (ki1.out _).mono ?_); rintro _ v1 ⟨rfl, f1⟩; have fz1 := f0.trans f1 (fun _ _ e => e); clear ki1; have c1_a := f1.cell c1 (fun e => e); have c2_a := f1.cell c2 (fun e => e); have c3_a := f1.cell c3 (fun e => e); have c4_a := f1.cell c4 (fun e => e); have c5_a := f1.cell c5 (fun e => e); have c6_a := f1.cell c6 (fun e => e); have c7_a := f1.cell c7 (fun e => e); have c8_a := f1.cell c8 (fun e => e); have c9_a := f1.cell c9 (fun e => e); have c10_a := f1.cell c10 (fun e => e); have c11_a := f1.cell c11 (fun e => e); have c12_a := f1.cell c12 (fun e => e); have c13_a := f1.cell c13 (fun e => e); have c15_a := f1.cell c15 (fun e => e); have c16_a := f1.cell c16 (fun e => e); have c17_a := f1.cell c17 (fun e => e); have c18_a := f1.cell c18 (fun e => e); have c19_a := f1.cell c19 (fun e => e); have c20_a := f1.cell c20 (fun e => e); have c21_a := f1.cell c21 (fun e => e); have c22_a := f1.cell c22 (fun e => e); have c23_a := f1.cell c23 (fun e => e); have c24_a := f1.cell c24 (fun e => e))
    | (go_at_call 156; (with_reducible refine (ki2.out _).mono ?_); rintro _ v2 ⟨rfl, f2⟩; have fz2 := fz1.trans f2 (fun _ _ e => e); clear ki2; have c2_b := f2.cell c2_a (fun e => e); have c3_b := f2.cell c3_a (fun e => e); have c4_b := f2.cell c4_a (fun e => e); have c5_b := f2.cell c5_a (fun e => e); have c6_b := f2.cell c6_a (fun e => e); have c7_b := f2.cell c7_a (fun e => e); have c8_b := f2.cell c8_a (fun e => e); have c9_b := f2.cell c9_a (fun e => e); have c10_b := f2.cell c10_a (fun e => e); have c11_b := f2.cell c11_a (fun e => e); have c12_b := f2.cell c12_a (fun e => e); have c13_b := f2.cell c13_a (fun e => e); have c15_b := f2.cell c15_a (fun e => e); have c16_b := f2.cell c16_a (fun e => e); have c17_b := f2.cell c17_a (fun e => e); have c18_b := f2.cell c18_a (fun e => e); have c19_b := f2.cell c19_a (fun e => e); have c20_b := f2.cell c20_a (fun e => e); have c21_b := f2.cell c21_a (fun e => e); have c22_b := f2.cell c22_a (fun e => e); have c23_b := f2.cell c23_a (fun e => e); have c24_b := f2.cell c24_a (fun e => e))
    | (go_at_call 156; (with_reducible refine (ki3.out _).mono ?_); rintro _ v3 ⟨rfl, f3⟩; have fz3 := fz2.trans f3 (fun _ _ e => e); clear ki3; have c2_c := f3.cell c2_b (fun e => e); have c4_c := f3.cell c4_b (fun e => e); have c5_c := f3.cell c5_b (fun e => e); have c6_c := f3.cell c6_b (fun e => e); have c7_c := f3.cell c7_b (fun e => e); have c8_c := f3.cell c8_b (fun e => e); have c9_c := f3.cell c9_b (fun e => e); have c10_c := f3.cell c10_b (fun e => e); have c11_c := f3.cell c11_b (fun e => e); have c12_c := f3.cell c12_b (fun e => e); have c13_c := f3.cell c13_b (fun e => e); have c15_c := f3.cell c15_b (fun e => e); have c16_c := f3.cell c16_b (fun e => e); have c17_c := f3.cell c17_b (fun e => e); have c18_c := f3.cell c18_b (fun e => e); have c19_c := f3.cell c19_b (fun e => e); have c20_c := f3.cell c20_b (fun e => e); have c21_c := f3.cell c21_b (fun e => e); have c22_c := f3.cell c22_b (fun e => e); have c23_c := f3.cell c23_b (fun e => e); have c24_c := f3.cell c24_b (fun e => e)))
    go_ret
    exact ⟨congrArg (fun z => Ending.returned (.bool z)) hv.out, fz2⟩
  cases b3
  · have hv : Hid (false = LB) := by show _ = _; rw [hfin.out]; rfl
    clear hfin
    go_enter Tryz.func116, Tryz.ntmps116
    go_wp2_with (first
    | (go_at_call 156; (with_reducible refine (ki1.out _).mono ?_); rintro _ v1 ⟨rfl, f1⟩; have fz1 := f0.trans f1 (fun _ _ e => e); clear ki1; have c1_a := f1.cell c1 (fun e => e); have c2_a := f1.cell c2 (fun e => e); have c3_a := f1.cell c3 (fun e => e); have c4_a := f1.cell c4 (fun e => e); have c5_a := f1.cell c5 (fun e => e); have c6_a := f1.cell c6 (fun e => e); have c7_a := f1.cell c7 (fun e => e); have c8_a := f1.cell c8 (fun e => e); have c9_a := f1.cell c9 (fun e => e); have c10_a := f1.cell c10 (fun e => e); have c11_a := f1.cell c11 (fun e => e); have c12_a := f1.cell c12 (fun e => e); have c13_a := f1.cell c13 (fun e => e); have c15_a := f1.cell c15 (fun e => e); have c16_a := f1.cell c16 (fun e => e); have c17_a := f1.cell c17 (fun e => e); have c18_a := f1.cell c18 (fun e => e); have c19_a := f1.cell c19 (fun e => e); have c20_a := f1.cell c20 (fun e => e); have c21_a := f1.cell c21 (fun e => e); have c22_a := f1.cell c22 (fun e => e); have c23_a := f1.cell c23 (fun e => e); have c24_a := f1.cell c24 (fun e => e))
    | (go_at_call 156; (with_reducible refine (ki2.out _).mono ?_); rintro _ v2 ⟨rfl, f2⟩; have fz2 := fz1.trans f2 (fun _ _ e => e); clear ki2; have c2_b := f2.cell c2_a (fun e => e); have c3_b := f2.cell c3_a (fun e => e); have c4_b := f2.cell c4_a (fun e => e); have c5_b := f2.cell c5_a (fun e => e); have c6_b := f2.cell c6_a (fun e => e); have c7_b := f2.cell c7_a (fun e => e); have c8_b := f2.cell c8_a (fun e => e); have c9_b := f2.cell c9_a (fun e => e); have c10_b := f2.cell c10_a (fun e => e); have c11_b := f2.cell c11_a (fun e => e); have c12_b := f2.cell c12_a (fun e => e); have c13_b := f2.cell c13_a (fun e => e); have c15_b := f2.cell c15_a (fun e => e); have c16_b := f2.cell c16_a (fun e => e); have c17_b := f2.cell c17_a (fun e => e); have c18_b := f2.cell c18_a (fun e => e); have c19_b := f2.cell c19_a (fun e => e); have c20_b := f2.cell c20_a (fun e => e); have c21_b := f2.cell c21_a (fun e => e); have c22_b := f2.cell c22_a (fun e => e); have c23_b := f2.cell c23_a (fun e => e); have c24_b := f2.cell c24_a (fun e => e))
    | (go_at_call 156; (with_reducible refine (ki3.out _).mono ?_); rintro _ v3 ⟨rfl, f3⟩; have fz3 := fz2.trans f3 (fun _ _ e => e); clear ki3; have c2_c := f3.cell c2_b (fun e => e); have c4_c := f3.cell c4_b (fun e => e); have c5_c := f3.cell c5_b (fun e => e); have c6_c := f3.cell c6_b (fun e => e); have c7_c := f3.cell c7_b (fun e => e); have c8_c := f3.cell c8_b (fun e => e); have c9_c := f3.cell c9_b (fun e => e); have c10_c := f3.cell c10_b (fun e => e); have c11_c := f3.cell c11_b (fun e => e); have c12_c := f3.cell c12_b (fun e => e); have c13_c := f3.cell c13_b (fun e => e); have c15_c := f3.cell c15_b (fun e => e); have c16_c := f3.cell c16_b (fun e => e); have c17_c := f3.cell c17_b (fun e => e); have c18_c := f3.cell c18_b (fun e => e); have c19_c := f3.cell c19_b (fun e => e); have c20_c := f3.cell c20_b (fun e => e); have c21_c := f3.cell c21_b (fun e => e); have c22_c := f3.cell c22_b (fun e => e); have c23_c := f3.cell c23_b (fun e => e); have c24_c := f3.cell c24_b (fun e => e)))
    go_ret
    exact ⟨congrArg (fun z => Ending.returned (.bool z)) hv.out, fz3⟩
  replace hfin : Hid (LB = (x.loopB has && (g1 && (g2 && (g3 && (g4 && (g5 && g6))))))) := hfin
  go_enter Tryz.func116, Tryz.ntmps116
  go_wp2_with (first
    | (go_at_call 156; (with_reducible refine (ki1.out _).mono ?_); rintro _ v1 ⟨rfl, f1⟩; have fz1 := f0.trans f1 (fun _ _ e => e); clear ki1; have c1_a := f1.cell c1 (fun e => e); have c2_a := f1.cell c2 (fun e => e); have c3_a := f1.cell c3 (fun e => e); have c4_a := f1.cell c4 (fun e => e); have c5_a := f1.cell c5 (fun e => e); have c6_a := f1.cell c6 (fun e => e); have c7_a := f1.cell c7 (fun e => e); have c8_a := f1.cell c8 (fun e => e); have c9_a := f1.cell c9 (fun e => e); have c10_a := f1.cell c10 (fun e => e); have c11_a := f1.cell c11 (fun e => e); have c12_a := f1.cell c12 (fun e => e); have c13_a := f1.cell c13 (fun e => e); have c15_a := f1.cell c15 (fun e => e); have c16_a := f1.cell c16 (fun e => e); have c17_a := f1.cell c17 (fun e => e); have c18_a := f1.cell c18 (fun e => e); have c19_a := f1.cell c19 (fun e => e); have c20_a := f1.cell c20 (fun e => e); have c21_a := f1.cell c21 (fun e => e); have c22_a := f1.cell c22 (fun e => e); have c23_a := f1.cell c23 (fun e => e); have c24_a := f1.cell c24 (fun e => e))
    | (go_at_call 156; (with_reducible refine (ki2.out _).mono ?_); rintro _ v2 ⟨rfl, f2⟩; have fz2 := fz1.trans f2 (fun _ _ e => e); clear ki2; have c2_b := f2.cell c2_a (fun e => e); have c3_b := f2.cell c3_a (fun e => e); have c4_b := f2.cell c4_a (fun e => e); have c5_b := f2.cell c5_a (fun e => e); have c6_b := f2.cell c6_a (fun e => e); have c7_b := f2.cell c7_a (fun e => e); have c8_b := f2.cell c8_a (fun e => e); have c9_b := f2.cell c9_a (fun e => e); have c10_b := f2.cell c10_a (fun e => e); have c11_b := f2.cell c11_a (fun e => e); have c12_b := f2.cell c12_a (fun e => e); have c13_b := f2.cell c13_a (fun e => e); have c15_b := f2.cell c15_a (fun e => e); have c16_b := f2.cell c16_a (fun e => e); have c17_b := f2.cell c17_a (fun e => e); have c18_b := f2.cell c18_a (fun e => e); have c19_b := f2.cell c19_a (fun e => e); have c20_b := f2.cell c20_a (fun e => e); have c21_b := f2.cell c21_a (fun e => e); have c22_b := f2.cell c22_a (fun e => e); have c23_b := f2.cell c23_a (fun e => e); have c24_b := f2.cell c24_a (fun e => e))
    | (go_at_call 156; (with_reducible refine (ki3.out _).mono ?_); rintro _ v3 ⟨rfl, f3⟩; have fz3 := fz2.trans f3 (fun _ _ e => e); clear ki3; have c2_c := f3.cell c2_b (fun e => e); have c4_c := f3.cell c4_b (fun e => e); have c5_c := f3.cell c5_b (fun e => e); have c6_c := f3.cell c6_b (fun e => e); have c7_c := f3.cell c7_b (fun e => e); have c8_c := f3.cell c8_b (fun e => e); have c9_c := f3.cell c9_b (fun e => e); have c10_c := f3.cell c10_b (fun e => e); have c11_c := f3.cell c11_b (fun e => e); have c12_c := f3.cell c12_b (fun e => e); have c13_c := f3.cell c13_b (fun e => e); have c15_c := f3.cell c15_b (fun e => e); have c16_c := f3.cell c16_b (fun e => e); have c17_c := f3.cell c17_b (fun e => e); have c18_c := f3.cell c18_b (fun e => e); have c19_c := f3.cell c19_b (fun e => e); have c20_c := f3.cell c20_b (fun e => e); have c21_c := f3.cell c21_b (fun e => e); have c22_c := f3.cell c22_b (fun e => e); have c23_c := f3.cell c23_b (fun e => e); have c24_c := f3.cell c24_b (fun e => e)))
  go_quiet (fail)
  have fz4 : Fr Non w (v3.drewN nq) := fz3.drewN nq
  have c2_d : (v3.drewN nq).cell? ⟨w.heap.size, 2, none⟩ = some (.int .i64 x.kind) := c2_c
  have c4_d : (v3.drewN nq).cell? ⟨w.heap.size, 4, none⟩ = some (.slice x.pastA x.past.length x.pastC) := c4_c
  have c5_d : (v3.drewN nq).cell? ⟨w.heap.size, 5, none⟩ = some (.int .i64 x.dev) := c5_c
  have c6_d : (v3.drewN nq).cell? ⟨w.heap.size, 6, none⟩ = some (.int .i64 x.old) := c6_c
  have c7_d : (v3.drewN nq).cell? ⟨w.heap.size, 7, none⟩ = some (.int .i64 x.mem) := c7_c
  have c8_d : (v3.drewN nq).cell? ⟨w.heap.size, 8, none⟩ = some (.int .i64 x.role) := c8_c
  have c9_d : (v3.drewN nq).cell? ⟨w.heap.size, 9, none⟩ = some (.slice x.pathA x.path.length x.pathC) := c9_c
  have c10_d : (v3.drewN nq).cell? ⟨w.heap.size, 10, none⟩ = some (.int .i64 x.epoch.b) := c10_c
  have c11_d : (v3.drewN nq).cell? ⟨w.heap.size, 11, none⟩ = some (.int .i64 x.epoch.s) := c11_c
  have c12_d : (v3.drewN nq).cell? ⟨w.heap.size, 12, none⟩ = some (.int .u64 (x.epoch.u : Int)) := c12_c
  have c13_d : (v3.drewN nq).cell? ⟨w.heap.size, 13, none⟩ = some (.int .i64 x.n) := c13_c
  have c15_d : (v3.drewN nq).cell? ⟨w.heap.size, 15, none⟩ = some (.slice x.refsA x.refs.length x.refsC) := c15_c
  have c16_d : (v3.drewN nq).cell? ⟨w.heap.size, 16, none⟩ = some (.int .i64 x.of.b) := c16_c
  have c17_d : (v3.drewN nq).cell? ⟨w.heap.size, 17, none⟩ = some (.int .i64 x.of.s) := c17_c
  have c18_d : (v3.drewN nq).cell? ⟨w.heap.size, 18, none⟩ = some (.int .u64 (x.of.u : Int)) := c18_c
  have c19_d : (v3.drewN nq).cell? ⟨w.heap.size, 19, none⟩ = some (.slice x.guardsA x.guards.length x.guardsC) := c19_c
  have c20_d : (v3.drewN nq).cell? ⟨w.heap.size, 20, none⟩ = some (.int .i64 x.need) := c20_c
  have c21_d : (v3.drewN nq).cell? ⟨w.heap.size, 21, none⟩ = some (.int .i64 x.wait) := c21_c
  have c22_d : (v3.drewN nq).cell? ⟨w.heap.size, 22, none⟩ = some (.slice x.boxesA x.boxes.length x.boxesC) := c22_c
  have c23_d : (v3.drewN nq).cell? ⟨w.heap.size, 23, none⟩ = some (.int .u64 (x.pub : Int)) := c23_c
  have c24_d : (v3.drewN nq).cell? ⟨w.heap.size, 24, none⟩ = some (.slice x.histA x.hist.length x.histC) := c24_c
  generalize v3.drewN nq = v4 at *
  clear c2_c c4_c c5_c c6_c c7_c c8_c c9_c c10_c c11_c c12_c c13_c c15_c c16_c c17_c c18_c c19_c c20_c c21_c c22_c c23_c c24_c c2_b c3_b c4_b c5_b c6_b c7_b c8_b c9_b c10_b c11_b c12_b c13_b c15_b c16_b c17_b c18_b c19_b c20_b c21_b c22_b c23_b c24_b c1_a c2_a c3_a c4_a c5_a c6_a c7_a c8_a c9_a c10_a c11_a c12_a c13_a c15_a c16_a c17_a c18_a c19_a c20_a c21_a c22_a c23_a c24_a c0 c1 c2 c3 c4 c5 c6 c7 c8 c9 c10 c11 c12 c13 c15 c16 c17 c18 c19 c20 c21 c22 c23 c24
  go_upto_if 38 with (go_at_call 156; (with_reducible refine (km.out _).mono ?_); rintro _ v5 ⟨rfl, f5⟩; have fz5 := fz4.trans f5 (fun _ _ e => e); clear km; have c2 := f5.cell c2_d (fun e => e); have c4 := f5.cell c4_d (fun e => e); have c5 := f5.cell c5_d (fun e => e); have c6 := f5.cell c6_d (fun e => e); have c7 := f5.cell c7_d (fun e => e); have c8 := f5.cell c8_d (fun e => e); have c9 := f5.cell c9_d (fun e => e); have c10 := f5.cell c10_d (fun e => e); have c11 := f5.cell c11_d (fun e => e); have c12 := f5.cell c12_d (fun e => e); have c13 := f5.cell c13_d (fun e => e); have c15 := f5.cell c15_d (fun e => e); have c16 := f5.cell c16_d (fun e => e); have c17 := f5.cell c17_d (fun e => e); have c18 := f5.cell c18_d (fun e => e); have c19 := f5.cell c19_d (fun e => e); have c20 := f5.cell c20_d (fun e => e); have c21 := f5.cell c21_d (fun e => e); have c22 := f5.cell c22_d (fun e => e); have c23 := f5.cell c23_d (fun e => e); have c24 := f5.cell c24_d (fun e => e))
  clear c2_d c4_d c5_d c6_d c7_d c8_d c9_d c10_d c11_d c12_d c13_d c15_d c16_d c17_d c18_d c19_d c20_d c21_d c22_d c23_d c24_d fz4 f5
  generalize hv5 : v5 = W at *
  go_cut [5, 8] from 14 (fun a b wc => W = wc ∧ a = .int .i64 x.ls ∧ b = .bool x.mb)
  case first =>
    by_cases k3 : x.kind = 3
    · have h1 : Hid (x.ls = 0) := if_pos k3
      have hmb : Hid (x.mb = ((inR x.mem 1 8 && x.dev == 0) || (x.mem == 0 && x.dev != 0))) := if_pos k3
      have k3t := beq_t k3
      clear k3
      generalize inR x.mem 1 8 = m1 at *
      rcases Bool.eq_false_or_eq_true (x.dev == 0) with d0 | d0 <;> rcases Bool.eq_false_or_eq_true (x.mem == 0) with e0 | e0 <;> cases m1
      all_goals
        have d0' : (x.dev != 0) = !(x.dev == 0) := rfl
        rw [d0] at d0'
        have h2 := hmb.out
        rw [d0, e0, d0'] at h2
        replace h2 := Lib.hid h2
        clear hmb
        go_wp2_with (fail)
        go_meet
        exact ⟨rfl, congrArg (Value.int .i64) h1.out.symm, congrArg Value.bool h2.out.symm⟩
    · have h1 : Hid (x.ls = 1) := if_neg k3
      have h2 : Hid (x.mb = inR x.mem 1 8) := if_neg k3
      have k3t := beq_f k3
      clear k3
      go_wp2_with (fail)
      go_meet
      exact ⟨rfl, congrArg (Value.int .i64) h1.out.symm, congrArg Value.bool h2.out.symm⟩
  case rest =>
  obtain ⟨rfl, rfl, rfl⟩ := hcut
  go_upto_if 57 with (fail)
  go_cut [6, 7] from 14 (fun a b wc => W = wc ∧ a = .int .i64 x.nd ∧ b = .int .i64 x.mo)
  case first =>
    by_cases k3 : x.kind = 1
    · have h1 : Hid (x.nd = 0) := if_pos k3
      have h2 : Hid (x.mo = 20) := if_pos k3
      have k3t := beq_t k3
      clear k3
      go_wp2_with (fail)
      go_meet
      exact ⟨rfl, congrArg (Value.int .i64) h1.out.symm, congrArg (Value.int .i64) h2.out.symm⟩
    · have h1 : Hid (x.nd = 1) := if_neg k3
      have h2 : Hid (x.mo = (x.guards.length : Int)) := if_neg k3
      have k3t := beq_f k3
      clear k3
      go_wp2_with (fail)
      go_meet
      exact ⟨rfl, congrArg (Value.int .i64) h1.out.symm, congrArg (Value.int .i64) h2.out.symm⟩
  case rest =>
  obtain ⟨rfl, rfl, rfl⟩ := hcut
  go_upto_region 10 with (fail)

  have hS : (fun w' => w'.cell? ⟨w.heap.size, 5, none⟩ = some (.int .i64 x.dev) ∧ w'.cell? ⟨w.heap.size, 6, none⟩ = some (.int .i64 x.old) ∧ w'.cell? ⟨w.heap.size, 8, none⟩ = some (.int .i64 x.role) ∧ w'.cell? ⟨w.heap.size, 10, none⟩ = some (.int .i64 x.epoch.b) ∧ w'.cell? ⟨w.heap.size, 11, none⟩ = some (.int .i64 x.epoch.s) ∧ w'.cell? ⟨w.heap.size, 12, none⟩ = some (.int .u64 (x.epoch.u : Int)) ∧ w'.cell? ⟨w.heap.size, 13, none⟩ = some (.int .i64 x.n) ∧ w'.cell? ⟨w.heap.size, 16, none⟩ = some (.int .i64 x.of.b) ∧ w'.cell? ⟨w.heap.size, 17, none⟩ = some (.int .i64 x.of.s) ∧ w'.cell? ⟨w.heap.size, 18, none⟩ = some (.int .u64 (x.of.u : Int)) ∧ w'.cell? ⟨w.heap.size, 20, none⟩ = some (.int .i64 x.need) ∧ w'.cell? ⟨w.heap.size, 21, none⟩ = some (.int .i64 x.wait) ∧ w'.cell? ⟨w.heap.size, 23, none⟩ = some (.int .u64 (x.pub : Int))) W.drew := by
    and_intros
    · exact c5
    · exact c6
    · exact c8
    · exact c10
    · exact c11
    · exact c12
    · exact c13
    · exact c16
    · exact c17
    · exact c18
    · exact c20
    · exact c21
    · exact c23
  refine wp_region_held_drew (S := fun w' => w'.cell? ⟨w.heap.size, 5, none⟩ = some (.int .i64 x.dev) ∧ w'.cell? ⟨w.heap.size, 6, none⟩ = some (.int .i64 x.old) ∧ w'.cell? ⟨w.heap.size, 8, none⟩ = some (.int .i64 x.role) ∧ w'.cell? ⟨w.heap.size, 10, none⟩ = some (.int .i64 x.epoch.b) ∧ w'.cell? ⟨w.heap.size, 11, none⟩ = some (.int .i64 x.epoch.s) ∧ w'.cell? ⟨w.heap.size, 12, none⟩ = some (.int .u64 (x.epoch.u : Int)) ∧ w'.cell? ⟨w.heap.size, 13, none⟩ = some (.int .i64 x.n) ∧ w'.cell? ⟨w.heap.size, 16, none⟩ = some (.int .i64 x.of.b) ∧ w'.cell? ⟨w.heap.size, 17, none⟩ = some (.int .i64 x.of.s) ∧ w'.cell? ⟨w.heap.size, 18, none⟩ = some (.int .u64 (x.of.u : Int)) ∧ w'.cell? ⟨w.heap.size, 20, none⟩ = some (.int .i64 x.need) ∧ w'.cell? ⟨w.heap.size, 21, none⟩ = some (.int .i64 x.wait) ∧ w'.cell? ⟨w.heap.size, 23, none⟩ = some (.int .u64 (x.pub : Int))) (by kernel_rfl) hS (fun hHeld => ?_)
  clear hHeld
  try simp only [List.append_eq, List.cons_append, List.nil_append]
  replace c4 : W.drew.cell? ⟨w.heap.size, 4, none⟩ = some (.slice x.pastA x.past.length x.pastC) := c4
  replace c9 : W.drew.cell? ⟨w.heap.size, 9, none⟩ = some (.slice x.pathA x.path.length x.pathC) := c9
  replace c15 : W.drew.cell? ⟨w.heap.size, 15, none⟩ = some (.slice x.refsA x.refs.length x.refsC) := c15
  replace c19 : W.drew.cell? ⟨w.heap.size, 19, none⟩ = some (.slice x.guardsA x.guards.length x.guardsC) := c19
  replace c22 : W.drew.cell? ⟨w.heap.size, 22, none⟩ = some (.slice x.boxesA x.boxes.length x.boxesC) := c22
  replace c24 : W.drew.cell? ⟨w.heap.size, 24, none⟩ = some (.slice x.histA x.hist.length x.histC) := c24
  replace fz5 := fz5.drew
  clear c2 c7 c5 c6 c8 c10 c11 c12 c13 c16 c17 c18 c20 c21 c23
  generalize W.drew = w0 at *
  refine wpAnyH_takeL (i := 1) (v := ?_) rfl (by kernel_rfl) (by kernel_rfl) (by kernel_rfl) (fun _ _ _ h => h) (Or.inl ⟨by kernel_rfl, ?_⟩) hS ?_
  rotate_left
  focus (intro w' hSw; (try dsimp only at hSw); go_simp; (try with_reducible rfl))
  simp only [List.set]
  refine wpAnyH_takeL (i := 2) (v := ?_) rfl (by kernel_rfl) (by kernel_rfl) (by kernel_rfl) (fun _ _ _ h => h) (Or.inl ⟨by kernel_rfl, ?_⟩) hS ?_
  rotate_left
  focus (intro w' hSw; (try dsimp only at hSw); go_simp; (try with_reducible rfl))
  simp only [List.set]
  refine wpAnyH_takeL (i := 3) (v := ?_) rfl (by kernel_rfl) (by kernel_rfl) (by kernel_rfl) (fun _ _ _ h => h) (Or.inl ⟨by kernel_rfl, ?_⟩) hS ?_
  rotate_left
  focus (intro w' hSw; (try dsimp only at hSw); go_simp; (try with_reducible rfl))
  simp only [List.set]
  refine wpAnyH_takeL (i := 6) (v := ?_) rfl (by kernel_rfl) (by kernel_rfl) (by kernel_rfl) (fun _ _ _ h => h) (Or.inl ⟨by kernel_rfl, ?_⟩) hS ?_
  rotate_left
  focus (intro w' hSw; (try dsimp only at hSw); go_simp; (try with_reducible rfl))
  simp only [List.set]
  refine wpAnyH_takeL (i := 7) (v := ?_) rfl (by kernel_rfl) (by kernel_rfl) (by kernel_rfl) (fun _ _ _ h => h) (Or.inl ⟨by kernel_rfl, ?_⟩) hS ?_
  rotate_left
  focus (intro w' hSw; (try dsimp only at hSw); go_simp; (try with_reducible rfl))
  simp only [List.set]
  refine wpAnyH_takeL (i := 10) (v := ?_) rfl (by kernel_rfl) (by kernel_rfl) (by kernel_rfl) (fun _ _ _ h => h) (Or.inl ⟨by kernel_rfl, ?_⟩) hS ?_
  rotate_left
  focus (intro w' hSw; (try dsimp only at hSw); go_simp; (try with_reducible rfl))
  simp only [List.set]
  refine wpAnyH_takeL (i := 12) (v := ?_) rfl (by kernel_rfl) (by kernel_rfl) (by kernel_rfl) (fun _ _ _ h => h) (Or.inl ⟨by kernel_rfl, ?_⟩) hS ?_
  rotate_left
  focus (intro w' hSw; (try dsimp only at hSw); go_simp; (try with_reducible rfl))
  simp only [List.set]
  refine wpAnyH_takeL (i := 13) (v := ?_) rfl (by kernel_rfl) (by kernel_rfl) (by kernel_rfl) (fun _ _ _ h => h) (Or.inl ⟨by kernel_rfl, ?_⟩) hS ?_
  rotate_left
  focus (intro w' hSw; (try dsimp only at hSw); go_simp; (try with_reducible rfl))
  simp only [List.set]
  refine wpAnyH_takeL (i := 16) (v := ?_) rfl (by kernel_rfl) (by kernel_rfl) (by kernel_rfl) (fun _ _ _ h => h) (Or.inl ⟨by kernel_rfl, ?_⟩) hS ?_
  rotate_left
  focus (intro w' hSw; (try dsimp only at hSw); go_simp; (try with_reducible rfl))
  simp only [List.set]
  refine wpAnyH_takeL (i := 17) (v := ?_) rfl (by kernel_rfl) (by kernel_rfl) (by kernel_rfl) (fun _ _ _ h => h) (Or.inl ⟨by kernel_rfl, ?_⟩) hS ?_
  rotate_left
  focus (intro w' hSw; (try dsimp only at hSw); go_simp; (try with_reducible rfl))
  simp only [List.set]
  refine wpAnyH_takeL (i := 20) (v := ?_) rfl (by kernel_rfl) (by kernel_rfl) (by kernel_rfl) (fun _ _ _ h => h) (Or.inl ⟨by kernel_rfl, ?_⟩) hS ?_
  rotate_left
  focus (intro w' hSw; (try dsimp only at hSw); go_simp; (try with_reducible rfl))
  simp only [List.set]
  refine wpAnyH_takeL (i := 21) (v := ?_) rfl (by kernel_rfl) (by kernel_rfl) (by kernel_rfl) (fun _ _ _ h => h) (Or.inl ⟨by kernel_rfl, ?_⟩) hS ?_
  rotate_left
  focus (intro w' hSw; (try dsimp only at hSw); go_simp; (try with_reducible rfl))
  simp only [List.set]
  refine wpAnyH_takeL (i := 24) (v := ?_) rfl (by kernel_rfl) (by kernel_rfl) (by kernel_rfl) (fun _ _ _ h => h) (Or.inl ⟨by kernel_rfl, ?_⟩) hS ?_
  rotate_left
  focus (intro w' hSw; (try dsimp only at hSw); go_simp; (try with_reducible rfl))
  simp only [List.set]
  refine wpAnyH_takeL (i := 25) (v := ?_) rfl (by kernel_rfl) (by kernel_rfl) (by kernel_rfl) (fun _ _ _ h => h) (Or.inl ⟨by kernel_rfl, ?_⟩) hS ?_
  rotate_left
  focus (intro w' hSw; (try dsimp only at hSw); go_simp; (try with_reducible rfl))
  simp only [List.set]
  refine wpAnyH_takeL (i := 26) (v := ?_) rfl (by kernel_rfl) (by kernel_rfl) (by kernel_rfl) (fun _ _ _ h => h) (Or.inl ⟨by kernel_rfl, ?_⟩) hS ?_
  rotate_left
  focus (intro w' hSw; (try dsimp only at hSw); go_simp; (try with_reducible rfl))
  simp only [List.set]
  refine wpAnyH_takeL (i := 27) (v := ?_) rfl (by kernel_rfl) (by kernel_rfl) (by kernel_rfl) (fun _ _ _ h => h) (Or.inl ⟨by kernel_rfl, ?_⟩) hS ?_
  rotate_left
  focus (intro w' hSw; (try dsimp only at hSw); go_simp; (try with_reducible rfl))
  simp only [List.set]
  refine wpAnyH_takeL (i := 30) (v := ?_) rfl (by kernel_rfl) (by kernel_rfl) (by kernel_rfl) (fun _ _ _ h => h) (Or.inl ⟨by kernel_rfl, ?_⟩) hS ?_
  rotate_left
  focus (intro w' hSw; (try dsimp only at hSw); go_simp; (try with_reducible rfl))
  simp only [List.set]
  refine wpAnyH_takeL (i := 31) (v := ?_) rfl (by kernel_rfl) (by kernel_rfl) (by kernel_rfl) (fun _ _ _ h => h) (Or.inl ⟨by kernel_rfl, ?_⟩) hS ?_
  rotate_left
  focus (intro w' hSw; (try dsimp only at hSw); go_simp; (try with_reducible rfl))
  simp only [List.set]
  refine wpAnyH_takeL (i := 34) (v := ?_) rfl (by kernel_rfl) (by kernel_rfl) (by kernel_rfl) (fun _ _ _ h => h) (Or.inl ⟨by kernel_rfl, ?_⟩) hS ?_
  rotate_left
  focus (intro w' hSw; (try dsimp only at hSw); go_simp; (try with_reducible rfl))
  simp only [List.set]
  refine wpAnyH_takeL (i := 35) (v := ?_) rfl (by kernel_rfl) (by kernel_rfl) (by kernel_rfl) (fun _ _ _ h => h) (Or.inl ⟨by kernel_rfl, ?_⟩) hS ?_
  rotate_left
  focus (intro w' hSw; (try dsimp only at hSw); go_simp; (try with_reducible rfl))
  simp only [List.set]
  refine wpAnyH_takeL (i := 38) (v := ?_) rfl (by kernel_rfl) (by kernel_rfl) (by kernel_rfl) (fun _ _ _ h => h) (Or.inl ⟨by kernel_rfl, ?_⟩) hS ?_
  rotate_left
  focus (intro w' hSw; (try dsimp only at hSw); go_simp; (try with_reducible rfl))
  simp only [List.set]
  refine wpAnyH_takeL (i := 39) (v := ?_) rfl (by kernel_rfl) (by kernel_rfl) (by kernel_rfl) (fun _ _ _ h => h) (Or.inl ⟨by kernel_rfl, ?_⟩) hS ?_
  rotate_left
  focus (intro w' hSw; (try dsimp only at hSw); go_simp; (try with_reducible rfl))
  simp only [List.set]
  refine lit_regionL (H := Nat) 0 58 198 3 4 [4, 8, 14, 18, 22, 28, 32, 36, 40] mayIns (mayBv x) (mayCv x) _ _ ((Array.replicate 44 true).setIfInBounds 42 false |>.setIfInBounds 43 false) w0 2 (by decide) (by kernel_rfl) (by kernel_rfl) (by kernel_rfl) Tryz.underlying198 Tryz.underlying3 Tryz.underlying4 ?_ ?_ ?_ (by decide) ?_
  · clear hfin kA1 kA2 kA3 kA4 kA5 kA6
    refine List.forall_mem_cons.2 ⟨⟨62, _, _, _, _, #[.tmp 60, .tmp 61, .const (.int .i64 12)], rfl, by kernel_rfl, by kernel_rfl, fun a w' K ha hf hk => call_wp rfl Tryz.func156 (by kernel_rfl) rfl (vals := #[.int .i64 x.dev, .int .i64 x.ls, .int .i64 12]) (ha.trans (by kernel_rfl)) ((in_any x.dev x.ls 12 w').mono ?_)⟩, ?_⟩
    · rintro _ w'' ⟨rfl, f⟩
      exact ⟨_, rfl, hk w'' f⟩
    refine List.forall_mem_cons.2 ⟨⟨65, _, _, _, _, #[.tmp 64, .const (.int .i64 1), .const (.int .i64 12)], rfl, by kernel_rfl, by kernel_rfl, fun a w' K ha hf hk => call_wp rfl Tryz.func156 (by kernel_rfl) rfl (vals := #[.int .i64 x.old, .int .i64 1, .int .i64 12]) (ha.trans (by kernel_rfl)) ((in_any x.old 1 12 w').mono ?_)⟩, ?_⟩
    · rintro _ w'' ⟨rfl, f⟩
      exact ⟨_, rfl, hk w'' f⟩
    refine List.forall_mem_cons.2 ⟨⟨69, _, _, _, _, #[.tmp 68, .const (.int .i64 1), .const (.int .i64 3)], rfl, by kernel_rfl, by kernel_rfl, fun a w' K ha hf hk => call_wp rfl Tryz.func156 (by kernel_rfl) rfl (vals := #[.int .i64 x.role, .int .i64 1, .int .i64 3]) (ha.trans (by kernel_rfl)) ((in_any x.role 1 3 w').mono ?_)⟩, ?_⟩
    · rintro _ w'' ⟨rfl, f⟩
      exact ⟨_, rfl, hk w'' f⟩
    refine List.forall_mem_cons.2 ⟨⟨72, _, _, _, _, #[.tmp 71, .const (.int .i64 0), .const (.int .i64 2147483647)], rfl, by kernel_rfl, by kernel_rfl, fun a w' K ha hf hk => call_wp rfl Tryz.func156 (by kernel_rfl) rfl (vals := #[.int .i64 x.n, .int .i64 0, .int .i64 2147483647]) (ha.trans (by kernel_rfl)) ((in_any x.n 0 2147483647 w').mono ?_)⟩, ?_⟩
    · rintro _ w'' ⟨rfl, f⟩
      exact ⟨_, rfl, hk w'' f⟩
    refine List.forall_mem_cons.2 ⟨⟨75, _, _, _, _, #[.tmp 74, .const (.int .i64 0), .const (.int .i64 2147483647)], rfl, by kernel_rfl, by kernel_rfl, fun a w' K ha hf hk => call_wp rfl Tryz.func156 (by kernel_rfl) rfl (vals := #[.int .i64 x.wait, .int .i64 0, .int .i64 2147483647]) (ha.trans (by kernel_rfl)) ((in_any x.wait 0 2147483647 w').mono ?_)⟩, ?_⟩
    · rintro _ w'' ⟨rfl, f⟩
      exact ⟨_, rfl, hk w'' f⟩
    refine List.forall_mem_cons.2 ⟨⟨80, _, _, _, _, #[.tmp 77, .tmp 78, .tmp 79], rfl, by kernel_rfl, by kernel_rfl, fun a w' K ha hf hk => call_wp rfl Tryz.func156 (by kernel_rfl) rfl (vals := #[.int .i64 x.need, .int .i64 x.nd, .int .i64 x.mo]) (ha.trans (by kernel_rfl)) ((in_any x.need x.nd x.mo w').mono ?_)⟩, ?_⟩
    · rintro _ w'' ⟨rfl, f⟩
      exact ⟨_, rfl, hk w'' f⟩
    refine List.forall_mem_cons.2 ⟨⟨83, _, _, _, _, #[.tmp 82], rfl, by kernel_rfl, by kernel_rfl, fun a w' K ha hf hk => call_wp rfl Tryz.func157 (by kernel_rfl) rfl (vals := #[.agg #[.int .i64 x.epoch.b, .int .i64 x.epoch.s, .int .u64 (x.epoch.u : Int)]]) (ha.trans (by kernel_rfl)) ((named_any x.epoch w').mono ?_)⟩, ?_⟩
    · rintro _ w'' ⟨rfl, f⟩
      exact ⟨_, rfl, hk w'' f⟩
    refine List.forall_mem_cons.2 ⟨⟨86, _, _, _, _, #[.tmp 85], rfl, by kernel_rfl, by kernel_rfl, fun a w' K ha hf hk => call_wp rfl Tryz.func157 (by kernel_rfl) rfl (vals := #[.agg #[.int .i64 x.of.b, .int .i64 x.of.s, .int .u64 (x.of.u : Int)]]) (ha.trans (by kernel_rfl)) ((named_any x.of w').mono ?_)⟩, ?_⟩
    · rintro _ w'' ⟨rfl, f⟩
      exact ⟨_, rfl, hk w'' f⟩
    refine List.forall_mem_cons.2 ⟨⟨89, _, _, _, _, #[.tmp 88], rfl, by kernel_rfl, by kernel_rfl, fun a w' K ha hf hk => call_wp rfl Tryz.func158 (by kernel_rfl) rfl (vals := #[.int .u64 (x.pub : Int)]) (ha.trans (by kernel_rfl)) ((public_any x.pub w').mono ?_)⟩, ?_⟩
    · rintro _ w'' ⟨rfl, f⟩
      exact ⟨_, rfl, hk w'' f⟩
    exact fun y hy => absurd hy (by simp)
  · clear hfin kA1 kA2 kA3 kA4 kA5 kA6
    unfold mayIns
    refine List.forall_mem_cons.2 ⟨Or.inr ⟨4, by kernel_rfl, rfl⟩, ?_⟩
    refine List.forall_mem_cons.2 ⟨Or.inr ⟨8, by kernel_rfl, rfl⟩, ?_⟩
    refine List.forall_mem_cons.2 ⟨Or.inl ⟨by kernel_rfl, rfl⟩, ?_⟩
    refine List.forall_mem_cons.2 ⟨Or.inr ⟨14, by kernel_rfl, rfl⟩, ?_⟩
    refine List.forall_mem_cons.2 ⟨Or.inr ⟨18, by kernel_rfl, rfl⟩, ?_⟩
    refine List.forall_mem_cons.2 ⟨Or.inr ⟨22, by kernel_rfl, rfl⟩, ?_⟩
    refine List.forall_mem_cons.2 ⟨Or.inr ⟨28, by kernel_rfl, rfl⟩, ?_⟩
    refine List.forall_mem_cons.2 ⟨Or.inr ⟨32, by kernel_rfl, rfl⟩, ?_⟩
    refine List.forall_mem_cons.2 ⟨Or.inr ⟨36, by kernel_rfl, rfl⟩, ?_⟩
    refine List.forall_mem_cons.2 ⟨Or.inr ⟨40, by kernel_rfl, rfl⟩, ?_⟩
    exact fun y hy => absurd hy (by simp)
  · intro w' hf
    obtain ⟨q5, q6, q8, q10, q11, q12, q13, q16, q17, q18, q20, q21, q23⟩ := hS
    and_intros <;> first | exact hf.cell q5 (fun e => e) | exact hf.cell q6 (fun e => e) | exact hf.cell q8 (fun e => e) | exact hf.cell q10 (fun e => e) | exact hf.cell q11 (fun e => e) | exact hf.cell q12 (fun e => e) | exact hf.cell q13 (fun e => e) | exact hf.cell q16 (fun e => e) | exact hf.cell q17 (fun e => e) | exact hf.cell q18 (fun e => e) | exact hf.cell q20 (fun e => e) | exact hf.cell q21 (fun e => e) | exact hf.cell q23 (fun e => e)
  intro b w1 D n hF hb hown hn hsays
  rw [actOf_done ([none, none, none, none, none, none, none, none, none, none, none, none, none, none, none, none, none, none, none, none, none, none, none, none, none, none, none, none, none, none, none, none, none, none, none, none, none, none, none, none, none, none, none, none, none, none, none, none, none, none, none, none, none, none, none, none, none, none, some 0, none, none, none, some 4, none, none, some 8, none, none, none, some 14, none, none, some 18, none, none, some 22, none, none, none, none, some 28, none, none, some 32, none, none, some 36, none, none, some 40, none, none, none, none, none, none, none, none, none, none, none, none, none, none, none, none, none, none, none, none, none, none, none, none, none, none, none, none, none, none, none, none, none, none, none, none, none, none, none, none, none, none, none, none, none, none]) (by kernel_rfl) (by decide)]
  dsimp only [List.zipWith_cons_cons, List.zipWith_nil_left]
  simp only [if_true]
  have hSw : (fun w' => w'.cell? ⟨w.heap.size, 5, none⟩ = some (.int .i64 x.dev) ∧ w'.cell? ⟨w.heap.size, 6, none⟩ = some (.int .i64 x.old) ∧ w'.cell? ⟨w.heap.size, 8, none⟩ = some (.int .i64 x.role) ∧ w'.cell? ⟨w.heap.size, 10, none⟩ = some (.int .i64 x.epoch.b) ∧ w'.cell? ⟨w.heap.size, 11, none⟩ = some (.int .i64 x.epoch.s) ∧ w'.cell? ⟨w.heap.size, 12, none⟩ = some (.int .u64 (x.epoch.u : Int)) ∧ w'.cell? ⟨w.heap.size, 13, none⟩ = some (.int .i64 x.n) ∧ w'.cell? ⟨w.heap.size, 16, none⟩ = some (.int .i64 x.of.b) ∧ w'.cell? ⟨w.heap.size, 17, none⟩ = some (.int .i64 x.of.s) ∧ w'.cell? ⟨w.heap.size, 18, none⟩ = some (.int .u64 (x.of.u : Int)) ∧ w'.cell? ⟨w.heap.size, 20, none⟩ = some (.int .i64 x.need) ∧ w'.cell? ⟨w.heap.size, 21, none⟩ = some (.int .i64 x.wait) ∧ w'.cell? ⟨w.heap.size, 23, none⟩ = some (.int .u64 (x.pub : Int))) w1 := by
    obtain ⟨q5, q6, q8, q10, q11, q12, q13, q16, q17, q18, q20, q21, q23⟩ := hS
    and_intros <;> first | exact hF.cell q5 (fun e => e) | exact hF.cell q6 (fun e => e) | exact hF.cell q8 (fun e => e) | exact hF.cell q10 (fun e => e) | exact hF.cell q11 (fun e => e) | exact hF.cell q12 (fun e => e) | exact hF.cell q13 (fun e => e) | exact hF.cell q16 (fun e => e) | exact hF.cell q17 (fun e => e) | exact hF.cell q18 (fun e => e) | exact hF.cell q20 (fun e => e) | exact hF.cell q21 (fun e => e) | exact hF.cell q23 (fun e => e)
  refine wpAnyH_takeL (i := 42) (v := ?_) rfl (by kernel_rfl) (by kernel_rfl) (by kernel_rfl) (fun _ _ _ h => h) (Or.inl ⟨by kernel_rfl, ?_⟩) hSw ?_
  rotate_left
  focus (intro w' hSw; (try dsimp only at hSw); go_simp; (try with_reducible rfl))
  simp only [List.set]
  refine wpAnyH_onlyL 43 (by kernel_rfl) rfl (fun K hK => ?_)
  refine range_wp rfl rfl hown (int_keyed Tryz.underlying3) Tryz.underlying198 ?_
  intro w2 hrg hgr hsz
  have hFg := Fr.ofGrown hgr (fun k hk => by cases hk)
  have hFF := hF.trans hFg (fun _ _ e => e)
  have hF2 := fz5.trans hFF (fun _ _ e => e)
  refine hK.out _ _ ?_ (fun _ => ?_)
  · obtain ⟨q5, q6, q8, q10, q11, q12, q13, q16, q17, q18, q20, q21, q23⟩ := hSw
    and_intros <;> first | exact hFg.cell q5 (fun e => e) | exact hFg.cell q6 (fun e => e) | exact hFg.cell q8 (fun e => e) | exact hFg.cell q10 (fun e => e) | exact hFg.cell q11 (fun e => e) | exact hFg.cell q12 (fun e => e) | exact hFg.cell q13 (fun e => e) | exact hFg.cell q16 (fun e => e) | exact hFg.cell q17 (fun e => e) | exact hFg.cell q18 (fun e => e) | exact hFg.cell q20 (fun e => e) | exact hFg.cell q21 (fun e => e) | exact hFg.cell q23 (fun e => e)
  clear hK K
  rw [put_lit']
  simp only [List.set]
  refine wpAnyH_done (by kernel_rfl) ?_ _
  have hlt1 : w.heap.size < w1.heap.size := Nat.lt_of_lt_of_le (World.block_lt_of_cell? _ _ c19) hF.size
  replace c4 := hFF.cell c4 (fun e => e)
  replace c9 := hFF.cell c9 (fun e => e)
  replace c15 := hFF.cell c15 (fun e => e)
  replace c19 := hFF.cell c19 (fun e => e)
  replace c22 := hFF.cell c22 (fun e => e)
  replace c24 := hFF.cell c24 (fun e => e)
  have hF1s := (fz5.trans hF (fun _ _ e => e)).size
  clear hSw hS hFF hFg hF fz5
  go_simp
  go_wp2_with (fail)
  go_loopw [] (fun wr => ∃ (left : Lit → Bool) (cnt : Nat), wr.ranges Tryz.prog 3 (plainElem Tryz.prog 4) b w1.heap.size n D left cnt ∧ Hid (RA x has left) ∧ Fr Non w wr ∧ Fr (fun k => w1.heap.size ≤ k) w2 wr) (fun wr => wr.rangeLeft b w1.heap.size)
  case atStart => exact ⟨_, _, hrg, RA.start (fun j hj => by rw [(hsays.2 _).1, Option.isSome_map]), hF2, Fr.refl _ _⟩
  case round =>
    obtain ⟨left, cnt, hrg, hRA, hF, hFr⟩ := hrel
    clear hF2
    go_wp2_with (first
      | (at_next; refine wpList_next_ib _ rfl _ rfl 3 4 Tryz.underlying3 Tryz.underlying4 b w1.heap.size n D left cnt rfl hrg ?_ ?_)
      | go_in)
    · intro hc0 hl0
      have hd := RA.done hRA hl0
      replace hfin : Hid (LB = (g1 && (g2 && (g3 && (g4 && (g5 && g6)))))) := by show _ = _; rw [hfin.out, hd]; rfl
      subst hc0
      clear hrg hd hl0 hRA hsays
      replace c4 := hFr.cell c4 (by show ¬ w1.heap.size ≤ w.heap.size; omega)
      replace c9 := hFr.cell c9 (by show ¬ w1.heap.size ≤ w.heap.size; omega)
      replace c15 := hFr.cell c15 (by show ¬ w1.heap.size ≤ w.heap.size; omega)
      replace c19 := hFr.cell c19 (by show ¬ w1.heap.size ≤ w.heap.size; omega)
      replace c22 := hFr.cell c22 (by show ¬ w1.heap.size ≤ w.heap.size; omega)
      replace c24 := hFr.cell c24 (by show ¬ w1.heap.size ≤ w.heap.size; omega)
      cases g1
      · have hv : Hid (false = LB) := hfin.out.symm
        clear hfin
        go_wp2_with (first | (go_at_call 164; (with_reducible refine (kA1.out _ hF).mono ?_); rintro _ v0 ⟨rfl, e0⟩; have hF := hF.trans e0 (fun _ _ e => e); have c15 := e0.cell c15 (fun e => e); have c4 := e0.cell c4 (fun e => e); have c9 := e0.cell c9 (fun e => e); have c22 := e0.cell c22 (fun e => e); have c24 := e0.cell c24 (fun e => e)) | (go_at_call 165; (with_reducible refine (kA2.out _ hF).mono ?_); rintro _ v1 ⟨rfl, e1⟩; have hF := hF.trans e1 (fun _ _ e => e); have c4 := e1.cell c4 (fun e => e); have c9 := e1.cell c9 (fun e => e); have c22 := e1.cell c22 (fun e => e); have c24 := e1.cell c24 (fun e => e)) | (go_at_call 167; (with_reducible refine (kA3.out _ hF).mono ?_); rintro _ v2 ⟨rfl, e2⟩; have hF := hF.trans e2 (fun _ _ e => e); have c9 := e2.cell c9 (fun e => e); have c22 := e2.cell c22 (fun e => e); have c24 := e2.cell c24 (fun e => e)) | (go_at_call 168; (with_reducible refine (kA4.out _ hF).mono ?_); rintro _ v3 ⟨rfl, e3⟩; have hF := hF.trans e3 (fun _ _ e => e); have c22 := e3.cell c22 (fun e => e); have c24 := e3.cell c24 (fun e => e)) | (go_at_call 160; (with_reducible refine (kA5.out _ hF).mono ?_); rintro _ v4 ⟨rfl, e4⟩; have hF := hF.trans e4 (fun _ _ e => e); have c24 := e4.cell c24 (fun e => e)) | (go_at_call 169; (with_reducible refine (kA6.out _ hF).mono ?_); rintro _ v5 ⟨rfl, e5⟩; have hF := hF.trans e5 (fun _ _ e => e)))
        go_ret
        exact ⟨congrArg (fun z => Ending.returned (.bool z)) hv.out, hF⟩
      cases g2
      · have hv : Hid (false = LB) := hfin.out.symm
        clear hfin
        go_wp2_with (first | (go_at_call 164; (with_reducible refine (kA1.out _ hF).mono ?_); rintro _ v0 ⟨rfl, e0⟩; have hF := hF.trans e0 (fun _ _ e => e); have c15 := e0.cell c15 (fun e => e); have c4 := e0.cell c4 (fun e => e); have c9 := e0.cell c9 (fun e => e); have c22 := e0.cell c22 (fun e => e); have c24 := e0.cell c24 (fun e => e)) | (go_at_call 165; (with_reducible refine (kA2.out _ hF).mono ?_); rintro _ v1 ⟨rfl, e1⟩; have hF := hF.trans e1 (fun _ _ e => e); have c4 := e1.cell c4 (fun e => e); have c9 := e1.cell c9 (fun e => e); have c22 := e1.cell c22 (fun e => e); have c24 := e1.cell c24 (fun e => e)) | (go_at_call 167; (with_reducible refine (kA3.out _ hF).mono ?_); rintro _ v2 ⟨rfl, e2⟩; have hF := hF.trans e2 (fun _ _ e => e); have c9 := e2.cell c9 (fun e => e); have c22 := e2.cell c22 (fun e => e); have c24 := e2.cell c24 (fun e => e)) | (go_at_call 168; (with_reducible refine (kA4.out _ hF).mono ?_); rintro _ v3 ⟨rfl, e3⟩; have hF := hF.trans e3 (fun _ _ e => e); have c22 := e3.cell c22 (fun e => e); have c24 := e3.cell c24 (fun e => e)) | (go_at_call 160; (with_reducible refine (kA5.out _ hF).mono ?_); rintro _ v4 ⟨rfl, e4⟩; have hF := hF.trans e4 (fun _ _ e => e); have c24 := e4.cell c24 (fun e => e)) | (go_at_call 169; (with_reducible refine (kA6.out _ hF).mono ?_); rintro _ v5 ⟨rfl, e5⟩; have hF := hF.trans e5 (fun _ _ e => e)))
        go_ret
        exact ⟨congrArg (fun z => Ending.returned (.bool z)) hv.out, hF⟩
      cases g3
      · have hv : Hid (false = LB) := hfin.out.symm
        clear hfin
        go_wp2_with (first | (go_at_call 164; (with_reducible refine (kA1.out _ hF).mono ?_); rintro _ v0 ⟨rfl, e0⟩; have hF := hF.trans e0 (fun _ _ e => e); have c15 := e0.cell c15 (fun e => e); have c4 := e0.cell c4 (fun e => e); have c9 := e0.cell c9 (fun e => e); have c22 := e0.cell c22 (fun e => e); have c24 := e0.cell c24 (fun e => e)) | (go_at_call 165; (with_reducible refine (kA2.out _ hF).mono ?_); rintro _ v1 ⟨rfl, e1⟩; have hF := hF.trans e1 (fun _ _ e => e); have c4 := e1.cell c4 (fun e => e); have c9 := e1.cell c9 (fun e => e); have c22 := e1.cell c22 (fun e => e); have c24 := e1.cell c24 (fun e => e)) | (go_at_call 167; (with_reducible refine (kA3.out _ hF).mono ?_); rintro _ v2 ⟨rfl, e2⟩; have hF := hF.trans e2 (fun _ _ e => e); have c9 := e2.cell c9 (fun e => e); have c22 := e2.cell c22 (fun e => e); have c24 := e2.cell c24 (fun e => e)) | (go_at_call 168; (with_reducible refine (kA4.out _ hF).mono ?_); rintro _ v3 ⟨rfl, e3⟩; have hF := hF.trans e3 (fun _ _ e => e); have c22 := e3.cell c22 (fun e => e); have c24 := e3.cell c24 (fun e => e)) | (go_at_call 160; (with_reducible refine (kA5.out _ hF).mono ?_); rintro _ v4 ⟨rfl, e4⟩; have hF := hF.trans e4 (fun _ _ e => e); have c24 := e4.cell c24 (fun e => e)) | (go_at_call 169; (with_reducible refine (kA6.out _ hF).mono ?_); rintro _ v5 ⟨rfl, e5⟩; have hF := hF.trans e5 (fun _ _ e => e)))
        go_ret
        exact ⟨congrArg (fun z => Ending.returned (.bool z)) hv.out, hF⟩
      cases g4
      · have hv : Hid (false = LB) := hfin.out.symm
        clear hfin
        go_wp2_with (first | (go_at_call 164; (with_reducible refine (kA1.out _ hF).mono ?_); rintro _ v0 ⟨rfl, e0⟩; have hF := hF.trans e0 (fun _ _ e => e); have c15 := e0.cell c15 (fun e => e); have c4 := e0.cell c4 (fun e => e); have c9 := e0.cell c9 (fun e => e); have c22 := e0.cell c22 (fun e => e); have c24 := e0.cell c24 (fun e => e)) | (go_at_call 165; (with_reducible refine (kA2.out _ hF).mono ?_); rintro _ v1 ⟨rfl, e1⟩; have hF := hF.trans e1 (fun _ _ e => e); have c4 := e1.cell c4 (fun e => e); have c9 := e1.cell c9 (fun e => e); have c22 := e1.cell c22 (fun e => e); have c24 := e1.cell c24 (fun e => e)) | (go_at_call 167; (with_reducible refine (kA3.out _ hF).mono ?_); rintro _ v2 ⟨rfl, e2⟩; have hF := hF.trans e2 (fun _ _ e => e); have c9 := e2.cell c9 (fun e => e); have c22 := e2.cell c22 (fun e => e); have c24 := e2.cell c24 (fun e => e)) | (go_at_call 168; (with_reducible refine (kA4.out _ hF).mono ?_); rintro _ v3 ⟨rfl, e3⟩; have hF := hF.trans e3 (fun _ _ e => e); have c22 := e3.cell c22 (fun e => e); have c24 := e3.cell c24 (fun e => e)) | (go_at_call 160; (with_reducible refine (kA5.out _ hF).mono ?_); rintro _ v4 ⟨rfl, e4⟩; have hF := hF.trans e4 (fun _ _ e => e); have c24 := e4.cell c24 (fun e => e)) | (go_at_call 169; (with_reducible refine (kA6.out _ hF).mono ?_); rintro _ v5 ⟨rfl, e5⟩; have hF := hF.trans e5 (fun _ _ e => e)))
        go_ret
        exact ⟨congrArg (fun z => Ending.returned (.bool z)) hv.out, hF⟩
      cases g5
      · have hv : Hid (false = LB) := hfin.out.symm
        clear hfin
        go_wp2_with (first | (go_at_call 164; (with_reducible refine (kA1.out _ hF).mono ?_); rintro _ v0 ⟨rfl, e0⟩; have hF := hF.trans e0 (fun _ _ e => e); have c15 := e0.cell c15 (fun e => e); have c4 := e0.cell c4 (fun e => e); have c9 := e0.cell c9 (fun e => e); have c22 := e0.cell c22 (fun e => e); have c24 := e0.cell c24 (fun e => e)) | (go_at_call 165; (with_reducible refine (kA2.out _ hF).mono ?_); rintro _ v1 ⟨rfl, e1⟩; have hF := hF.trans e1 (fun _ _ e => e); have c4 := e1.cell c4 (fun e => e); have c9 := e1.cell c9 (fun e => e); have c22 := e1.cell c22 (fun e => e); have c24 := e1.cell c24 (fun e => e)) | (go_at_call 167; (with_reducible refine (kA3.out _ hF).mono ?_); rintro _ v2 ⟨rfl, e2⟩; have hF := hF.trans e2 (fun _ _ e => e); have c9 := e2.cell c9 (fun e => e); have c22 := e2.cell c22 (fun e => e); have c24 := e2.cell c24 (fun e => e)) | (go_at_call 168; (with_reducible refine (kA4.out _ hF).mono ?_); rintro _ v3 ⟨rfl, e3⟩; have hF := hF.trans e3 (fun _ _ e => e); have c22 := e3.cell c22 (fun e => e); have c24 := e3.cell c24 (fun e => e)) | (go_at_call 160; (with_reducible refine (kA5.out _ hF).mono ?_); rintro _ v4 ⟨rfl, e4⟩; have hF := hF.trans e4 (fun _ _ e => e); have c24 := e4.cell c24 (fun e => e)) | (go_at_call 169; (with_reducible refine (kA6.out _ hF).mono ?_); rintro _ v5 ⟨rfl, e5⟩; have hF := hF.trans e5 (fun _ _ e => e)))
        go_ret
        exact ⟨congrArg (fun z => Ending.returned (.bool z)) hv.out, hF⟩
      have hv : Hid (g6 = LB) := hfin.out.symm
      clear hfin
      go_wp2_with (first | (go_at_call 164; (with_reducible refine (kA1.out _ hF).mono ?_); rintro _ v0 ⟨rfl, e0⟩; have hF := hF.trans e0 (fun _ _ e => e); have c15 := e0.cell c15 (fun e => e); have c4 := e0.cell c4 (fun e => e); have c9 := e0.cell c9 (fun e => e); have c22 := e0.cell c22 (fun e => e); have c24 := e0.cell c24 (fun e => e)) | (go_at_call 165; (with_reducible refine (kA2.out _ hF).mono ?_); rintro _ v1 ⟨rfl, e1⟩; have hF := hF.trans e1 (fun _ _ e => e); have c4 := e1.cell c4 (fun e => e); have c9 := e1.cell c9 (fun e => e); have c22 := e1.cell c22 (fun e => e); have c24 := e1.cell c24 (fun e => e)) | (go_at_call 167; (with_reducible refine (kA3.out _ hF).mono ?_); rintro _ v2 ⟨rfl, e2⟩; have hF := hF.trans e2 (fun _ _ e => e); have c9 := e2.cell c9 (fun e => e); have c22 := e2.cell c22 (fun e => e); have c24 := e2.cell c24 (fun e => e)) | (go_at_call 168; (with_reducible refine (kA4.out _ hF).mono ?_); rintro _ v3 ⟨rfl, e3⟩; have hF := hF.trans e3 (fun _ _ e => e); have c22 := e3.cell c22 (fun e => e); have c24 := e3.cell c24 (fun e => e)) | (go_at_call 160; (with_reducible refine (kA5.out _ hF).mono ?_); rintro _ v4 ⟨rfl, e4⟩; have hF := hF.trans e4 (fun _ _ e => e); have c24 := e4.cell c24 (fun e => e)) | (go_at_call 169; (with_reducible refine (kA6.out _ hF).mono ?_); rintro _ v5 ⟨rfl, e5⟩; have hF := hF.trans e5 (fun _ _ e => e)))
      go_ret
      exact ⟨congrArg (fun z => Ending.returned (.bool z)) hv.out, hF⟩
    · intro k v w3 cnt3 hv hlk hrg3 hlt3 hgr3 hsz3 hen
      clear kA1 kA2 kA3 kA4 kA5 kA6 c4 c9 c15 c19 c22 c24
      obtain ⟨c, rfl, hfc⟩ := hsays.entry hv
      obtain ⟨y, hy1, hy2⟩ := Option.map_eq_some_iff.1 hfc
      have hyk := List.find?_some hy1
      obtain ⟨j, hj, hk, hbv⟩ := may_ins x y (List.mem_of_find?_eq_some hy1)
      obtain rfl : y.2.1 = k := by simpa using hyk
      rw [hk] at hlk hrg3 hen ⊢
      have hc : x.mayB j = c := by rw [← hbv, hy2]
      have hgF : Fr (fun k => some w1.heap.size = some k) wr w3 := Fr.grown (Fr.refl _ _) hgr3 (fun k hk _ => hk)
      have hF3 : Fr Non w w3 := hF.trans hgF (fun i hi e => by cases e; have := hF1s; omega)
      have hFr3 : Fr (fun k => w1.heap.size ≤ k) w2 w3 := hFr.trans hgF (fun i hi e => by cases e; exact Nat.le_refl _)
      have hme : w3.rangeLeft b w1.heap.size < wr.rangeLeft b w1.heap.size := by rw [hrg3.left_eq, hrg.left_eq]; exact hlt3
      have hnd := and_bit has j hhas hj
      have hne : (bits .and .i64 (has : Int) ((2 ^ j : Nat) : Int) != 0) = has.testBit j := by rw [bne, ← Bool.not_not (has.testBit j), ← hnd]; rfl
      have hRA2 := Lib.hid (RA.step (x := x) (has := has) (j := j) hRA hj)
      have hno := Lib.hid (fun h1 h2 => loop_fail (x := x) (has := has) hj h1 h2)
      generalize hpj : ((2 ^ j : Nat) : Int) = pj at *
      clear hv hfc hy1 hy2 hyk hk hbv hrg hnd hsays
      generalize htb : has.testBit j = tb at *
      generalize x.mayB j = mj at *
      subst hc
      cases tb <;> cases mj
      case true.false =>
        have hv : Hid (false = LB) := by show _ = _; rw [hfin.out, hno.out rfl rfl]; rfl
        clear hfin hno hRA2
        go_wp2_with (fail)
        go_ret
        exact ⟨congrArg (fun z => Ending.returned (.bool z)) hv.out, hF3⟩
      all_goals
        clear hno hfin
        go_wp2_with (fail)
        exact ⟨⟨_, cnt3, hrg3, hRA2.out (by decide), hF3, hFr3⟩, hme⟩
end Oq
end Go.Proofs.YtafonabghnogaaaGreatDoor

namespace Go.Proofs.YtafonabghnogaaaGreatDoor
open Go.RowKit
attribute [local go_sem ↓] Go.wp_at_zero Go.wp_at_succ
namespace Oq
attribute [local go_sem] Bool.not_false Bool.not_true

end Oq
end Go.Proofs.YtafonabghnogaaaGreatDoor

namespace Go.Proofs.YtafonabghnogaaaGreatDoor
open Go.RowKit
attribute [local go_sem ↓] Go.wp_at_zero Go.wp_at_succ
namespace Oq
attribute [local go_sem] Bool.not_false Bool.not_true

end Oq
end Go.Proofs.YtafonabghnogaaaGreatDoor

namespace Go.Proofs.YtafonabghnogaaaGreatDoor
open Go.RowKit
attribute [local go_sem ↓] Go.wp_at_zero Go.wp_at_succ
namespace Oq
attribute [local go_sem] Bool.not_false Bool.not_true

end Oq
end Go.Proofs.YtafonabghnogaaaGreatDoor
