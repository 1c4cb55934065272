/-
  graph.clone: an operation in new memory.
    Conditions: the operation reads, by its form.
  What a graph tells of an operation: a copy of its own.
    Conditions: the graph lies as GrState says.
  Lacks: the parents of an operation that are not there; but for slices.DeleteFunc's contract, which is a premise yet (DeletesIds).
    Conditions: the graph lies as GrState says; the operation reads.
  clear of a slice of structs.
    Plain theorem; no condition.
  slices.DeleteFunc at names, with the closure of Lacks: what is left are those that the test does not name.
    Conditions: the list lies in an own row; the closure answers alike wherever but that row has turned.
  The past of some, as words.
    Conditions: the graph lies as GrState says; the names read.
  What a graph takes in, and why it does not: plain functions over what a graph has.
    Plain Lean; no program in sight; no condition.
-/
import Derived.Lib.SliceRun
import Derived.Laws.IdiomCopy
import Derived.Test.YtafonabghnogaaaGreatDoorGfM2
import Derived.Test.YtafonabghnogaaaGreatDoorGfM3
import Derived.Test.YtafonabghnogaaaGreatDoorGfM6
namespace Go.Proofs.YtafonabghnogaaaGreatDoor
open Go.RowKit
attribute [local go_sem ↓] Go.wp_at_zero Go.wp_at_succ
namespace Oq
attribute [local go_sem ↓] loadAt_op
theorem one1_map {α : Type} (f : α → Value) (hf : ∀ a, (f a).oneCell' = true) (l : List α) : ∀ v ∈ l.map f, v.oneCell' = true := by
  intro v hv
  obtain ⟨y, _, rfl⟩ := List.mem_map.1 hv
  exact hf y
theorem one1_flat {α : Type} (f : α → List Value) (hf : ∀ a, ∀ v ∈ f a, v.oneCell' = true) (l : List α) : ∀ v ∈ l.flatMap f, v.oneCell' = true := by
  intro v hv
  obtain ⟨y, _, hy⟩ := List.mem_flatMap.1 hv
  exact hf y v hy
theorem one1_bx (l : List Bx) : ∀ v ∈ l.flatMap Bx.cells, v.oneCell' = true := one1_flat _ (fun a v hv => by simp [Bx.cells] at hv; rcases hv with rfl | rfl | rfl | rfl <;> rfl) l
theorem one1_nd (l : List NdL) : ∀ v ∈ l.flatMap NdL.cells, v.oneCell' = true := one1_flat _ (fun a v hv => by simp [NdL.cells] at hv; rcases hv with rfl | rfl <;> rfl) l
theorem one1_sl (l : List SlL) : ∀ v ∈ l.flatMap SlL.cells, v.oneCell' = true := one1_flat _ (fun a v hv => by simp [SlL.cells] at hv; rcases hv with rfl | rfl | rfl | rfl <;> rfl) l
def CopyPost (o : Op) (w : World) (r : Ending) (w' : World) : Prop :=
  ∃ y : OpL, r = .returned (.agg y.cells) ∧ y.op = o ∧ y.own w' w.heap.size ∧ Fr Non w w'
set_option maxRecDepth 100000 in
set_option maxHeartbeats 8000000 in
theorem gclone_any (x : OpL) (w : World) (hat : x.at w w.heap.size) (hok : x.op.ok) : Calls Tryz.prog 69 #[.agg x.cells] w (CopyPost x.op w) := by
  have hi : (Tryz.prog.info? 44).map (·.size) = some 27 := by kernel_rfl
  have bx0 : Blk ((w.alloc (.cells x.cells 44)).alloc (.cells #[.int .i64 0, .int .i64 0, .int .i64 0, .int .i64 0, .slice none 0 0, .int .i64 0, .int .i64 0, .int .i64 0, .int .i64 0, .slice none 0 0, .int .i64 0, .int .i64 0, .int .u64 0, .int .i64 0, .slice none 0 0, .slice none 0 0, .int .i64 0, .int .i64 0, .int .u64 0, .slice none 0 0, .int .i64 0, .int .i64 0, .slice none 0 0, .int .u64 0, .slice none 0 0, .int .u64 0, .int .u64 0] 44)) w.heap.size 44 x.cells := (Blk.new w 44 x.cells).alloc _
  have br0 : Blk ((w.alloc (.cells x.cells 44)).alloc (.cells #[.int .i64 0, .int .i64 0, .int .i64 0, .int .i64 0, .slice none 0 0, .int .i64 0, .int .i64 0, .int .i64 0, .int .i64 0, .slice none 0 0, .int .i64 0, .int .i64 0, .int .u64 0, .int .i64 0, .slice none 0 0, .slice none 0 0, .int .i64 0, .int .i64 0, .int .u64 0, .slice none 0 0, .int .i64 0, .int .i64 0, .slice none 0 0, .int .u64 0, .slice none 0 0, .int .u64 0, .int .u64 0] 44)) (w.heap.size + 1) 44 #[.int .i64 0, .int .i64 0, .int .i64 0, .int .i64 0, .slice none 0 0, .int .i64 0, .int .i64 0, .int .i64 0, .int .i64 0, .slice none 0 0, .int .i64 0, .int .i64 0, .int .u64 0, .int .i64 0, .slice none 0 0, .slice none 0 0, .int .i64 0, .int .i64 0, .int .u64 0, .slice none 0 0, .int .i64 0, .int .i64 0, .slice none 0 0, .int .u64 0, .slice none 0 0, .int .u64 0, .int .u64 0] := by
    have := Blk.new (w.alloc (.cells x.cells 44)) 44 #[.int .i64 0, .int .i64 0, .int .i64 0, .int .i64 0, .slice none 0 0, .int .i64 0, .int .i64 0, .int .i64 0, .int .i64 0, .slice none 0 0, .int .i64 0, .int .i64 0, .int .u64 0, .int .i64 0, .slice none 0 0, .slice none 0 0, .int .i64 0, .int .i64 0, .int .u64 0, .slice none 0 0, .int .i64 0, .int .i64 0, .slice none 0 0, .int .u64 0, .slice none 0 0, .int .u64 0, .int .u64 0]
    rwa [World.size_alloc] at this
  have hsz : ((w.alloc (.cells x.cells 44)).alloc (.cells #[.int .i64 0, .int .i64 0, .int .i64 0, .int .i64 0, .slice none 0 0, .int .i64 0, .int .i64 0, .int .i64 0, .int .i64 0, .slice none 0 0, .int .i64 0, .int .i64 0, .int .u64 0, .int .i64 0, .slice none 0 0, .slice none 0 0, .int .i64 0, .int .i64 0, .int .u64 0, .slice none 0 0, .int .i64 0, .int .i64 0, .slice none 0 0, .int .u64 0, .slice none 0 0, .int .u64 0, .int .u64 0] 44)).heap.size = w.heap.size + 2 := by rw [World.size_alloc, World.size_alloc]
  have fr0 : Fr Non w ((w.alloc (.cells x.cells 44)).alloc (.cells #[.int .i64 0, .int .i64 0, .int .i64 0, .int .i64 0, .slice none 0 0, .int .i64 0, .int .i64 0, .int .i64 0, .int .i64 0, .slice none 0 0, .int .i64 0, .int .i64 0, .int .u64 0, .int .i64 0, .slice none 0 0, .slice none 0 0, .int .i64 0, .int .i64 0, .int .u64 0, .slice none 0 0, .int .i64 0, .int .i64 0, .slice none 0 0, .int .u64 0, .slice none 0 0, .int .u64 0, .int .u64 0] 44)) := ((Fr.refl Non w).alloc _).alloc _
  have xd0 := OpL.frame hat fr0
  have lguards : x.guards.length ≤ 1000000 := by have h := hok.guards.1; rw [show x.op.guards = x.guards from rfl] at h; omega
  have lrefs : x.refs.length ≤ 1000000 := by have h := hok.refs.1; rw [show x.op.refs = x.refs from rfl] at h; omega
  have lboxes : x.boxes.length ≤ 1000000 := by have h := hok.boxes.1; rw [show x.op.boxes = x.boxes from rfl] at h; omega
  have lpast : x.past.length ≤ 1000000 := by have h := hok.past.1; rw [show x.op.past = x.past from rfl] at h; omega
  have lpath : x.path.length ≤ 1000000 := by have h := hok.path.1; rw [show x.op.path = x.path.map NdL.nd from rfl, List.length_map] at h; omega
  have lhist : x.hist.length ≤ 1000000 := by have h := hok.hist.1; rw [show x.op.hist = x.hist.map SlL.sl from rfl, List.length_map] at h; omega
  have lbody : x.body.length ≤ 1000000 := by have h := hok.body; rw [show x.op.body = x.body from rfl] at h; omega
  have lnodes : Hid (∀ y ∈ x.path, y.xs.length ≤ 1000000) := fun y hy => by have h := (hok.path.2 y.nd (List.mem_map.2 ⟨y, hy, rfl⟩)).2.1; rw [show y.nd.xs = y.xs from rfl] at h; omega
  have lseals : Hid (∀ y ∈ x.hist, y.y.length ≤ 1000000) := fun y hy => by have h := (hok.hist.2 y.sl (List.mem_map.2 ⟨y, hy, rfl⟩)).2; rw [show y.sl.y = y.y from rfl] at h; omega
  have hpost : Hid (∀ (y : OpL) (w' : World), y.op = x.op → y.own w' w.heap.size → Fr Non w w' → CopyPost x.op w (.returned (.agg y.cells)) w') := fun y w' h1 h2 h3 => ⟨y, rfl, h1, h2, h3⟩
  generalize CopyPost x.op w = POST at *
  go_enter Tryz.func69, Tryz.ntmps69
  go_upto_region 1 with (fail)
  generalize ((w.alloc (.cells x.cells 44)).alloc (.cells #[.int .i64 0, .int .i64 0, .int .i64 0, .int .i64 0, .slice none 0 0, .int .i64 0, .int .i64 0, .int .i64 0, .int .i64 0, .slice none 0 0, .int .i64 0, .int .i64 0, .int .u64 0, .int .i64 0, .slice none 0 0, .slice none 0 0, .int .i64 0, .int .i64 0, .int .u64 0, .slice none 0 0, .int .i64 0, .int .i64 0, .slice none 0 0, .int .u64 0, .slice none 0 0, .int .u64 0, .int .u64 0] 44)) = w0 at *
  obtain ⟨CS, hCS⟩ := hid_ex x.cells
  rw [hCS.out] at bx0
  have e4 : Hid (CS[4]? = some (.slice x.pastA x.past.length x.pastC)) := by show _ = _; rw [← hCS.out]; rfl
  have e14 : Hid (CS[14]? = some (.slice x.bodyA x.body.length x.bodyC)) := by show _ = _; rw [← hCS.out]; rfl
  have e15 : Hid (CS[15]? = some (.slice x.refsA x.refs.length x.refsC)) := by show _ = _; rw [← hCS.out]; rfl
  have e19 : Hid (CS[19]? = some (.slice x.guardsA x.guards.length x.guardsC)) := by show _ = _; rw [← hCS.out]; rfl
  have e22 : Hid (CS[22]? = some (.slice x.boxesA x.boxes.length x.boxesC)) := by show _ = _; rw [← hCS.out]; rfl
  refine wp_region_gate (S := (fun w' => Blk w' w.heap.size 44 CS)) 16 (by kernel_rfl) ?_
  replace bx0 : Blk w0.drew w.heap.size 44 CS := bx0.drew
  replace br0 := br0.drew
  replace fr0 := fr0.drew
  replace xd0 := OpL.frame xd0 ((Fr.refl Non w0).drew)
  refine wpAnyG_takeL (i := 0) (v := ?_) rfl (by kernel_rfl) (by kernel_rfl) (by kernel_rfl) (by kernel_rfl) (fun _ _ _ h => h) (Or.inl ⟨by kernel_rfl, ?_⟩) bx0 ?_
  rotate_left
  focus (intro w' hSw; (try dsimp only at hSw); go_simp; (try with_reducible rfl))
  simp only [List.set]
  refine wpAnyG_takeL (i := 1) (v := ?_) rfl (by kernel_rfl) (by kernel_rfl) (by kernel_rfl) (by kernel_rfl) (fun _ _ _ h => h) (Or.inl ⟨by kernel_rfl, ?_⟩) bx0 ?_
  rotate_left
  focus (intro w' hSw; have hB := hSw; have q : w'.cell? ⟨w.heap.size, 4, none⟩ = some _ := (hB.cell 4).trans e4.out; (try dsimp only at hSw); go_simp; (try with_reducible rfl))
  simp only [List.set]
  refine wpAnyG_takeL (i := 3) (v := ?_) rfl (by kernel_rfl) (by kernel_rfl) (by kernel_rfl) (by kernel_rfl) (fun _ _ _ h => h) (Or.inl ⟨by kernel_rfl, ?_⟩) bx0 ?_
  rotate_left
  focus (intro w' hSw; (try dsimp only at hSw); go_simp; (try with_reducible rfl))
  simp only [List.set]
  refine wpAnyG_takeL (i := 4) (v := ?_) rfl (by kernel_rfl) (by kernel_rfl) (by kernel_rfl) (by kernel_rfl) (fun _ _ _ h => h) (Or.inl ⟨by kernel_rfl, ?_⟩) bx0 ?_
  rotate_left
  focus (intro w' hSw; have hB := hSw; have q : w'.cell? ⟨w.heap.size, 14, none⟩ = some _ := (hB.cell 14).trans e14.out; (try dsimp only at hSw); go_simp; (try with_reducible rfl))
  simp only [List.set]
  refine wpAnyG_takeL (i := 6) (v := ?_) rfl (by kernel_rfl) (by kernel_rfl) (by kernel_rfl) (by kernel_rfl) (fun _ _ _ h => h) (Or.inl ⟨by kernel_rfl, ?_⟩) bx0 ?_
  rotate_left
  focus (intro w' hSw; (try dsimp only at hSw); go_simp; (try with_reducible rfl))
  simp only [List.set]
  refine wpAnyG_takeL (i := 7) (v := ?_) rfl (by kernel_rfl) (by kernel_rfl) (by kernel_rfl) (by kernel_rfl) (fun _ _ _ h => h) (Or.inl ⟨by kernel_rfl, ?_⟩) bx0 ?_
  rotate_left
  focus (intro w' hSw; have hB := hSw; have q : w'.cell? ⟨w.heap.size, 15, none⟩ = some _ := (hB.cell 15).trans e15.out; (try dsimp only at hSw); go_simp; (try with_reducible rfl))
  simp only [List.set]
  refine wpAnyG_takeL (i := 9) (v := ?_) rfl (by kernel_rfl) (by kernel_rfl) (by kernel_rfl) (by kernel_rfl) (fun _ _ _ h => h) (Or.inl ⟨by kernel_rfl, ?_⟩) bx0 ?_
  rotate_left
  focus (intro w' hSw; (try dsimp only at hSw); go_simp; (try with_reducible rfl))
  simp only [List.set]
  refine wpAnyG_takeL (i := 10) (v := ?_) rfl (by kernel_rfl) (by kernel_rfl) (by kernel_rfl) (by kernel_rfl) (fun _ _ _ h => h) (Or.inl ⟨by kernel_rfl, ?_⟩) bx0 ?_
  rotate_left
  focus (intro w' hSw; have hB := hSw; have q : w'.cell? ⟨w.heap.size, 19, none⟩ = some _ := (hB.cell 19).trans e19.out; (try dsimp only at hSw); go_simp; (try with_reducible rfl))
  simp only [List.set]
  refine wpAnyG_takeL (i := 12) (v := ?_) rfl (by kernel_rfl) (by kernel_rfl) (by kernel_rfl) (by kernel_rfl) (fun _ _ _ h => h) (Or.inl ⟨by kernel_rfl, ?_⟩) bx0 ?_
  rotate_left
  focus (intro w' hSw; (try dsimp only at hSw); go_simp; (try with_reducible rfl))
  simp only [List.set]
  refine wpAnyG_takeL (i := 13) (v := ?_) rfl (by kernel_rfl) (by kernel_rfl) (by kernel_rfl) (by kernel_rfl) (fun _ _ _ h => h) (Or.inl ⟨by kernel_rfl, ?_⟩) bx0 ?_
  rotate_left
  focus (intro w' hSw; have hB := hSw; have q : w'.cell? ⟨w.heap.size, 22, none⟩ = some _ := (hB.cell 22).trans e22.out; (try dsimp only at hSw); go_simp; (try with_reducible rfl))
  simp only [List.set]
  refine wpAnyG_onlyL 2 (by kernel_rfl) rfl (fun K hK => ?_)
  go_simp
  go_wp2_with (go_at_call 80; (with_reducible refine (clone_id _ _ _ _ _ _ xd0.past.rd (Id.cells_one _) (by omega)).mono ?_); rintro _ w1 ⟨A1, c1, rfl, o1, f1⟩; have bx1 := bx0.fr f1 (fun e => e); have br1 := br0.fr f1 (fun e => e); have xd1 := OpL.frame xd0 f1; have fr1 := fr0.trans f1 (fun _ _ e => e); have sz1 := f1.size)
  refine hK.out _ _ bx1 (fun hZ => ?_)
  clear hZ hK K
  try simp only [put_lit2, List.set]
  refine wpAnyG_takeL (i := 15) (v := ?_) rfl (by kernel_rfl) (by kernel_rfl) (by kernel_rfl) (by kernel_rfl) (fun _ _ _ h => h) (Or.inl ⟨by kernel_rfl, ?_⟩) bx1 ?_
  rotate_left
  focus (intro w' hSw; (try dsimp only at hSw); go_simp; (try with_reducible rfl))
  simp only [List.set]
  refine wpAnyG_onlyL 5 (by kernel_rfl) rfl (fun K hK => ?_)
  go_simp
  go_wp2_with (go_at_call 118; (with_reducible refine (clone_byte _ _ _ _ _ _ xd1.body.rd (one1_map Bv (fun _ => rfl) _) (by omega)).mono ?_); rintro _ w2 ⟨A2, c2, rfl, o2, f2⟩; have bx2 := bx1.fr f2 (fun e => e); have br2 := br1.fr f2 (fun e => e); have xd2 := OpL.frame xd1 f2; have fr2 := fr1.trans f2 (fun _ _ e => e); have sz2 := f2.size)
  refine hK.out _ _ bx2 (fun hZ => ?_)
  clear hZ hK K
  try simp only [put_lit2, List.set]
  refine wpAnyG_onlyL 8 (by kernel_rfl) rfl (fun K hK => ?_)
  go_simp
  go_wp2_with (go_at_call 119; (with_reducible refine (clone_u64 _ _ _ _ _ _ xd2.refs.rd (one1_map Uv (fun _ => rfl) _) (by omega)).mono ?_); rintro _ w3 ⟨A3, c3, rfl, o3, f3⟩; have bx3 := bx2.fr f3 (fun e => e); have br3 := br2.fr f3 (fun e => e); have xd3 := OpL.frame xd2 f3; have fr3 := fr2.trans f3 (fun _ _ e => e); have sz3 := f3.size)
  refine hK.out _ _ bx3 (fun hZ => ?_)
  clear hZ hK K
  try simp only [put_lit2, List.set]
  refine wpAnyG_onlyL 11 (by kernel_rfl) rfl (fun K hK => ?_)
  go_simp
  go_wp2_with (go_at_call 120; (with_reducible refine (clone_int _ _ _ _ _ _ xd3.guards.rd (one1_map Iv (fun _ => rfl) _) (by omega)).mono ?_); rintro _ w4 ⟨A4, c4, rfl, o4, f4⟩; have bx4 := bx3.fr f4 (fun e => e); have br4 := br3.fr f4 (fun e => e); have xd4 := OpL.frame xd3 f4; have fr4 := fr3.trans f4 (fun _ _ e => e); have sz4 := f4.size)
  refine hK.out _ _ bx4 (fun hZ => ?_)
  clear hZ hK K
  try simp only [put_lit2, List.set]
  refine wpAnyG_onlyL 14 (by kernel_rfl) rfl (fun K hK => ?_)
  go_simp
  go_wp2_with (go_at_call 121; (with_reducible refine (clone_box _ _ _ _ _ _ xd4.boxes.rd (one1_bx _) (by omega)).mono ?_); rintro _ w5 ⟨A5, c5, rfl, o5, f5⟩; have bx5 := bx4.fr f5 (fun e => e); have br5 := br4.fr f5 (fun e => e); have xd5 := OpL.frame xd4 f5; have fr5 := fr4.trans f5 (fun _ _ e => e); have sz5 := f5.size)
  refine hK.out _ _ bx5 (fun hZ => ?_)
  clear hZ hK K
  try simp only [put_lit2, List.set]
  refine wpAnyG_gate (by kernel_rfl) ?_
  have k4 : w5.cell? ⟨w.heap.size, 4, none⟩ = some (.slice x.pastA x.past.length x.pastC) := (bx5.cell 4).trans e4.out
  have z4 := bx5.frozen 4
  have k14 : w5.cell? ⟨w.heap.size, 14, none⟩ = some (.slice x.bodyA x.body.length x.bodyC) := (bx5.cell 14).trans e14.out
  have z14 := bx5.frozen 14
  have k15 : w5.cell? ⟨w.heap.size, 15, none⟩ = some (.slice x.refsA x.refs.length x.refsC) := (bx5.cell 15).trans e15.out
  have z15 := bx5.frozen 15
  have k19 : w5.cell? ⟨w.heap.size, 19, none⟩ = some (.slice x.guardsA x.guards.length x.guardsC) := (bx5.cell 19).trans e19.out
  have z19 := bx5.frozen 19
  have k22 : w5.cell? ⟨w.heap.size, 22, none⟩ = some (.slice x.boxesA x.boxes.length x.boxesC) := (bx5.cell 22).trans e22.out
  have z22 := bx5.frozen 22
  refine wpAnyH_onlyG 16 (by kernel_rfl) rfl (by kernel_rfl) (fun K hK => ?_)
  go_simp
  refine hK.out _ _ trivial (fun hZ => ?_)
  clear hZ hK K
  try simp only [put_lit2, List.set]
  refine wpAnyH_onlyG 17 (by kernel_rfl) rfl (by kernel_rfl) (fun K hK => ?_)
  go_simp
  refine hK.out _ _ trivial (fun hZ => ?_)
  clear hZ hK K
  try simp only [put_lit2, List.set]
  refine wpAnyH_onlyG 18 (by kernel_rfl) rfl (by kernel_rfl) (fun K hK => ?_)
  go_simp
  refine hK.out _ _ trivial (fun hZ => ?_)
  clear hZ hK K
  try simp only [put_lit2, List.set]
  refine wpAnyH_onlyG 19 (by kernel_rfl) rfl (by kernel_rfl) (fun K hK => ?_)
  go_simp
  refine hK.out _ _ trivial (fun hZ => ?_)
  clear hZ hK K
  try simp only [put_lit2, List.set]
  refine wpAnyH_onlyG 20 (by kernel_rfl) rfl (by kernel_rfl) (fun K hK => ?_)
  go_simp
  refine hK.out _ _ trivial (fun hZ => ?_)
  clear hZ hK K
  try simp only [put_lit2, List.set]
  refine wpAnyH_onlyG 21 (by kernel_rfl) rfl (by kernel_rfl) (fun K hK => ?_)
  go_simp
  refine hK.out _ _ trivial (fun hZ => ?_)
  clear hZ hK K
  try simp only [put_lit2, List.set]
  refine wpAnyH_onlyG 22 (by kernel_rfl) rfl (by kernel_rfl) (fun K hK => ?_)
  go_simp
  refine hK.out _ _ trivial (fun hZ => ?_)
  clear hZ hK K
  try simp only [put_lit2, List.set]
  refine wpAnyH_onlyG 23 (by kernel_rfl) rfl (by kernel_rfl) (fun K hK => ?_)
  go_simp
  refine hK.out _ _ trivial (fun hZ => ?_)
  clear hZ hK K
  try simp only [put_lit2, List.set]
  refine wpAnyH_onlyG 24 (by kernel_rfl) rfl (by kernel_rfl) (fun K hK => ?_)
  go_simp
  refine hK.out _ _ trivial (fun hZ => ?_)
  clear hZ hK K
  try simp only [put_lit2, List.set]
  refine wpAnyH_done (by kernel_rfl) ?_ _
  go_simp
  obtain ⟨CS1, hCS1⟩ := hid_ex ({ x with pastA := A1, pastC := c1, bodyA := A2, bodyC := c2, refsA := A3, refsC := c3, guardsA := A4, guardsC := c4, boxesA := A5, boxesC := c5 } : OpL).cells
  have bx6 : Blk (((((w5.setCell ⟨w.heap.size, 4, none⟩ (.slice A1 x.past.length c1)).setCell ⟨w.heap.size, 14, none⟩ (.slice A2 x.body.length c2)).setCell ⟨w.heap.size, 15, none⟩ (.slice A3 x.refs.length c3)).setCell ⟨w.heap.size, 19, none⟩ (.slice A4 x.guards.length c4)).setCell ⟨w.heap.size, 22, none⟩ (.slice A5 x.boxes.length c5)) w.heap.size 44 CS1 := by
    rw [← hCS1.out]
    rw [← hCS.out] at bx5
    exact ((((bx5.set 4 _).set 14 _).set 15 _).set 19 _).set 22 _
  have f56 : Fr (One w.heap.size) w5 (((((w5.setCell ⟨w.heap.size, 4, none⟩ (.slice A1 x.past.length c1)).setCell ⟨w.heap.size, 14, none⟩ (.slice A2 x.body.length c2)).setCell ⟨w.heap.size, 15, none⟩ (.slice A3 x.refs.length c3)).setCell ⟨w.heap.size, 19, none⟩ (.slice A4 x.guards.length c4)).setCell ⟨w.heap.size, 22, none⟩ (.slice A5 x.boxes.length c5)) := (((((Fr.refl (One w.heap.size) w5).setCell (p := ⟨w.heap.size, 4, none⟩) (fun _ => rfl) _).setCell (p := ⟨w.heap.size, 14, none⟩) (fun _ => rfl) _).setCell (p := ⟨w.heap.size, 15, none⟩) (fun _ => rfl) _).setCell (p := ⟨w.heap.size, 19, none⟩) (fun _ => rfl) _).setCell (p := ⟨w.heap.size, 22, none⟩) (fun _ => rfl) _
  have sd : w0.drew.heap.size = w.heap.size + 2 := hsz
  have fz6 : w.heap.size + 2 ≤ (((((w5.setCell ⟨w.heap.size, 4, none⟩ (.slice A1 x.past.length c1)).setCell ⟨w.heap.size, 14, none⟩ (.slice A2 x.body.length c2)).setCell ⟨w.heap.size, 15, none⟩ (.slice A3 x.refs.length c3)).setCell ⟨w.heap.size, 19, none⟩ (.slice A4 x.guards.length c4)).setCell ⟨w.heap.size, 22, none⟩ (.slice A5 x.boxes.length c5)).heap.size := by have h1 := f56.size; omega
  have br6 := br5.fr f56 (fun e => by have e' : w.heap.size + 1 = w.heap.size := e; omega)
  have hat6 : x.at (((((w5.setCell ⟨w.heap.size, 4, none⟩ (.slice A1 x.past.length c1)).setCell ⟨w.heap.size, 14, none⟩ (.slice A2 x.body.length c2)).setCell ⟨w.heap.size, 15, none⟩ (.slice A3 x.refs.length c3)).setCell ⟨w.heap.size, 19, none⟩ (.slice A4 x.guards.length c4)).setCell ⟨w.heap.size, 22, none⟩ (.slice A5 x.boxes.length c5)) w.heap.size := (hat.fr fr5 (fun _ _ e => e)).fr f56 (fun j hj e => by have e' : j = w.heap.size := e; omega)
  have fr6 : Fr Non w (((((w5.setCell ⟨w.heap.size, 4, none⟩ (.slice A1 x.past.length c1)).setCell ⟨w.heap.size, 14, none⟩ (.slice A2 x.body.length c2)).setCell ⟨w.heap.size, 15, none⟩ (.slice A3 x.refs.length c3)).setCell ⟨w.heap.size, 19, none⟩ (.slice A4 x.guards.length c4)).setCell ⟨w.heap.size, 22, none⟩ (.slice A5 x.boxes.length c5)) := fr5.trans f56 (fun j hj e => by have e' : j = w.heap.size := e; omega)
  have p1 := ((o1.fr (((f2.trans f3 (fun _ _ e => e)).trans f4 (fun _ _ e => e)).trans f5 (fun _ _ e => e)) (fun _ _ e => e)).lower (base' := w.heap.size + 2) (by omega)).fr f56 (fun j hj e => by have h1 := (o1.row j hj).1; have e' : j = w.heap.size := e; omega)
  have p2 := ((o2.fr ((f3.trans f4 (fun _ _ e => e)).trans f5 (fun _ _ e => e)) (fun _ _ e => e)).lower (base' := w.heap.size + 2) (by omega)).fr f56 (fun j hj e => by have h1 := (o2.row j hj).1; have e' : j = w.heap.size := e; omega)
  have p3 := ((o3.fr (f4.trans f5 (fun _ _ e => e)) (fun _ _ e => e)).lower (base' := w.heap.size + 2) (by omega)).fr f56 (fun j hj e => by have h1 := (o3.row j hj).1; have e' : j = w.heap.size := e; omega)
  have p4 := ((o4.fr (f5) (fun _ _ e => e)).lower (base' := w.heap.size + 2) (by omega)).fr f56 (fun j hj e => by have h1 := (o4.row j hj).1; have e' : j = w.heap.size := e; omega)
  have p5 := (o5.lower (base' := w.heap.size + 2) (by omega)).fr f56 (fun j hj e => by have h1 := (o5.row j hj).1; have e' : j = w.heap.size := e; omega)
  clear hCS bx0 bx1 bx2 bx3 bx4 bx5 br0 br1 br2 br3 br4 br5 fr0 fr1 fr2 fr3 fr4 fr5 xd0 xd1 xd2 xd3 xd4 xd5 f1 f2 f3 f4 f5 f56 o1 o2 o3 o4 o5 e4 e14 e15 e19 e22 k4 k14 k15 k19 k22 z4 z14 z15 z19 z22 sz1 sz2 sz3 sz4 sz5 sd hsz
  generalize (((((w5.setCell ⟨w.heap.size, 4, none⟩ (.slice A1 x.past.length c1)).setCell ⟨w.heap.size, 14, none⟩ (.slice A2 x.body.length c2)).setCell ⟨w.heap.size, 15, none⟩ (.slice A3 x.refs.length c3)).setCell ⟨w.heap.size, 19, none⟩ (.slice A4 x.guards.length c4)).setCell ⟨w.heap.size, 22, none⟩ (.slice A5 x.boxes.length c5)) = w6 at *
  clear w5 w4 w3 w2 w1 w0
  have e9 : Hid (CS1[9]? = some (.slice x.pathA x.path.length x.pathC)) := by show _ = _; rw [← hCS1.out]; rfl
  have e24 : Hid (CS1[24]? = some (.slice x.histA x.hist.length x.histC)) := by show _ = _; rw [← hCS1.out]; rfl
  go_wp2_with (fail)
  refine wp_region_gate (S := (fun w' => Blk w' w.heap.size 44 CS1)) 7 (by kernel_rfl) ?_
  replace bx6 : Blk w6.drew w.heap.size 44 CS1 := bx6.drew
  replace br6 := br6.drew
  replace fr6 := fr6.drew
  replace hat6 := hat6.fr ((Fr.refl Non w6).drew) (fun _ _ e => e)
  have sz6 : w.heap.size ≤ w6.drew.heap.size := fr6.size
  have hN6 : w.heap.size + 2 ≤ w6.drew.heap.size := by have h1 := fz6; exact h1
  replace p1 := p1.drew
  replace p2 := p2.drew
  replace p3 := p3.drew
  replace p4 := p4.drew
  replace p5 := p5.drew
  refine wpAnyG_takeL (i := 0) (v := ?_) rfl (by kernel_rfl) (by kernel_rfl) (by kernel_rfl) (by kernel_rfl) (fun _ _ _ h => h) (Or.inl ⟨by kernel_rfl, ?_⟩) bx6 ?_
  rotate_left
  focus (intro w' hSw; (try dsimp only at hSw); go_simp; (try with_reducible rfl))
  simp only [List.set]
  refine wpAnyG_takeL (i := 1) (v := ?_) rfl (by kernel_rfl) (by kernel_rfl) (by kernel_rfl) (by kernel_rfl) (fun _ _ _ h => h) (Or.inl ⟨by kernel_rfl, ?_⟩) bx6 ?_
  rotate_left
  focus (intro w' hSw; have hB := hSw; have q : w'.cell? ⟨w.heap.size, 9, none⟩ = some _ := (hB.cell 9).trans e9.out; (try dsimp only at hSw); go_simp; (try with_reducible rfl))
  simp only [List.set]
  refine wpAnyG_takeL (i := 3) (v := ?_) rfl (by kernel_rfl) (by kernel_rfl) (by kernel_rfl) (by kernel_rfl) (fun _ _ _ h => h) (Or.inl ⟨by kernel_rfl, ?_⟩) bx6 ?_
  rotate_left
  focus (intro w' hSw; (try dsimp only at hSw); go_simp; (try with_reducible rfl))
  simp only [List.set]
  refine wpAnyG_takeL (i := 4) (v := ?_) rfl (by kernel_rfl) (by kernel_rfl) (by kernel_rfl) (by kernel_rfl) (fun _ _ _ h => h) (Or.inl ⟨by kernel_rfl, ?_⟩) bx6 ?_
  rotate_left
  focus (intro w' hSw; have hB := hSw; have q : w'.cell? ⟨w.heap.size, 24, none⟩ = some _ := (hB.cell 24).trans e24.out; (try dsimp only at hSw); go_simp; (try with_reducible rfl))
  simp only [List.set]
  refine wpAnyG_onlyL 2 (by kernel_rfl) rfl (fun K hK => ?_)
  go_simp
  go_wp2_with (go_at_call 122; (with_reducible refine (clone_node _ _ _ _ _ _ hat6.path.rd (one1_nd _) (by omega)).mono ?_); rintro _ w7 ⟨A7, c7, rfl, o7, f7⟩; have bx7 := bx6.fr f7 (fun e => e); have br7 := br6.fr f7 (fun e => e); have hat7 := hat6.fr f7 (fun _ _ e => e); have fr7 := fr6.trans f7 (fun _ _ e => e); have sz7 := f7.size)
  refine hK.out _ _ bx7 (fun hZ => ?_)
  clear hZ hK K
  try simp only [put_lit2, List.set]
  refine wpAnyG_takeL (i := 6) (v := ?_) rfl (by kernel_rfl) (by kernel_rfl) (by kernel_rfl) (by kernel_rfl) (fun _ _ _ h => h) (Or.inl ⟨by kernel_rfl, ?_⟩) bx7 ?_
  rotate_left
  focus (intro w' hSw; (try dsimp only at hSw); go_simp; (try with_reducible rfl))
  simp only [List.set]
  refine wpAnyG_onlyL 5 (by kernel_rfl) rfl (fun K hK => ?_)
  go_simp
  go_wp2_with (go_at_call 123; (with_reducible refine (clone_sealed _ _ _ _ _ _ hat7.hist.rd (one1_sl _) (by omega)).mono ?_); rintro _ w8 ⟨A8, c8, rfl, o8, f8⟩; have bx8 := bx7.fr f8 (fun e => e); have br8 := br7.fr f8 (fun e => e); have hat8 := hat7.fr f8 (fun _ _ e => e); have fr8 := fr7.trans f8 (fun _ _ e => e); have sz8 := f8.size)
  refine hK.out _ _ bx8 (fun hZ => ?_)
  clear hZ hK K
  try simp only [put_lit2, List.set]
  refine wpAnyG_gate (by kernel_rfl) ?_
  have k9 : w8.cell? ⟨w.heap.size, 9, none⟩ = some (.slice x.pathA x.path.length x.pathC) := (bx8.cell 9).trans e9.out
  have z9 := bx8.frozen 9
  have k24 : w8.cell? ⟨w.heap.size, 24, none⟩ = some (.slice x.histA x.hist.length x.histC) := (bx8.cell 24).trans e24.out
  have z24 := bx8.frozen 24
  refine wpAnyH_onlyG 7 (by kernel_rfl) rfl (by kernel_rfl) (fun K hK => ?_)
  go_simp
  refine hK.out _ _ trivial (fun hZ => ?_)
  clear hZ hK K
  try simp only [put_lit2, List.set]
  refine wpAnyH_onlyG 8 (by kernel_rfl) rfl (by kernel_rfl) (fun K hK => ?_)
  go_simp
  refine hK.out _ _ trivial (fun hZ => ?_)
  clear hZ hK K
  try simp only [put_lit2, List.set]
  refine wpAnyH_onlyG 9 (by kernel_rfl) rfl (by kernel_rfl) (fun K hK => ?_)
  go_simp
  refine hK.out _ _ trivial (fun hZ => ?_)
  clear hZ hK K
  try simp only [put_lit2, List.set]
  refine wpAnyH_done (by kernel_rfl) ?_ _
  go_simp
  obtain ⟨CS2, hCS2⟩ := hid_ex ({ x with pastA := A1, pastC := c1, bodyA := A2, bodyC := c2, refsA := A3, refsC := c3, guardsA := A4, guardsC := c4, boxesA := A5, boxesC := c5, pathA := A7, pathC := c7, histA := A8, histC := c8 } : OpL).cells
  have bx9 : Blk ((w8.setCell ⟨w.heap.size, 9, none⟩ (.slice A7 x.path.length c7)).setCell ⟨w.heap.size, 24, none⟩ (.slice A8 x.hist.length c8)) w.heap.size 44 CS2 := by
    rw [← hCS2.out]
    rw [← hCS1.out] at bx8
    exact (bx8.set 9 _).set 24 _
  have f89 : Fr (One w.heap.size) w8 ((w8.setCell ⟨w.heap.size, 9, none⟩ (.slice A7 x.path.length c7)).setCell ⟨w.heap.size, 24, none⟩ (.slice A8 x.hist.length c8)) := ((Fr.refl (One w.heap.size) w8).setCell (p := ⟨w.heap.size, 9, none⟩) (fun _ => rfl) _).setCell (p := ⟨w.heap.size, 24, none⟩) (fun _ => rfl) _
  have br9 := br8.fr f89 (fun e => by have e' : w.heap.size + 1 = w.heap.size := e; omega)
  have hat9 : x.at ((w8.setCell ⟨w.heap.size, 9, none⟩ (.slice A7 x.path.length c7)).setCell ⟨w.heap.size, 24, none⟩ (.slice A8 x.hist.length c8)) w.heap.size := hat8.fr f89 (fun j hj e => by have e' : j = w.heap.size := e; omega)
  have fr9 : Fr Non w ((w8.setCell ⟨w.heap.size, 9, none⟩ (.slice A7 x.path.length c7)).setCell ⟨w.heap.size, 24, none⟩ (.slice A8 x.hist.length c8)) := fr8.trans f89 (fun j hj e => by have e' : j = w.heap.size := e; omega)
  have f78 := f7.trans f8 (fun _ _ e => e)
  have sz9 : w8.heap.size ≤ ((w8.setCell ⟨w.heap.size, 9, none⟩ (.slice A7 x.path.length c7)).setCell ⟨w.heap.size, 24, none⟩ (.slice A8 x.hist.length c8)).heap.size := f89.size
  have N6 : w.heap.size + 2 ≤ w6.drew.heap.size := hN6
  have b1 : ∀ k, rowOf A1 = some k → w.heap.size + 2 ≤ k ∧ k < w6.drew.heap.size := p1.row
  have q1 := (p1.fr f78 (fun _ _ e => e)).fr f89 (fun j hj e => by have h1 := (b1 j hj).1; have e' : j = w.heap.size := e; omega)
  have b2 : ∀ k, rowOf A2 = some k → w.heap.size + 2 ≤ k ∧ k < w6.drew.heap.size := p2.row
  have q2 := (p2.fr f78 (fun _ _ e => e)).fr f89 (fun j hj e => by have h1 := (b2 j hj).1; have e' : j = w.heap.size := e; omega)
  have b3 : ∀ k, rowOf A3 = some k → w.heap.size + 2 ≤ k ∧ k < w6.drew.heap.size := p3.row
  have q3 := (p3.fr f78 (fun _ _ e => e)).fr f89 (fun j hj e => by have h1 := (b3 j hj).1; have e' : j = w.heap.size := e; omega)
  have b4 : ∀ k, rowOf A4 = some k → w.heap.size + 2 ≤ k ∧ k < w6.drew.heap.size := p4.row
  have q4 := (p4.fr f78 (fun _ _ e => e)).fr f89 (fun j hj e => by have h1 := (b4 j hj).1; have e' : j = w.heap.size := e; omega)
  have b5 : ∀ k, rowOf A5 = some k → w.heap.size + 2 ≤ k ∧ k < w6.drew.heap.size := p5.row
  have q5 := (p5.fr f78 (fun _ _ e => e)).fr f89 (fun j hj e => by have h1 := (b5 j hj).1; have e' : j = w.heap.size := e; omega)
  have b7 := o7.row
  have b8 := o8.row
  have q7 := ((o7.lower (base' := w.heap.size + 2) N6).fr f8 (fun _ _ e => e)).fr f89 (fun j hj e => by have h1 := (b7 j hj).1; have e' : j = w.heap.size := e; omega)
  have q8 := (o8.lower (base' := w.heap.size + 2) (by omega)).fr f89 (fun j hj e => by have h1 := (b8 j hj).1; have e' : j = w.heap.size := e; omega)
  clear bx6 bx7 bx8 br6 br7 br8 fr6 fr7 fr8 hat6 hat7 hat8 f7 f8 f78 f89 o7 o8 p1 p2 p3 p4 p5 e9 e24 k9 k24 z9 z24 hCS1
  generalize ((w8.setCell ⟨w.heap.size, 9, none⟩ (.slice A7 x.path.length c7)).setCell ⟨w.heap.size, 24, none⟩ (.slice A8 x.hist.length c8)) = w9 at *
  have e9 : Hid (CS2[9]? = some (.slice A7 x.path.length c7)) := by show _ = _; rw [← hCS2.out]; rfl
  have e24 : Hid (CS2[24]? = some (.slice A8 x.hist.length c8)) := by show _ = _; rw [← hCS2.out]; rfl
  have k9 : w9.cell? ⟨w.heap.size, 9, none⟩ = some (.slice A7 x.path.length c7) := (bx9.cell 9).trans e9.out
  obtain ⟨np, hnp⟩ := hid_ex x.path.length
  obtain ⟨nh, hnh⟩ := hid_ex x.hist.length
  rw [hnp.out] at k9 e9 lpath q7
  rw [hnh.out] at e24 lhist q8
  go_wp2_with (fail)
  go_loopw [36] (fun v wr => ∃ (k : Nat) (L : List NdL), v = .int .i64 (k : Int) ∧ k ≤ np ∧ Hid (L.map NdL.nd = x.path.map NdL.nd) ∧ Hid (L.drop k = x.path.drop k) ∧ Own wr (w.heap.size + 2) 103 2 A7 np c7 (L.flatMap NdL.cells) ∧ Hid (∀ y ∈ L.take k, Own wr w9.heap.size 144 4 y.A y.xs.length y.c (y.xs.flatMap Bx.cells)) ∧ Fr (fun b => rowOf A7 = some b) w9 wr) (fun v _ => np - (intOf v).toNat)
  case atStart => exact ⟨0, x.path, rfl, by omega, rfl, rfl, q7, (fun _ h => by simp at h), Fr.refl _ _⟩
  case round =>
    obtain ⟨k, L, rfl, hk, hmap, hdrop, hown, hrows, hf⟩ := hrel
    by_cases hlt : k < np
    · have i1 : (0 : Int) ≤ k := by omega
      have i2 : (k : Int) < np := by omega
      have i3 : (k : Int).toNat = k := by omega
      obtain ⟨y, hy⟩ : ∃ y, x.path[k]? = some y := ⟨_, List.getElem?_eq_getElem (by rw [hnp.out]; exact hlt)⟩
      have hLy : L[k]? = some y := (drop_get hdrop.out).trans hy
      have hmem := List.mem_of_getElem? hy
      have hyl := lnodes.out y hmem
      obtain ⟨g, hA, hgb, hgl, hcell, hfz, _⟩ := Own.setAt hown (j := k * 2 + 1) (by omega) (.int .i64 0)
      have hyat := (hat9.nodes y hmem).fr hf (fun j hj e => by have h1 := (b7 j e).1; omega)
      have d0 : wr.cell? ⟨g, k * 2 + 1, none⟩ = some (.slice y.A y.xs.length y.c) := hcell _ (by rw [flat_get (f := NdL.cells) (fun _ => rfl) L k 1 y hLy (by omega)]; rfl)
      have kk : wr.cell? ⟨w.heap.size, 9, none⟩ = some (.slice A7 np c7) := hf.cell k9 (fun e => by have h1 : w6.drew.heap.size ≤ w.heap.size := (b7 _ e).1; omega)
      have hgw : w.heap.size + 2 ≤ g := hgb
      rw [hA] at kk
      have hset : ∀ (wv : World) (u : Value), Fr Non wr wv → wv.cell? ⟨g, k * 2 + 1, none⟩ = some (.slice y.A y.xs.length y.c) ∧ wv.frozen? ⟨g, k * 2 + 1, none⟩ = false ∧ Own (wv.setCell ⟨g, k * 2 + 1, none⟩ u) (w.heap.size + 2) 103 2 A7 np c7 ((L.flatMap NdL.cells).set (k * 2 + 1) u) := by
        intro wv u hfv
        obtain ⟨g2, hA2, _, _, hc2, hz2, ho2⟩ := Own.setAt (hown.fr hfv (fun _ _ e => e)) (j := k * 2 + 1) (by omega) u
        rw [hA] at hA2
        have hgg : g = g2 := by injection hA2 with e; injection e
        subst hgg
        exact ⟨hfv.cell d0 (fun e => e), hz2, ho2⟩
      replace hset := Lib.hid hset
      replace hA := Lib.hid hA
      clear hcell hfz
      go_upto_region 6 with (fail)
      refine wp_region_gate (S := (fun w' => w'.cell? ⟨w.heap.size, 9, none⟩ = some (.slice (some ⟨g, 0, none⟩) np c7) ∧ w'.cell? ⟨g, k * 2 + 1, none⟩ = some (.slice y.A y.xs.length y.c))) 10 (by kernel_rfl) ?_
      have hS : (fun w' => w'.cell? ⟨w.heap.size, 9, none⟩ = some (.slice (some ⟨g, 0, none⟩) np c7) ∧ w'.cell? ⟨g, k * 2 + 1, none⟩ = some (.slice y.A y.xs.length y.c)) wr.drew := ⟨kk, d0⟩
      have fd : Fr Non wr wr.drew := (Fr.refl Non wr).drew
      have hrd : Rd wr.drew w.heap.size 4 y.A y.xs.length (y.xs.flatMap Bx.cells) := And.left (hyat.fr fd (fun _ _ e => e))
      refine wpAnyG_takeL (i := 0) (v := ?_) rfl (by kernel_rfl) (by kernel_rfl) (by kernel_rfl) (by kernel_rfl) (fun _ _ _ h => h) (Or.inl ⟨by kernel_rfl, ?_⟩) hS ?_
      rotate_left
      focus (intro w' hSw; (try dsimp only at hSw); go_simp; (try with_reducible rfl))
      simp only [List.set]
      refine wpAnyG_takeL (i := 1) (v := ?_) rfl (by kernel_rfl) (by kernel_rfl) (by kernel_rfl) (by kernel_rfl) (fun _ _ _ h => h) (Or.inl ⟨by kernel_rfl, ?_⟩) hS ?_
      rotate_left
      focus (intro w' hSw; (try dsimp only at hSw); go_simp; (try with_reducible rfl))
      simp only [List.set]
      refine wpAnyG_takeL (i := 2) (v := ?_) rfl (by kernel_rfl) (by kernel_rfl) (by kernel_rfl) (by kernel_rfl) (fun _ _ _ h => h) (Or.inl ⟨by kernel_rfl, ?_⟩) hS ?_
      rotate_left
      focus (intro w' hSw; (try dsimp only at hSw); go_simp; (try with_reducible rfl))
      simp only [List.set]
      refine wpAnyG_takeL (i := 3) (v := ?_) rfl (by kernel_rfl) (by kernel_rfl) (by kernel_rfl) (by kernel_rfl) (fun _ _ _ h => h) (Or.inl ⟨by kernel_rfl, ?_⟩) hS ?_
      rotate_left
      focus (intro w' hSw; (try dsimp only at hSw); go_simp; (try with_reducible rfl))
      simp only [List.set]
      refine wpAnyG_takeL (i := 4) (v := ?_) rfl (by kernel_rfl) (by kernel_rfl) (by kernel_rfl) (by kernel_rfl) (fun _ _ _ h => h) (Or.inl ⟨by kernel_rfl, ?_⟩) hS ?_
      rotate_left
      focus (intro w' hSw; (try dsimp only at hSw); go_simp; (try with_reducible rfl))
      simp only [List.set]
      refine wpAnyG_takeL (i := 5) (v := ?_) rfl (by kernel_rfl) (by kernel_rfl) (by kernel_rfl) (by kernel_rfl) (fun _ _ _ h => h) (Or.inl ⟨by kernel_rfl, ?_⟩) hS ?_
      rotate_left
      focus (intro w' hSw; (try dsimp only at hSw); go_simp; (try with_reducible rfl))
      simp only [List.set]
      refine wpAnyG_takeL (i := 6) (v := ?_) rfl (by kernel_rfl) (by kernel_rfl) (by kernel_rfl) (by kernel_rfl) (fun _ _ _ h => h) (Or.inl ⟨by kernel_rfl, ?_⟩) hS ?_
      rotate_left
      focus (intro w' hSw; (try dsimp only at hSw); go_simp; (try with_reducible rfl))
      simp only [List.set]
      refine wpAnyG_takeL (i := 7) (v := ?_) rfl (by kernel_rfl) (by kernel_rfl) (by kernel_rfl) (by kernel_rfl) (fun _ _ _ h => h) (Or.inl ⟨by kernel_rfl, ?_⟩) hS ?_
      rotate_left
      focus (intro w' hSw; (try dsimp only at hSw); go_simp; (try with_reducible rfl))
      simp only [List.set]
      refine wpAnyG_takeL (i := 8) (v := ?_) rfl (by kernel_rfl) (by kernel_rfl) (by kernel_rfl) (by kernel_rfl) (fun _ _ _ h => h) (Or.inl ⟨by kernel_rfl, ?_⟩) hS ?_
      rotate_left
      focus (intro w' hSw; (try dsimp only at hSw); go_simp; (try with_reducible rfl))
      simp only [List.set]
      refine wpAnyG_onlyL 9 (by kernel_rfl) rfl (fun K hK => ?_)
      go_simp
      go_wp2_with (go_at_call 121; go_loud (with_reducible refine (clone_box _ _ _ _ _ _ hrd (one1_bx _) hyl).mono ?_); rintro _ wv ⟨A', c', rfl, ov, fv⟩)
      have fv' := fd.trans fv (fun _ _ e => e)
      obtain ⟨d1, z1, ho1⟩ := hset.out wv (.slice A' y.xs.length c') fv'
      refine hK.out _ _ ⟨fv'.cell kk (fun e => e), d1⟩ (fun hZ => ?_)
      clear hZ hK K
      try simp only [put_lit2, List.set]
      refine wpAnyG_gate (by kernel_rfl) ?_
      refine wpAnyH_onlyG 10 (by kernel_rfl) rfl (by kernel_rfl) (fun K hK => ?_)
      go_simp
      refine hK.out _ _ trivial (fun hZ => ?_)
      clear hZ hK K
      try simp only [put_lit2, List.set]
      refine wpAnyH_onlyG 11 (by kernel_rfl) rfl (by kernel_rfl) (fun K hK => ?_)
      go_simp
      refine hK.out _ _ trivial (fun hZ => ?_)
      clear hZ hK K
      try simp only [put_lit2, List.set]
      refine wpAnyH_onlyG 12 (by kernel_rfl) rfl (by kernel_rfl) (fun K hK => ?_)
      go_simp
      refine hK.out _ _ trivial (fun hZ => ?_)
      clear hZ hK K
      try simp only [put_lit2, List.set]
      refine wpAnyH_done (by kernel_rfl) ?_ _
      go_simp
      have ex : ∃ y' : NdL, y' = { y with A := A', c := c' } := ⟨_, rfl⟩
      obtain ⟨y', hy'⟩ := ex
      have own2 : Own (wv.setCell ⟨g, k * 2 + 1, none⟩ (.slice A' y.xs.length c')) (w.heap.size + 2) 103 2 A7 np c7 ((L.set k y').flatMap NdL.cells) := by
        rw [← flat_set (f := NdL.cells) (size := 2) (fun _ => rfl) (j := 1) (by omega) (.slice A' y.xs.length c') y' L k y hLy (by rw [hy']; rfl)]
        exact ho1
      have fs : Fr (One g) wv (wv.setCell ⟨g, k * 2 + 1, none⟩ (.slice A' y.xs.length c')) := (Fr.refl (One g) wv).setCell (p := ⟨g, k * 2 + 1, none⟩) (fun _ => rfl) _
      have hgr : rowOf A7 = some g := by rw [hA.out]; rfl
      have szf := hf.size
      have frow2 : Hid (∀ z ∈ (L.set k y').take (k + 1), Own (wv.setCell ⟨g, k * 2 + 1, none⟩ (.slice A' y.xs.length c')) w9.heap.size 144 4 z.A z.xs.length z.c (z.xs.flatMap Bx.cells)) := by
        intro z hz
        rw [step_take L k y' hLy] at hz
        have hgs : g < w9.heap.size := by have h1 := (b7 g hgr).2; omega
        rcases List.mem_append.1 hz with hz | hz
        · exact ((hrows.out z hz).fr fv' (fun _ _ e => e)).fr fs (fun j hj e => by have h1 := ((hrows.out z hz).row j hj).1; have e' : j = g := e; omega)
        · obtain rfl := List.mem_singleton.1 hz
          subst hy'
          exact (ov.lower szf).fr fs (fun j hj e => by have h1 := (ov.row j hj).1; have h2 : wr.drew.heap.size = wr.heap.size := rfl; have e' : j = g := e; omega)
      have fr2 : Fr (fun b => rowOf A7 = some b) w9 (wv.setCell ⟨g, k * 2 + 1, none⟩ (.slice A' y.xs.length c')) := (hf.trans fv' (fun _ _ e => e.elim)).trans fs (fun j hj e => by have e' : j = g := e; subst e'; exact hgr)
      have map2 : Hid ((L.set k y').map NdL.nd = x.path.map NdL.nd) := (step_map NdL.nd L k hLy (by rw [hy']; rfl)).trans hmap.out
      have drop2 : Hid ((L.set k y').drop (k + 1) = x.path.drop (k + 1)) := step_drop _ _ k y' hdrop.out
      generalize wv.setCell ⟨g, k * 2 + 1, none⟩ (.slice A' y.xs.length c') = ws at *
      generalize L.set k y' = L2 at *
      go_wp2_with (fail)
      go_roundw
      case rel => exact ⟨k + 1, L2, by go_num, by omega, map2, drop2, own2, frow2, fr2⟩
      case measure => simp [intOf]; omega
    · obtain rfl : np = k := by omega
      have hLl : L.length = x.path.length := by have h1 := congrArg List.length hmap.out; rwa [List.length_map, List.length_map] at h1
      rw [List.take_of_length_le (by rw [hLl, hnp.out]; exact Nat.le_refl _)] at hrows
      obtain ⟨w10, hw10⟩ : ∃ u, u = wr := ⟨_, rfl⟩
      subst hw10
      have sz10 := hf.size
      have bx10 := bx9.fr hf (fun e => by have h1 : w6.drew.heap.size ≤ w.heap.size := (b7 _ e).1; omega)
      have br10 := br9.fr hf (fun e => by have h1 : w6.drew.heap.size ≤ w.heap.size + 1 := (b7 _ e).1; omega)
      have hat10 := hat9.fr hf (fun j hj e => by have h1 := (b7 j e).1; omega)
      have fr10 := fr9.trans hf (fun j hj e => by have h1 := (b7 j e).1; omega)
      have t1 := q1.fr hf (fun j hj e => by have h1 := (b1 j hj).2; have h2 := (b7 j e).1; omega)
      have t2 := q2.fr hf (fun j hj e => by have h1 := (b2 j hj).2; have h2 := (b7 j e).1; omega)
      have t3 := q3.fr hf (fun j hj e => by have h1 := (b3 j hj).2; have h2 := (b7 j e).1; omega)
      have t4 := q4.fr hf (fun j hj e => by have h1 := (b4 j hj).2; have h2 := (b7 j e).1; omega)
      have t5 := q5.fr hf (fun j hj e => by have h1 := (b5 j hj).2; have h2 := (b7 j e).1; omega)
      have t8 := q8.fr hf (fun j hj e => by have h1 := (b8 j hj).1; have h2 := (b7 j e).2; omega)
      have t7 := hown
      have hmap7 := hmap
      have hrows7 := hrows
      have hLl7 := Lib.hid hLl
      clear hmap hrows hdrop hown hlt hk hLl hf bx9 br9 hat9 fr9 q1 q2 q3 q4 q5 q7 q8 k9
      obtain ⟨L7, hL7⟩ : ∃ u, u = L := ⟨_, rfl⟩
      subst hL7
      have k24 : w10.cell? ⟨w.heap.size, 24, none⟩ = some (.slice A8 nh c8) := (bx10.cell 24).trans e24.out
      go_wp2_with (fail)
      go_loopw [55] (fun v wr => ∃ (k : Nat) (L : List SlL), v = .int .i64 (k : Int) ∧ k ≤ nh ∧ Hid (L.map SlL.sl = x.hist.map SlL.sl) ∧ Hid (L.drop k = x.hist.drop k) ∧ Own wr (w.heap.size + 2) 106 4 A8 nh c8 (L.flatMap SlL.cells) ∧ Hid (∀ y ∈ L.take k, Own wr w10.heap.size 5 1 y.A y.y.length y.c (y.y.map Bv)) ∧ Fr (fun b => rowOf A8 = some b) w10 wr) (fun v _ => nh - (intOf v).toNat)
      case atStart => exact ⟨0, x.hist, rfl, by omega, rfl, rfl, t8, (fun _ h => by simp at h), Fr.refl _ _⟩
      case round =>
        obtain ⟨k, L, rfl, hk, hmap, hdrop, hown, hrows, hf⟩ := hrel
        by_cases hlt : k < nh
        · have i1 : (0 : Int) ≤ k := by omega
          have i2 : (k : Int) < nh := by omega
          have i3 : (k : Int).toNat = k := by omega
          obtain ⟨y, hy⟩ : ∃ y, x.hist[k]? = some y := ⟨_, List.getElem?_eq_getElem (by rw [hnh.out]; exact hlt)⟩
          have hLy : L[k]? = some y := (drop_get hdrop.out).trans hy
          have hmem := List.mem_of_getElem? hy
          have hyl := lseals.out y hmem
          obtain ⟨g, hA, hgb, hgl, hcell, hfz, _⟩ := Own.setAt hown (j := k * 4 + 3) (by omega) (.int .i64 0)
          have hyat := (hat10.seals y hmem).fr hf (fun j hj e => by have h1 := (b8 j e).1; omega)
          have d0 : wr.cell? ⟨g, k * 4 + 3, none⟩ = some (.slice y.A y.y.length y.c) := hcell _ (by rw [flat_get (f := SlL.cells) (fun _ => rfl) L k 3 y hLy (by omega)]; rfl)
          have kk : wr.cell? ⟨w.heap.size, 24, none⟩ = some (.slice A8 nh c8) := hf.cell k24 (fun e => by have h1 : w7.heap.size ≤ w.heap.size := (b8 _ e).1; omega)
          have hgw : w.heap.size + 2 ≤ g := hgb
          rw [hA] at kk
          have hset : ∀ (wv : World) (u : Value), Fr Non wr wv → wv.cell? ⟨g, k * 4 + 3, none⟩ = some (.slice y.A y.y.length y.c) ∧ wv.frozen? ⟨g, k * 4 + 3, none⟩ = false ∧ Own (wv.setCell ⟨g, k * 4 + 3, none⟩ u) (w.heap.size + 2) 106 4 A8 nh c8 ((L.flatMap SlL.cells).set (k * 4 + 3) u) := by
            intro wv u hfv
            obtain ⟨g2, hA2, _, _, hc2, hz2, ho2⟩ := Own.setAt (hown.fr hfv (fun _ _ e => e)) (j := k * 4 + 3) (by omega) u
            rw [hA] at hA2
            have hgg : g = g2 := by injection hA2 with e; injection e
            subst hgg
            exact ⟨hfv.cell d0 (fun e => e), hz2, ho2⟩
          replace hset := Lib.hid hset
          replace hA := Lib.hid hA
          clear hcell hfz
          go_upto_region 11 with (fail)
          refine wp_region_gate (S := (fun w' => w'.cell? ⟨w.heap.size, 24, none⟩ = some (.slice (some ⟨g, 0, none⟩) nh c8) ∧ w'.cell? ⟨g, k * 4 + 3, none⟩ = some (.slice y.A y.y.length y.c))) 10 (by kernel_rfl) ?_
          have hS : (fun w' => w'.cell? ⟨w.heap.size, 24, none⟩ = some (.slice (some ⟨g, 0, none⟩) nh c8) ∧ w'.cell? ⟨g, k * 4 + 3, none⟩ = some (.slice y.A y.y.length y.c)) wr.drew := ⟨kk, d0⟩
          have fd : Fr Non wr wr.drew := (Fr.refl Non wr).drew
          have hrd : Rd wr.drew w.heap.size 1 y.A y.y.length (y.y.map Bv) := And.left (hyat.fr fd (fun _ _ e => e))
          refine wpAnyG_takeL (i := 0) (v := ?_) rfl (by kernel_rfl) (by kernel_rfl) (by kernel_rfl) (by kernel_rfl) (fun _ _ _ h => h) (Or.inl ⟨by kernel_rfl, ?_⟩) hS ?_
          rotate_left
          focus (intro w' hSw; (try dsimp only at hSw); go_simp; (try with_reducible rfl))
          simp only [List.set]
          refine wpAnyG_takeL (i := 1) (v := ?_) rfl (by kernel_rfl) (by kernel_rfl) (by kernel_rfl) (by kernel_rfl) (fun _ _ _ h => h) (Or.inl ⟨by kernel_rfl, ?_⟩) hS ?_
          rotate_left
          focus (intro w' hSw; (try dsimp only at hSw); go_simp; (try with_reducible rfl))
          simp only [List.set]
          refine wpAnyG_takeL (i := 2) (v := ?_) rfl (by kernel_rfl) (by kernel_rfl) (by kernel_rfl) (by kernel_rfl) (fun _ _ _ h => h) (Or.inl ⟨by kernel_rfl, ?_⟩) hS ?_
          rotate_left
          focus (intro w' hSw; (try dsimp only at hSw); go_simp; (try with_reducible rfl))
          simp only [List.set]
          refine wpAnyG_takeL (i := 3) (v := ?_) rfl (by kernel_rfl) (by kernel_rfl) (by kernel_rfl) (by kernel_rfl) (fun _ _ _ h => h) (Or.inl ⟨by kernel_rfl, ?_⟩) hS ?_
          rotate_left
          focus (intro w' hSw; (try dsimp only at hSw); go_simp; (try with_reducible rfl))
          simp only [List.set]
          refine wpAnyG_takeL (i := 4) (v := ?_) rfl (by kernel_rfl) (by kernel_rfl) (by kernel_rfl) (by kernel_rfl) (fun _ _ _ h => h) (Or.inl ⟨by kernel_rfl, ?_⟩) hS ?_
          rotate_left
          focus (intro w' hSw; (try dsimp only at hSw); go_simp; (try with_reducible rfl))
          simp only [List.set]
          refine wpAnyG_takeL (i := 5) (v := ?_) rfl (by kernel_rfl) (by kernel_rfl) (by kernel_rfl) (by kernel_rfl) (fun _ _ _ h => h) (Or.inl ⟨by kernel_rfl, ?_⟩) hS ?_
          rotate_left
          focus (intro w' hSw; (try dsimp only at hSw); go_simp; (try with_reducible rfl))
          simp only [List.set]
          refine wpAnyG_takeL (i := 6) (v := ?_) rfl (by kernel_rfl) (by kernel_rfl) (by kernel_rfl) (by kernel_rfl) (fun _ _ _ h => h) (Or.inl ⟨by kernel_rfl, ?_⟩) hS ?_
          rotate_left
          focus (intro w' hSw; (try dsimp only at hSw); go_simp; (try with_reducible rfl))
          simp only [List.set]
          refine wpAnyG_takeL (i := 7) (v := ?_) rfl (by kernel_rfl) (by kernel_rfl) (by kernel_rfl) (by kernel_rfl) (fun _ _ _ h => h) (Or.inl ⟨by kernel_rfl, ?_⟩) hS ?_
          rotate_left
          focus (intro w' hSw; (try dsimp only at hSw); go_simp; (try with_reducible rfl))
          simp only [List.set]
          refine wpAnyG_takeL (i := 8) (v := ?_) rfl (by kernel_rfl) (by kernel_rfl) (by kernel_rfl) (by kernel_rfl) (fun _ _ _ h => h) (Or.inl ⟨by kernel_rfl, ?_⟩) hS ?_
          rotate_left
          focus (intro w' hSw; (try dsimp only at hSw); go_simp; (try with_reducible rfl))
          simp only [List.set]
          refine wpAnyG_onlyL 9 (by kernel_rfl) rfl (fun K hK => ?_)
          go_simp
          go_wp2_with (go_at_call 118; go_loud (with_reducible refine (clone_byte _ _ _ _ _ _ hrd (one1_map Bv (fun _ => rfl) _) hyl).mono ?_); rintro _ wv ⟨A', c', rfl, ov, fv⟩)
          have fv' := fd.trans fv (fun _ _ e => e)
          obtain ⟨d1, z1, ho1⟩ := hset.out wv (.slice A' y.y.length c') fv'
          refine hK.out _ _ ⟨fv'.cell kk (fun e => e), d1⟩ (fun hZ => ?_)
          clear hZ hK K
          try simp only [put_lit2, List.set]
          refine wpAnyG_gate (by kernel_rfl) ?_
          refine wpAnyH_onlyG 10 (by kernel_rfl) rfl (by kernel_rfl) (fun K hK => ?_)
          go_simp
          refine hK.out _ _ trivial (fun hZ => ?_)
          clear hZ hK K
          try simp only [put_lit2, List.set]
          refine wpAnyH_onlyG 11 (by kernel_rfl) rfl (by kernel_rfl) (fun K hK => ?_)
          go_simp
          refine hK.out _ _ trivial (fun hZ => ?_)
          clear hZ hK K
          try simp only [put_lit2, List.set]
          refine wpAnyH_onlyG 12 (by kernel_rfl) rfl (by kernel_rfl) (fun K hK => ?_)
          go_simp
          refine hK.out _ _ trivial (fun hZ => ?_)
          clear hZ hK K
          try simp only [put_lit2, List.set]
          refine wpAnyH_done (by kernel_rfl) ?_ _
          go_simp
          have ex : ∃ y' : SlL, y' = { y with A := A', c := c' } := ⟨_, rfl⟩
          obtain ⟨y', hy'⟩ := ex
          have own2 : Own (wv.setCell ⟨g, k * 4 + 3, none⟩ (.slice A' y.y.length c')) (w.heap.size + 2) 106 4 A8 nh c8 ((L.set k y').flatMap SlL.cells) := by
            rw [← flat_set (f := SlL.cells) (size := 4) (fun _ => rfl) (j := 3) (by omega) (.slice A' y.y.length c') y' L k y hLy (by rw [hy']; rfl)]
            exact ho1
          have fs : Fr (One g) wv (wv.setCell ⟨g, k * 4 + 3, none⟩ (.slice A' y.y.length c')) := (Fr.refl (One g) wv).setCell (p := ⟨g, k * 4 + 3, none⟩) (fun _ => rfl) _
          have hgr : rowOf A8 = some g := by rw [hA.out]; rfl
          have szf := hf.size
          have frow2 : Hid (∀ z ∈ (L.set k y').take (k + 1), Own (wv.setCell ⟨g, k * 4 + 3, none⟩ (.slice A' y.y.length c')) w10.heap.size 5 1 z.A z.y.length z.c (z.y.map Bv)) := by
            intro z hz
            rw [step_take L k y' hLy] at hz
            have hgs : g < w10.heap.size := by have h1 := (b8 g hgr).2; omega
            rcases List.mem_append.1 hz with hz | hz
            · exact ((hrows.out z hz).fr fv' (fun _ _ e => e)).fr fs (fun j hj e => by have h1 := ((hrows.out z hz).row j hj).1; have e' : j = g := e; omega)
            · obtain rfl := List.mem_singleton.1 hz
              subst hy'
              exact (ov.lower szf).fr fs (fun j hj e => by have h1 := (ov.row j hj).1; have h2 : wr.drew.heap.size = wr.heap.size := rfl; have e' : j = g := e; omega)
          have fr2 : Fr (fun b => rowOf A8 = some b) w10 (wv.setCell ⟨g, k * 4 + 3, none⟩ (.slice A' y.y.length c')) := (hf.trans fv' (fun _ _ e => e.elim)).trans fs (fun j hj e => by have e' : j = g := e; subst e'; exact hgr)
          have map2 : Hid ((L.set k y').map SlL.sl = x.hist.map SlL.sl) := (step_map SlL.sl L k hLy (by rw [hy']; rfl)).trans hmap.out
          have drop2 : Hid ((L.set k y').drop (k + 1) = x.hist.drop (k + 1)) := step_drop _ _ k y' hdrop.out
          generalize wv.setCell ⟨g, k * 4 + 3, none⟩ (.slice A' y.y.length c') = ws at *
          generalize L.set k y' = L2 at *
          go_wp2_with (fail)
          go_roundw
          case rel => exact ⟨k + 1, L2, by go_num, by omega, map2, drop2, own2, frow2, fr2⟩
          case measure => simp [intOf]; omega
        · obtain rfl : nh = k := by omega
          have hLl : L.length = x.hist.length := by have h1 := congrArg List.length hmap.out; rwa [List.length_map, List.length_map] at h1
          rw [List.take_of_length_le (by rw [hLl, hnh.out]; exact Nat.le_refl _)] at hrows
          obtain ⟨w11, hw11⟩ : ∃ u, u = wr := ⟨_, rfl⟩
          subst hw11
          have bx11 := bx10.fr hf (fun e => by have h1 : w7.heap.size ≤ w.heap.size := (b8 _ e).1; omega)
          have br11 := br10.fr hf (fun e => by have h1 : w7.heap.size ≤ w.heap.size + 1 := (b8 _ e).1; omega)
          have fr11 := fr10.trans hf (fun j hj e => by have h1 := (b8 j e).1; omega)
          have s1 := (t1.fr hf (fun j hj e => by have h1 := (b1 j hj).2; have h2 := (b8 j e).1; omega)).lower (base' := w.heap.size) (by omega)
          have s2 := (t2.fr hf (fun j hj e => by have h1 := (b2 j hj).2; have h2 := (b8 j e).1; omega)).lower (base' := w.heap.size) (by omega)
          have s3 := (t3.fr hf (fun j hj e => by have h1 := (b3 j hj).2; have h2 := (b8 j e).1; omega)).lower (base' := w.heap.size) (by omega)
          have s4 := (t4.fr hf (fun j hj e => by have h1 := (b4 j hj).2; have h2 := (b8 j e).1; omega)).lower (base' := w.heap.size) (by omega)
          have s5 := (t5.fr hf (fun j hj e => by have h1 := (b5 j hj).2; have h2 := (b8 j e).1; omega)).lower (base' := w.heap.size) (by omega)
          have s7 := (t7.fr hf (fun j hj e => by have h1 := (b7 j hj).2; have h2 := (b8 j e).1; omega)).lower (base' := w.heap.size) (by omega)
          have s8 := hown.lower (base' := w.heap.size) (by omega)
          have hb7 : ∀ j, w9.heap.size ≤ j → ¬ (rowOf A8 = some j) := fun j hj e => by have h2 := (b8 j e).2; omega
          have r7 : Hid (∀ y ∈ L7, Own w11 w.heap.size 144 4 y.A y.xs.length y.c (y.xs.flatMap Bx.cells)) := fun y hy => ((hrows7.out y hy).fr hf (fun j hj e => hb7 j ((hrows7.out y hy).row j hj).1 e)).lower (by omega)
          have r8 : Hid (∀ y ∈ L, Own w11 w.heap.size 5 1 y.A y.y.length y.c (y.y.map Bv)) := fun y hy => (hrows.out y hy).lower (by omega)
          obtain ⟨v, hv⟩ : ∃ v : OpL, v = { x with pastA := A1, pastC := c1, bodyA := A2, bodyC := c2, refsA := A3, refsC := c3, guardsA := A4, guardsC := c4, boxesA := A5, boxesC := c5, pathA := A7, pathC := c7, histA := A8, histC := c8, path := L7, hist := L } := ⟨_, rfl⟩
          have vop : v.op = x.op := by
            rw [hv]
            unfold OpL.op
            simp only [hmap7.out, hmap.out]
          have vown : v.own w11 w.heap.size := by
            rw [hnp.out.symm, ← hLl7.out] at s7
            rw [hnh.out.symm, ← hLl] at s8
            rw [hv]
            exact ⟨RowAt.of_own s1, RowAt.of_own s7, (fun y hy => RowAt.of_own (r7.out y hy)), RowAt.of_own s2, RowAt.of_own s3, RowAt.of_own s4, RowAt.of_own s5, RowAt.of_own s8, (fun y hy => RowAt.of_own (r8.out y hy))⟩
          have hbv : Blk w11 w.heap.size 44 v.cells := by
            have hc : v.cells = CS2 := by
              rw [← hCS2.out, hv]
              unfold OpL.cells
              simp only [hLl7.out, hLl]
            rw [hc]
            exact bx11
          clear hv hmap7 hmap r7 r8 s1 s2 s3 s4 s5 s7 s8 hrows7 hrows t1 t2 t3 t4 t5 t7 t8
          have honev := one_cells v
          have fin : Hid (∀ wz, Fr (One (w.heap.size + 1)) w11 wz → POST (.returned (.agg v.cells)) wz) := by
            intro wz hz
            exact hpost.out v wz vop (vown.keep hz ((Types.one br11).mono (fun t e => .inl e))) (fr11.trans hz (fun k hk e => absurd hk (by have e' : k = w.heap.size + 1 := e; omega)))
          clear vop vown hpost
          have tok1 : True := trivial
          go_wp2_with (first
            | (have _t := tok1; refine wpList_load_row rfl 44 (.tmp 1) rfl rfl hbv Tryz.underlying44 rfl hi ?_; clear tok1 _t)
            | (refine wpList_store_row rfl 44 (.tmp 2) (.tmp 71) rfl rfl rfl rfl br11 hi rfl honev ?_; have hfz := (Fr.refl (One (w.heap.size + 1)) w11).setRow (g := w.heap.size + 1) (fun _ => rfl) v.cells; have hz2 := br11.setRow (cs := v.cells); generalize w11.setRow (w.heap.size + 1) v.cells = wz at hfz hz2 ⊢; (repeat (first | go_values | go_skip | go_guarded | go_step)); exact ret_blk (t := 44) rfl rfl hz2 rfl Tryz.underlying44 (by kernel_rfl) rfl (fin.out wz hfz)))
end Oq
end Go.Proofs.YtafonabghnogaaaGreatDoor

namespace Go.Proofs.YtafonabghnogaaaGreatDoor
open Go.RowKit
attribute [local go_sem ↓] Go.wp_at_zero Go.wp_at_succ
namespace Oq
attribute [local go_sem ↓] loadAt_op storeAt_op
attribute [local go_sem] Bool.not_false Bool.not_true
/-- A load of a whole struct out of the middle of a row. -/
theorem ldS_inner {P : Program} {t : TypeId} {d : TypeDesc} (cs : Array Value) (b o : Nat) (hu : P.underlying t = some d) (hd : d.isRow = true) (hi : (P.info? t).map (·.size) = some cs.size) :
    ∀ w', World.rangeAt w' b o cs.toList → (ldS t (.pointer (some ⟨b, o, none⟩))).run P w' = .ok (.agg cs) w' := fun w' h => by
  have := run_loadAt_mid (P := P) w' b o t cs.toList d h hu hd (by rw [hi]; simp)
  unfold ldS
  rw [this]
def OpOfPost (r : Option OpL) (w : World) (e : Ending) (w' : World) : Prop :=
  match r with
  | none => e = .returned (.tuple #[.agg OpL.zero.cells, .bool false]) ∧ Fr Non w w'
  | some x => ∃ y : OpL, e = .returned (.tuple #[.agg y.cells, .bool true]) ∧ y.op = x.op ∧ y.own w' w.heap.size ∧ Fr Non w w'
/-- The operation of a name. -/
def Gph.opOf (g : Gph) (id : Id) : Option OpL := match place g.nodes id with | some i => g.nodes[i]?.map NodeG.x | none => none
set_option maxRecDepth 100000 in
set_option maxHeartbeats 2000000 in
theorem gop_any (base : Nat) (g : Gph) (id : Id) (w : World) (hg : GAt w base g) (hid : id.ok) : Calls Tryz.prog 36 #[.pointer (some ⟨g.gb, 0, none⟩), .agg #[.int .i64 id.b, .int .i64 id.s, .int .u64 (id.u : Int)]] w (OpOfPost (g.opOf id) w) := by
  have hi : (Tryz.prog.info? 44).map (·.size) = some 27 := by kernel_rfl
  have f1 : Fr Non w (w.alloc (.cells #[.int .i64 id.b, .int .i64 id.s, .int .u64 (id.u : Int)] 38)) := (Fr.refl Non w).alloc _
  have f0 := f1.alloc (.cells #[.int .i64 0, .int .i64 0, .int .i64 0, .int .i64 0, .slice none 0 0, .int .i64 0, .int .i64 0, .int .i64 0, .int .i64 0, .slice none 0 0, .int .i64 0, .int .i64 0, .int .u64 0, .int .i64 0, .slice none 0 0, .slice none 0 0, .int .i64 0, .int .i64 0, .int .u64 0, .slice none 0 0, .int .i64 0, .int .i64 0, .slice none 0 0, .int .u64 0, .slice none 0 0, .int .u64 0, .int .u64 0] 44)
  have hba := (Blk.new w 38 #[.int .i64 id.b, .int .i64 id.s, .int .u64 (id.u : Int)]).alloc (.cells #[.int .i64 0, .int .i64 0, .int .i64 0, .int .i64 0, .slice none 0 0, .int .i64 0, .int .i64 0, .int .i64 0, .int .i64 0, .slice none 0 0, .int .i64 0, .int .i64 0, .int .u64 0, .int .i64 0, .slice none 0 0, .slice none 0 0, .int .i64 0, .int .i64 0, .int .u64 0, .slice none 0 0, .int .i64 0, .int .i64 0, .slice none 0 0, .int .u64 0, .slice none 0 0, .int .u64 0, .int .u64 0] 44)
  have br := Blk.new (w.alloc (.cells #[.int .i64 id.b, .int .i64 id.s, .int .u64 (id.u : Int)] 38)) 44 #[.int .i64 0, .int .i64 0, .int .i64 0, .int .i64 0, .slice none 0 0, .int .i64 0, .int .i64 0, .int .i64 0, .int .i64 0, .slice none 0 0, .int .i64 0, .int .i64 0, .int .u64 0, .int .i64 0, .slice none 0 0, .slice none 0 0, .int .i64 0, .int .i64 0, .int .u64 0, .slice none 0 0, .int .i64 0, .int .i64 0, .slice none 0 0, .int .u64 0, .slice none 0 0, .int .u64 0, .int .u64 0]
  rw [World.size_alloc] at br
  have hsz : ((w.alloc (.cells #[.int .i64 id.b, .int .i64 id.s, .int .u64 (id.u : Int)] 38)).alloc (.cells #[.int .i64 0, .int .i64 0, .int .i64 0, .int .i64 0, .slice none 0 0, .int .i64 0, .int .i64 0, .int .i64 0, .int .i64 0, .slice none 0 0, .int .i64 0, .int .i64 0, .int .u64 0, .int .i64 0, .slice none 0 0, .slice none 0 0, .int .i64 0, .int .i64 0, .int .u64 0, .slice none 0 0, .int .i64 0, .int .i64 0, .slice none 0 0, .int .u64 0, .slice none 0 0, .int .u64 0, .int .u64 0] 44)).heap.size = w.heap.size + 2 := by rw [World.size_alloc, World.size_alloc]
  have hg1 := hg.fr f0
  generalize hw0 : ((w.alloc (.cells #[.int .i64 id.b, .int .i64 id.s, .int .u64 (id.u : Int)] 38)).alloc (.cells #[.int .i64 0, .int .i64 0, .int .i64 0, .int .i64 0, .slice none 0 0, .int .i64 0, .int .i64 0, .int .i64 0, .int .i64 0, .slice none 0 0, .int .i64 0, .int .i64 0, .int .u64 0, .int .i64 0, .slice none 0 0, .slice none 0 0, .int .i64 0, .int .i64 0, .int .u64 0, .slice none 0 0, .int .i64 0, .int .i64 0, .slice none 0 0, .int .u64 0, .slice none 0 0, .int .u64 0, .int .u64 0] 44)) = w0 at *
  have i0 : w0.cell? ⟨w.heap.size, 0, none⟩ = some (.int .i64 id.b) := hba.cell 0
  have i1 : w0.cell? ⟨w.heap.size, 1, none⟩ = some (.int .i64 id.s) := hba.cell 1
  have i2 : w0.cell? ⟨w.heap.size, 2, none⟩ = some (.int .u64 (id.u : Int)) := hba.cell 2
  have c1 : w0.cell? ⟨g.gb, 1, none⟩ = some (.map (some g.mb)) := hg1.blk.cell 1
  have c2 : w0.cell? ⟨g.gb, 2, none⟩ = some (.slice g.nA g.nodes.length g.nC) := hg1.blk.cell 2
  have hmap := hg1.map
  have hlook := fun (w' : World) (h : MapAt w' g.mb g.mm (place g.nodes)) => MapAt.look h id hid
  have hlv : Hid (g.opOf id = match place g.nodes id with | some i => g.nodes[i]?.map NodeG.x | none => none) := rfl
  generalize g.opOf id = R at *
  cases hp : place g.nodes id
  · have hR : R = none := by rw [hlv.out, hp]
    have fin : Hid (∀ wz, Fr (One (w.heap.size + 1)) w0 wz → OpOfPost R w (.returned (.tuple #[.agg OpL.zero.cells, .bool false])) wz) := by
      intro wz hz
      rw [hR]
      exact ⟨rfl, f0.trans hz (fun k hk e => absurd hk (by have e' : k = w.heap.size + 1 := e; omega))⟩
    clear hR hlv
    generalize OpOfPost R w = POST at *
    rw [hp] at hlook
    clear hg hg1 hba hp
    go_enter Tryz.func36, Tryz.ntmps36
    go_wp2_with (fail)
    clear hw0
    refine wp_region_held_drew (S := (fun w' => w'.cell? ⟨w.heap.size, 0, none⟩ = some (.int .i64 id.b) ∧ w'.cell? ⟨w.heap.size, 1, none⟩ = some (.int .i64 id.s) ∧ w'.cell? ⟨w.heap.size, 2, none⟩ = some (.int .u64 (id.u : Int)) ∧ w'.cell? ⟨g.gb, 1, none⟩ = some (.map (some g.mb)) ∧ MapAt w' g.mb g.mm (place g.nodes))) (by kernel_rfl) ⟨i0, i1, i2, c1, hmap⟩ (fun hHeld => ?_)
    clear hHeld
    have hS : (fun w' => w'.cell? ⟨w.heap.size, 0, none⟩ = some (.int .i64 id.b) ∧ w'.cell? ⟨w.heap.size, 1, none⟩ = some (.int .i64 id.s) ∧ w'.cell? ⟨w.heap.size, 2, none⟩ = some (.int .u64 (id.u : Int)) ∧ w'.cell? ⟨g.gb, 1, none⟩ = some (.map (some g.mb)) ∧ MapAt w' g.mb g.mm (place g.nodes)) w0.drew := ⟨i0, i1, i2, c1, hmap⟩
    replace f0 := f0.drew
    replace br := br.drew
    refine wpAnyH_takeL (i := 0) (v := ?_) rfl (by kernel_rfl) (by kernel_rfl) (by kernel_rfl) (fun _ _ _ h => h) (Or.inl ⟨by kernel_rfl, ?_⟩) hS ?_
    rotate_left
    focus (intro w' hSw; (try dsimp only at hSw); go_simp; (try with_reducible rfl))
    simp only [List.set]
    refine wpAnyH_takeL (i := 1) (v := ?_) rfl (by kernel_rfl) (by kernel_rfl) (by kernel_rfl) (fun _ _ _ h => h) (Or.inl ⟨by kernel_rfl, ?_⟩) hS ?_
    rotate_left
    focus (intro w' hSw; (try dsimp only at hSw); go_simp; (try with_reducible rfl))
    simp only [List.set]
    refine wpAnyH_takeL (i := 2) (v := ?_) rfl (by kernel_rfl) (by kernel_rfl) (by kernel_rfl) (fun _ _ _ h => h) (Or.inl ⟨by kernel_rfl, ?_⟩) hS ?_
    rotate_left
    focus (intro w' hSw; (try dsimp only at hSw); go_simp; (try with_reducible rfl))
    simp only [List.set]
    refine wpAnyH_takeL (i := 3) (v := ?_) rfl (by kernel_rfl) (by kernel_rfl) (by kernel_rfl) (fun _ _ _ h => h) (Or.inl ⟨by kernel_rfl, ?_⟩) hS ?_
    rotate_left
    focus (intro w' hSw; (try dsimp only at hSw); go_simp; (try with_reducible rfl))
    simp only [List.set]
    refine wpAnyH_takeL (i := 4) (v := ?_) rfl (by kernel_rfl) (by kernel_rfl) (by kernel_rfl) (fun _ _ _ h => h) (Or.inl ⟨by kernel_rfl, ?_⟩) hS ?_
    rotate_left
    focus (intro w' hSw; (try dsimp only at hSw); go_simp; (try with_reducible rfl))
    simp only [List.set]
    refine wpAnyH_takeL (i := 5) (v := ?_) rfl (by kernel_rfl) (by kernel_rfl) (by kernel_rfl) (fun _ _ _ h => h) (Or.inl ⟨by kernel_rfl, ?_⟩) hS ?_
    rotate_left
    focus (intro w' hSw; (try dsimp only at hSw); go_simp; (try with_reducible rfl))
    simp only [List.set]
    refine wpAnyH_takeL (i := 6) (v := ?_) rfl (by kernel_rfl) (by kernel_rfl) (by kernel_rfl) (fun _ _ _ h => h) (Or.inl ⟨by kernel_rfl, ?_⟩) hS ?_
    rotate_left
    focus (intro w' hSw; (try dsimp only at hSw); go_simp; (try with_reducible rfl))
    simp only [List.set]
    refine wpAnyH_takeL (i := 7) (v := ?_) rfl (by kernel_rfl) (by kernel_rfl) (by kernel_rfl) (fun _ _ _ h => h) (Or.inl ⟨by kernel_rfl, ?_⟩) hS ?_
    rotate_left
    focus (intro w' hSw; (try dsimp only at hSw); go_simp; (try with_reducible rfl))
    simp only [List.set]
    refine wpAnyH_takeL (i := 8) (v := ?_) rfl (by kernel_rfl) (by kernel_rfl) (by kernel_rfl) (fun _ _ _ h => h) (Or.inl ⟨by kernel_rfl, ?_⟩) hS ?_
    rotate_left
    focus (intro w' hSw; (try dsimp only at hSw); go_simp; (try with_reducible rfl))
    simp only [List.set]
    refine wpAnyH_takeL (i := 9) (v := ?_) rfl (by kernel_rfl) (by kernel_rfl) (by kernel_rfl) (fun _ _ _ h => h) (Or.inl ⟨by kernel_rfl, ?_⟩) hS ?_
    rotate_left
    focus (intro w' hSw; (try dsimp only at hSw); go_simp; (try with_reducible rfl))
    simp only [List.set]
    refine wpAnyH_takeL (i := 10) (v := ?_) rfl (by kernel_rfl) (by kernel_rfl) (by kernel_rfl) (fun _ _ _ h => h) (Or.inl ⟨by kernel_rfl, ?_⟩) hS ?_
    rotate_left
    focus (intro w' hSw; (try dsimp only at hSw); go_simp; (try with_reducible rfl))
    simp only [List.set]
    refine wpAnyH_done (by kernel_rfl) ?_ _
    go_simp
    have fz := ((Fr.refl (One (w.heap.size + 1)) w0).drew).setRow (g := w.heap.size + 1) (fun _ => rfl) #[.int .i64 0, .int .i64 0, .int .i64 0, .int .i64 0, .slice none 0 0, .int .i64 0, .int .i64 0, .int .i64 0, .int .i64 0, .slice none 0 0, .int .i64 0, .int .i64 0, .int .u64 0, .int .i64 0, .slice none 0 0, .slice none 0 0, .int .i64 0, .int .i64 0, .int .u64 0, .slice none 0 0, .int .i64 0, .int .i64 0, .slice none 0 0, .int .u64 0, .slice none 0 0, .int .u64 0, .int .u64 0]
    have hz2 := br.setRow (cs := #[.int .i64 0, .int .i64 0, .int .i64 0, .int .i64 0, .slice none 0 0, .int .i64 0, .int .i64 0, .int .i64 0, .int .i64 0, .slice none 0 0, .int .i64 0, .int .i64 0, .int .u64 0, .int .i64 0, .slice none 0 0, .slice none 0 0, .int .i64 0, .int .i64 0, .int .u64 0, .slice none 0 0, .int .i64 0, .int .i64 0, .slice none 0 0, .int .u64 0, .slice none 0 0, .int .u64 0, .int .u64 0])
    have hst := stS_blk (P := Tryz.prog) (t := 44) (old := #[.int .i64 0, .int .i64 0, .int .i64 0, .int .i64 0, .slice none 0 0, .int .i64 0, .int .i64 0, .int .i64 0, .int .i64 0, .slice none 0 0, .int .i64 0, .int .i64 0, .int .u64 0, .int .i64 0, .slice none 0 0, .slice none 0 0, .int .i64 0, .int .i64 0, .int .u64 0, .slice none 0 0, .int .i64 0, .int .i64 0, .slice none 0 0, .int .u64 0, .slice none 0 0, .int .u64 0, .int .u64 0]) (cs := #[.int .i64 0, .int .i64 0, .int .i64 0, .int .i64 0, .slice none 0 0, .int .i64 0, .int .i64 0, .int .i64 0, .int .i64 0, .slice none 0 0, .int .i64 0, .int .i64 0, .int .u64 0, .int .i64 0, .slice none 0 0, .slice none 0 0, .int .i64 0, .int .i64 0, .int .u64 0, .slice none 0 0, .int .i64 0, .int .i64 0, .slice none 0 0, .int .u64 0, .slice none 0 0, .int .u64 0, .int .u64 0]) (w.heap.size + 1) 44 hi rfl (one_cells OpL.zero)
    go_wp2_with (fail)
    (try simp only [Exit.inBlock, Exit.then])
    refine ret_blk2 (t := 44) rfl rfl hz2 rfl Tryz.underlying44 (by kernel_rfl) rfl ?_
    exact fin.out _ fz
  · rename_i i
    obtain ⟨n, hn, _⟩ := place_some hp
    have hR : R = some n.x := by rw [hlv.out, hp]; simp [hn]
    have hlen := hg.few
    have hin : i < g.nodes.length := (List.getElem?_eq_some_iff.1 hn).1
    have hnat := (hg1.node n (List.mem_of_getElem? hn)).at_
    have hnok := (hg1.node n (List.mem_of_getElem? hn)).ok
    obtain ⟨b, off, hA, hbB, hc⟩ := hg1.cell hn
    have hrg : World.rangeAt w0.drew b (off + i * 35) n.x.cells.toList := by
      intro j v hv
      have hj : j < 27 := (List.getElem?_eq_some_iff.1 hv).1
      exact hc j (by omega) v (by unfold NodeG.cells; rw [List.getElem?_append_left (by show j < 27; exact hj)]; exact hv)
    have hlm := ldS_inner (P := Tryz.prog) n.x.cells b (off + i * 35) Tryz.underlying44 rfl hi
    rw [hA] at c2
    have j1 : (0 : Int) ≤ i := by omega
    have j2 : (i : Int) < g.nodes.length := by omega
    have j3 : (i : Int).toNat = i := by omega
    have j4 : IntKind.i64.wrap (i : Int) = i := IntWalk.i64_in _ (by omega)
    rw [hp] at hlook
    have fin : Hid (∀ (y : OpL) wz, y.op = n.x.op → y.own wz w.heap.size → Fr Non w wz → OpOfPost R w (.returned (.tuple #[.agg y.cells, .bool true])) wz) := by
      intro y wz h1 h2 h3
      rw [hR]
      exact ⟨y, rfl, h1, h2, h3⟩
    clear hR hlv hg hg1 hba hp hn hin hc hA hbB
    generalize OpOfPost R w = POST at *
    generalize g.nodes.length = nn at *
    generalize n.x = x at *
    have kc := Lib.hid (fun w' (h : x.at w' w'.heap.size) => gclone_any x w' h hnok)
    obtain ⟨CX, hCX⟩ := hid_ex x.cells
    rw [hCX.out] at hrg hlm kc
    go_enter Tryz.func36, Tryz.ntmps36
    go_wp2_with (fail)
    clear hw0
    have c2' := c2
    refine wp_region_held_drew (S := (fun w' => w'.cell? ⟨w.heap.size, 0, none⟩ = some (.int .i64 id.b) ∧ w'.cell? ⟨w.heap.size, 1, none⟩ = some (.int .i64 id.s) ∧ w'.cell? ⟨w.heap.size, 2, none⟩ = some (.int .u64 (id.u : Int)) ∧ w'.cell? ⟨g.gb, 1, none⟩ = some (.map (some g.mb)) ∧ MapAt w' g.mb g.mm (place g.nodes))) (by kernel_rfl) ⟨i0, i1, i2, c1, hmap⟩ (fun hHeld => ?_)
    clear hHeld
    have hS : (fun w' => w'.cell? ⟨w.heap.size, 0, none⟩ = some (.int .i64 id.b) ∧ w'.cell? ⟨w.heap.size, 1, none⟩ = some (.int .i64 id.s) ∧ w'.cell? ⟨w.heap.size, 2, none⟩ = some (.int .u64 (id.u : Int)) ∧ w'.cell? ⟨g.gb, 1, none⟩ = some (.map (some g.mb)) ∧ MapAt w' g.mb g.mm (place g.nodes)) w0.drew := ⟨i0, i1, i2, c1, hmap⟩
    replace f0 := f0.drew
    replace br := br.drew
    refine wpAnyH_takeL (i := 0) (v := ?_) rfl (by kernel_rfl) (by kernel_rfl) (by kernel_rfl) (fun _ _ _ h => h) (Or.inl ⟨by kernel_rfl, ?_⟩) hS ?_
    rotate_left
    focus (intro w' hSw; (try dsimp only at hSw); go_simp; (try with_reducible rfl))
    simp only [List.set]
    refine wpAnyH_takeL (i := 1) (v := ?_) rfl (by kernel_rfl) (by kernel_rfl) (by kernel_rfl) (fun _ _ _ h => h) (Or.inl ⟨by kernel_rfl, ?_⟩) hS ?_
    rotate_left
    focus (intro w' hSw; (try dsimp only at hSw); go_simp; (try with_reducible rfl))
    simp only [List.set]
    refine wpAnyH_takeL (i := 2) (v := ?_) rfl (by kernel_rfl) (by kernel_rfl) (by kernel_rfl) (fun _ _ _ h => h) (Or.inl ⟨by kernel_rfl, ?_⟩) hS ?_
    rotate_left
    focus (intro w' hSw; (try dsimp only at hSw); go_simp; (try with_reducible rfl))
    simp only [List.set]
    refine wpAnyH_takeL (i := 3) (v := ?_) rfl (by kernel_rfl) (by kernel_rfl) (by kernel_rfl) (fun _ _ _ h => h) (Or.inl ⟨by kernel_rfl, ?_⟩) hS ?_
    rotate_left
    focus (intro w' hSw; (try dsimp only at hSw); go_simp; (try with_reducible rfl))
    simp only [List.set]
    refine wpAnyH_takeL (i := 4) (v := ?_) rfl (by kernel_rfl) (by kernel_rfl) (by kernel_rfl) (fun _ _ _ h => h) (Or.inl ⟨by kernel_rfl, ?_⟩) hS ?_
    rotate_left
    focus (intro w' hSw; (try dsimp only at hSw); go_simp; (try with_reducible rfl))
    simp only [List.set]
    refine wpAnyH_takeL (i := 5) (v := ?_) rfl (by kernel_rfl) (by kernel_rfl) (by kernel_rfl) (fun _ _ _ h => h) (Or.inl ⟨by kernel_rfl, ?_⟩) hS ?_
    rotate_left
    focus (intro w' hSw; (try dsimp only at hSw); go_simp; (try with_reducible rfl))
    simp only [List.set]
    refine wpAnyH_takeL (i := 6) (v := ?_) rfl (by kernel_rfl) (by kernel_rfl) (by kernel_rfl) (fun _ _ _ h => h) (Or.inl ⟨by kernel_rfl, ?_⟩) hS ?_
    rotate_left
    focus (intro w' hSw; (try dsimp only at hSw); go_simp; (try with_reducible rfl))
    simp only [List.set]
    refine wpAnyH_takeL (i := 7) (v := ?_) rfl (by kernel_rfl) (by kernel_rfl) (by kernel_rfl) (fun _ _ _ h => h) (Or.inl ⟨by kernel_rfl, ?_⟩) hS ?_
    rotate_left
    focus (intro w' hSw; (try dsimp only at hSw); go_simp; (try with_reducible rfl))
    simp only [List.set]
    refine wpAnyH_takeL (i := 8) (v := ?_) rfl (by kernel_rfl) (by kernel_rfl) (by kernel_rfl) (fun _ _ _ h => h) (Or.inl ⟨by kernel_rfl, ?_⟩) hS ?_
    rotate_left
    focus (intro w' hSw; (try dsimp only at hSw); go_simp; (try with_reducible rfl))
    simp only [List.set]
    refine wpAnyH_takeL (i := 9) (v := ?_) rfl (by kernel_rfl) (by kernel_rfl) (by kernel_rfl) (fun _ _ _ h => h) (Or.inl ⟨by kernel_rfl, ?_⟩) hS ?_
    rotate_left
    focus (intro w' hSw; (try dsimp only at hSw); go_simp; (try with_reducible rfl))
    simp only [List.set]
    refine wpAnyH_takeL (i := 10) (v := ?_) rfl (by kernel_rfl) (by kernel_rfl) (by kernel_rfl) (fun _ _ _ h => h) (Or.inl ⟨by kernel_rfl, ?_⟩) hS ?_
    rotate_left
    focus (intro w' hSw; (try dsimp only at hSw); go_simp; (try with_reducible rfl))
    simp only [List.set]
    refine wpAnyH_done (by kernel_rfl) ?_ _
    go_simp
    replace c2' : w0.drew.cell? ⟨g.gb, 2, none⟩ = some (.slice (some ⟨b, off, none⟩) nn g.nC) := c2'
    have hnat' := OpL.frame hnat ((Fr.refl Non w0).drew)
    go_wp2_with (first
      | (go_at_call 69; (with_reducible refine (kc.out _ hnat').mono ?_); rintro _ w1 ⟨y, rfl, yop, yown, fy⟩; have br1 := br.fr fy (fun e => e); have honey := one_cells y; have fr1 := f0.trans fy (fun _ _ e => e); have szd : w0.drew.heap.size = w.heap.size + 2 := hsz)
      | (refine wpList_store_row rfl 44 (.tmp 4) (.tmp 28) rfl rfl rfl rfl br1 hi rfl honey ?_; have fz := ((Fr.refl (One (w.heap.size + 1)) w1)).setRow (g := w.heap.size + 1) (fun _ => rfl) y.cells; have hz2 := br1.setRow (cs := y.cells); generalize w1.setRow (w.heap.size + 1) y.cells = wz at fz hz2 ⊢))
    (try simp only [Exit.inBlock, Exit.then])
    refine ret_blk2 (t := 44) rfl rfl hz2 rfl Tryz.underlying44 (by kernel_rfl) rfl ?_
    exact fin.out y _ yop ((yown.keep fz ((Types.one br1).mono (fun t e => .inl e))).lower (by omega)) (fr1.trans fz (fun k hk e => absurd hk (by have e' : k = w.heap.size + 1 := e; omega)))
end Oq
end Go.Proofs.YtafonabghnogaaaGreatDoor

namespace Go.Proofs.YtafonabghnogaaaGreatDoor
open Go.RowKit
attribute [local go_sem ↓] Go.wp_at_zero Go.wp_at_succ
namespace Oq
attribute [local go_sem ↓] loadAt_op storeAt_op
/-- What slices.DeleteFunc does with the closure of Lacks. -/
def DeletesIds : Prop := ∀ (base gv : Nat) (A : Option Addr) (c : Nat) (l : List Id) (p : Id → Bool) (w : World), Own w base 38 3 A l.length c (l.flatMap Id.cells) → l.length ≤ 1000000 →
  (∀ x ∈ l, ∀ w' : World, Fr (fun k => rowOf A = some k) w w' → Calls Tryz.prog 81 #[.agg #[.int .i64 x.b, .int .i64 x.s, .int .u64 (x.u : Int)], .pointer (some ⟨gv, 0, none⟩)] w' (BoolPost (p x) w')) →
  Calls Tryz.prog 79 #[.slice A l.length c, .func (.func 81) #[] #[.pointer (some ⟨gv, 0, none⟩)]] w fun e w' =>
    ∃ ys : List Id, ys = l.filter (fun x => !p x) ∧ e = .returned (.slice A ys.length c) ∧ Rd w' w'.heap.size 3 A ys.length (ys.flatMap Id.cells) ∧ Fr (fun k => rowOf A = some k) w w'
def LackPost (l : List Id) (w : World) (e : Ending) (w' : World) : Prop := ∃ A c, e = .returned (.slice A l.length c) ∧ Rd w' w'.heap.size 3 A l.length (l.flatMap Id.cells) ∧ Fr Non w w'
set_option maxRecDepth 100000 in
set_option maxHeartbeats 1000000 in
theorem lacks_any (base : Nat) (g : Gph) (x : OpL) (w : World) (hdel : DeletesIds) (hg : GAt w base g) (hat : x.at w w.heap.size) (hok : ∀ id ∈ x.past, id.ok) (hn : x.past.length ≤ 1000000) :
    Calls Tryz.prog 26 #[.pointer (some ⟨g.gb, 0, none⟩), .agg x.cells] w (LackPost (x.past.filter (fun id => !(place g.nodes id).isSome)) w) := by
  have e4 : Hid (x.cells[4]? = some (.slice x.pastA x.past.length x.pastC)) := rfl
  obtain ⟨CS, hCS⟩ := hid_ex x.cells
  have f0 : Fr Non w ((w.alloc (.cells #[.pointer (some ⟨g.gb, 0, none⟩)] 34)).alloc (.cells CS 44)) := ((Fr.refl Non w).alloc _).alloc _
  have bg := (Blk.new w 34 #[.pointer (some ⟨g.gb, 0, none⟩)]).alloc (.cells CS 44)
  have bx := Blk.new (w.alloc (.cells #[.pointer (some ⟨g.gb, 0, none⟩)] 34)) 44 CS
  rw [World.size_alloc] at bx
  rw [hCS.out] at e4 ⊢
  have hfin : Hid (∀ (ys : List Id) A c w', ys = x.past.filter (fun id => !(place g.nodes id).isSome) → Rd w' w'.heap.size 3 A ys.length (ys.flatMap Id.cells) → Fr Non w w' → LackPost (x.past.filter (fun id => !(place g.nodes id).isSome)) w (.returned (.slice A ys.length c)) w') := by
    intro ys A c w' h1 h2 h3
    subst h1
    exact ⟨A, c, rfl, h2, h3⟩
  generalize LackPost (x.past.filter (fun id => !(place g.nodes id).isSome)) w = POST at *
  go_enter Tryz.func26, Tryz.ntmps26
  go_upto_region 1 with (fail)
  generalize (w.alloc (.cells #[.pointer (some ⟨g.gb, 0, none⟩)] 34)).alloc (.cells CS 44) = w0 at *
  have c4 : w0.cell? ⟨w.heap.size + 1, 4, none⟩ = some (.slice x.pastA x.past.length x.pastC) := (bx.cell 4).trans e4.out
  have kc := Lib.hid (clone_id _ _ x.pastC _ _ w0 (OpL.frame hat f0).past.rd (Id.cells_one _) hn)
  go_wp2_with (fail)
  refine (kc.out).mono ?_
  rintro _ w1 ⟨A1, c1, rfl, o1, f1⟩
  have sz0 := f0.size
  have f01 := f0.trans f1 (fun _ _ e => e)
  have bg1 := bg.fr f1 (fun e => e)
  have hrow := o1.row
  have kd := Lib.hid (hdel w0.heap.size w.heap.size A1 c1 x.past (fun id => (place g.nodes id).isSome) w1 o1 hn (fun id hid w' hf => by
    have hf' : Fr Non w w' := f01.trans hf (fun j hj e => by have h1 := (hrow j e).1; omega)
    refine (lackc_any base g w.heap.size id w' (hg.fr hf') ?_ (hok id hid))
    exact (bg1.fr hf (fun e => by have h1 := (hrow _ e).1; have h2 := bg.lt; omega)).cell 0))
  have hff : Hid (∀ w', Fr (fun k => rowOf A1 = some k) w1 w' → Fr Non w w') := fun w' hf => f01.trans hf (fun j hj e => by have h1 := (hrow j e).1; omega)
  clear kc hdel hg hat hok bg bx bg1 o1 f1 f0 f01
  go_wp2_with (fail)
  refine (kd.out).mono ?_
  rintro _ w2 ⟨ys, hys, rfl, hrd, hf2⟩
  have fin := Lib.hid (hfin.out ys A1 c1 w2 hys hrd (hff.out w2 hf2))
  clear hfin hff kd hys hrd hf2
  go_wp2_with (fail)
  exact fin.out
end Oq
end Go.Proofs.YtafonabghnogaaaGreatDoor

namespace Go.Proofs.YtafonabghnogaaaGreatDoor
open Go.RowKit
/-- clear of a slice of structs: its cells hold zeros. -/
theorem run_clear_rows {P : Program} (w : World) (t e ty : TypeId) (z : Value) (ht : P.underlying t = some (.slice e)) (hv : ∀ w, (zeroValue e).run P w = .ok z w) (b o n c : Nat) (hn : 0 < n)
    (hc : ∀ j, j < (Builtin.zeroCells z.cells n).toList.length → (w.cell? ⟨b, o + j, none⟩).isSome = true) (hf : ∀ j, j < (Builtin.zeroCells z.cells n).toList.length → w.frozen? ⟨b, o + j, none⟩ = false)
    (h1 : ∀ v ∈ (Builtin.zeroCells z.cells n).toList, v.oneCell' = true) :
    (Builtin.clear_ #[t] ty #[.slice (some ⟨b, o, none⟩) n c]).run P w = .ok (.tuple #[]) (w.setCells b o (Builtin.zeroCells z.cells n).toList) := by
  have hst := run_storeCells_cells (P := P) b o (Builtin.zeroCells z.cells n).toList 0 w (by simpa using hc) (by simpa using hf) h1
  simp only [Nat.add_zero] at hst
  obtain ⟨m, rfl⟩ : ∃ m, n = m + 1 := ⟨n - 1, by omega⟩
  simp [Builtin.clear_, run_underlying ht, hv, hst]
end Go.Proofs.YtafonabghnogaaaGreatDoor

namespace Go.Proofs.YtafonabghnogaaaGreatDoor
open Go.RowKit
attribute [local go_sem ↓] Go.wp_at_zero Go.wp_at_succ
theorem fr_setCells (g : Nat) : ∀ (vs : List Value) (o : Nat) (w : World), Fr (One g) w (w.setCells g o vs)
  | [], _, _ => Fr.refl _ _
  | v :: vs, o, w => ((Fr.refl (One g) w).setCell (p := ⟨g, o, none⟩) (fun _ => rfl) v).trans (fr_setCells g vs (o + 1) _) (fun _ _ e => e)
namespace Oq
theorem filter_none {α : Type} (l : List α) (p : α → Bool) (h : l.any p = false) : l.filter (fun x => !p x) = l := by
  rw [List.filter_eq_self]
  intro x hx
  rw [List.any_eq_false] at h
  simpa using h x hx
theorem filter_snoc {α : Type} (l : List α) (p : α → Bool) {k : Nat} {x : α} (h : l[k]? = some x) : (l.take (k + 1)).filter p = (l.take k).filter p ++ (if p x then [x] else []) := by
  obtain ⟨hk, rfl⟩ := List.getElem?_eq_some_iff.1 h
  rw [List.take_succ_eq_append_getElem hk, List.filter_append]
  congr 1
  cases hp : p l[k] <;> simp [hp]
/-- Three stores of a name's numbers at place i of an own row of names. -/
theorem Own.putId {w : World} {base n c g : Nat} {l : List Id} (h : Own w base 38 3 (some ⟨g, 0, none⟩) n c (l.flatMap Id.cells)) {i : Nat} {y : Id} (hy : l[i]? = some y) (hi : i < n) (x : Id) :
    (∀ j, j < 3 → (w.cell? ⟨g, i * 3 + j, none⟩).isSome = true ∧ w.frozen? ⟨g, i * 3 + j, none⟩ = false) ∧
    Own (((w.setCell ⟨g, i * 3, none⟩ (.int .i64 x.b)).setCell ⟨g, i * 3 + 1, none⟩ (.int .i64 x.s)).setCell ⟨g, i * 3 + 2, none⟩ (.int .u64 (x.u : Int))) base 38 3 (some ⟨g, 0, none⟩) n c ((l.set i x).flatMap Id.cells) := by
  constructor
  · intro j hj
    obtain ⟨g2, hA, _, _, hc, hz, _⟩ := Own.setAt h (j := i * 3 + j) (by omega) (.int .i64 0)
    have hgg : g = g2 := by injection hA with e; injection e
    subst hgg
    have hl : (l.flatMap Id.cells)[i * 3 + j]? = y.cells[j]? := flat_get (f := Id.cells) (fun _ => rfl) l i j y hy hj
    have hyj : ∃ v, y.cells[j]? = some v := ⟨_, List.getElem?_eq_getElem (by show j < 3; exact hj)⟩
    obtain ⟨v, hv⟩ := hyj
    exact ⟨by rw [hc v (hl.trans hv)]; rfl, hz⟩
  · have step : ∀ (w : World) (xs : List Value) (j : Nat) (u : Value), Own w base 38 3 (some ⟨g, 0, none⟩) n c xs → j < n * 3 → Own (w.setCell ⟨g, j, none⟩ u) base 38 3 (some ⟨g, 0, none⟩) n c (xs.set j u) := by
      intro w xs j u h hj
      obtain ⟨g2, hA, _, _, _, _, ho⟩ := Own.setAt h (j := j) hj u
      have hgg : g = g2 := by injection hA with e; injection e
      subst hgg
      exact ho
    have h1 := step _ _ (i * 3) (.int .i64 x.b) h (by omega)
    have h2 := step _ _ (i * 3 + 1) (.int .i64 x.s) h1 (by omega)
    have h3 := step _ _ (i * 3 + 2) (.int .u64 (x.u : Int)) h2 (by omega)
    have e1 : (l.flatMap Id.cells).set (i * 3) (.int .i64 x.b) = (l.set i ⟨x.b, y.s, y.u⟩).flatMap Id.cells := flat_set (f := Id.cells) (size := 3) (fun _ => rfl) (j := 0) (by omega) _ _ l i y hy rfl
    have hi1 : (l.set i ⟨x.b, y.s, y.u⟩)[i]? = some ⟨x.b, y.s, y.u⟩ := by
      rw [List.getElem?_set_self (List.getElem?_eq_some_iff.1 hy).1]
    have e2 : ((l.set i ⟨x.b, y.s, y.u⟩).flatMap Id.cells).set (i * 3 + 1) (.int .i64 x.s) = (l.set i ⟨x.b, x.s, y.u⟩).flatMap Id.cells := by
      have := flat_set (f := Id.cells) (size := 3) (fun _ => rfl) (j := 1) (by omega) (.int .i64 x.s) ⟨x.b, x.s, y.u⟩ _ i _ hi1 rfl
      rwa [List.set_set] at this
    have hi2 : (l.set i ⟨x.b, x.s, y.u⟩)[i]? = some ⟨x.b, x.s, y.u⟩ := by
      rw [List.getElem?_set_self (List.getElem?_eq_some_iff.1 hy).1]
    have e3 : ((l.set i ⟨x.b, x.s, y.u⟩).flatMap Id.cells).set (i * 3 + 2) (.int .u64 (x.u : Int)) = (l.set i x).flatMap Id.cells := by
      have := flat_set (f := Id.cells) (size := 3) (fun _ => rfl) (j := 2) (by omega) (.int .u64 (x.u : Int)) x _ i _ hi2 rfl
      rwa [List.set_set] at this
    rw [e1, e2, e3] at h3
    exact h3
theorem zeros_id (n : Nat) : (Builtin.zeroCells (Value.agg #[.int .i64 0, .int .i64 0, .int .u64 0]).cells n).toList.length = n * 3 := by
  simp [Builtin.zeroCells, Value.cells]
theorem zeros_one (n : Nat) : ∀ v ∈ (Builtin.zeroCells (Value.agg #[.int .i64 0, .int .i64 0, .int .u64 0]).cells n).toList, v.oneCell' = true := by
  intro v hv
  unfold Builtin.zeroCells at hv
  rw [Array.toList_map] at hv
  obtain ⟨i, _, rfl⟩ := List.mem_map.1 hv
  have h : i % 3 = 0 ∨ i % 3 = 1 ∨ i % 3 = 2 := by omega
  show (#[Value.int .i64 0, .int .i64 0, .int .u64 0][i % 3]!).oneCell' = true
  rcases h with e | e | e <;> rw [e] <;> rfl
set_option maxRecDepth 100000 in
set_option maxHeartbeats 2000000 in
theorem deletesIds : DeletesIds := by
  intro base gv A c l p w hown hlen hdel
  have kix := Lib.hid (index_id w.heap.size l.length c gv A l p w rfl hown.rd hlen (fun x hx w' hf => hdel x hx w' (hf.mono (fun _ _ e => e.elim))))
  obtain ⟨n, hn⟩ := hid_ex l.length
  have hcap := hown.cap
  have hrow := hown.row
  have hgoal : Hid (∀ (ys : List Id) (m : Nat) (w' : World), m = ys.length → ys = l.filter (fun x => !p x) → Rd w' w'.heap.size 3 A m (ys.flatMap Id.cells) → Fr (fun k => rowOf A = some k) w w' → (∃ ys : List Id, ys = l.filter (fun x => !p x) ∧ Ending.returned (.slice A m c) = .returned (.slice A ys.length c) ∧ Rd w' w'.heap.size 3 A ys.length (ys.flatMap Id.cells) ∧ Fr (fun k => rowOf A = some k) w w')) := by
    intro ys m w' h1 h2 h3 h4
    subst h1
    exact ⟨ys, h2, rfl, h3, h4⟩
  rw [hn.out] at kix hown hcap hlen ⊢
  go_enter Tryz.func79, Tryz.ntmps79
  go_wp2_with (fail)
  refine (kix.out).mono ?_
  rintro e w1 ⟨h, f1⟩
  clear kix
  have f1' : Fr (fun k => rowOf A = some k) w w1 := f1.mono (fun _ _ e => e.elim)
  replace hown := hown.fr f1 (fun _ _ e => e)
  rcases h with ⟨k, id, rfl, hk, hpk, hany⟩ | ⟨rfl, hany⟩
  · have hkn : k < n := by rw [← hn.out]; exact (List.getElem?_eq_some_iff.1 hk).1
    obtain ⟨g, rfl⟩ : ∃ g, A = some ⟨g, 0, none⟩ := by
      rcases hown.2 with ⟨_, h0⟩ | ⟨g, cap, cur, hv, _⟩
      · omega
      · injection hv with hA _ _
        exact ⟨g, hA⟩
    have hneg : ((k : Int) == -1) = false := by rw [beq_eq_false_iff_ne]; omega
    have hst0 : Hid (l.take k = (l.take (k + 1)).filter (fun x => !p x)) := by
      show _ = _
      rw [filter_snoc l _ hk, hpk, filter_none _ _ hany]
      simp
    clear hany hpk hk
    go_wp2_with (fail)
    go_loopw [5, 6] (fun vi vj wr => ∃ (i j : Nat) (cur : List Id), vi = .int .i64 (i : Int) ∧ vj = .int .i64 (j : Int) ∧ i < j ∧ j ≤ n ∧ Hid (cur.take i = (l.take j).filter (fun x => !p x)) ∧ Hid (cur.drop j = l.drop j) ∧ Own wr base 38 3 (some ⟨g, 0, none⟩) n c (cur.flatMap Id.cells) ∧ Fr (fun k => rowOf (some ⟨g, 0, none⟩) = some k) w wr) (fun _ vj _ => n - (intOf vj).toNat)
    case atStart => exact ⟨k, k + 1, l, rfl, by go_num, by omega, by omega, hst0.out, rfl, hown, f1'⟩
    case round =>
      obtain ⟨i, j, cur, rfl, rfl, hij, hjn, htake, hdrop, hcur, hf⟩ := hrel
      have hcl : cur.length = n := by
        have h1 := hcur.len
        rw [flat_len (f := Id.cells) (size := 3) (fun _ => rfl)] at h1
        omega
      by_cases hlt : j < n
      · have i1 : (0 : Int) ≤ j := by omega
        have i2 : (j : Int) < n := by omega
        have i3 : (j : Int).toNat = j := by omega
        have m1 : (0 : Int) ≤ i := by omega
        have m2 : (i : Int) < n := by omega
        have m3 : (i : Int).toNat = i := by omega
        obtain ⟨x, hx⟩ : ∃ x, l[j]? = some x := ⟨_, List.getElem?_eq_getElem (by rw [hn.out]; exact hlt)⟩
        obtain ⟨y, hy⟩ : ∃ y, cur[i]? = some y := ⟨_, List.getElem?_eq_getElem (by rw [hcl]; omega)⟩
        have hcx : cur[j]? = some x := (drop_get hdrop.out).trans hx
        obtain ⟨b, off, hA, hbB, k0, k1, k2⟩ := Id.at hcur.rd hcx
        obtain ⟨rfl, rfl⟩ : g = b ∧ 0 = off := by injection hA with e; injection e with e1 e2; exact ⟨e1, e2⟩
        rw [Nat.zero_add] at k0 k1 k2
        have hsn := Lib.hid (filter_snoc l (fun x => !p x) hx)
        have hc := Lib.hid (fun w' (h : Fr (fun k => rowOf (some ⟨g, 0, none⟩) = some k) w w') => hdel x (List.mem_of_getElem? hx) w' h)
        have hst := Lib.hid (fun (wv : World) (hv : Fr Non wr wv) => Own.putId (hcur.fr hv (fun _ _ e => e)) hy (by omega) x)
        have hfa := hf.alloc (.cells #[.int .i64 x.b, .int .i64 x.s, .int .u64 (x.u : Int)] 38)
        have hbx := Blk.new wr 38 #[.int .i64 x.b, .int .i64 x.s, .int .u64 (x.u : Int)]
        have hna : Fr Non wr (wr.alloc (.cells #[.int .i64 x.b, .int .i64 x.s, .int .u64 (x.u : Int)] 38)) := (Fr.refl Non wr).alloc _
        have hgl : g < wr.heap.size := hbB
        have hcur' := hcur
        have hx' := Lib.hid hx
        have hy' := Lib.hid hy
        have hil : i < l.length := by rw [hn.out]; omega
        clear hx hy hcx hA hbB hcur hown hrow hst0 hcl
        have hdr := Lib.hid (show (cur.set i x).drop (j + 1) = l.drop (j + 1) by
          rw [List.drop_set_of_lt (by omega)]
          have h2 := congrArg (List.drop 1) hdrop.out
          rwa [List.drop_drop, List.drop_drop] at h2)
        have hdr1 := Lib.hid (show cur.drop (j + 1) = l.drop (j + 1) by
          have h2 := congrArg (List.drop 1) hdrop.out
          rwa [List.drop_drop, List.drop_drop] at h2)
        rcases Bool.eq_false_or_eq_true (p x) with hp | hp
        · have hs1 : Hid (cur.take i = (l.take (j + 1)).filter (fun x => !p x)) := by
            show _ = _
            rw [hsn.out, hp, htake.out]
            simp
          rw [hp] at hc
          clear hp hsn
          go_wp2_with (go_at_call 81; (with_reducible refine (hc.out _ hfa).mono ?_); rintro _ w2 ⟨rfl, f2⟩)
          go_roundw
          case rel => exact ⟨i, j + 1, cur, rfl, by go_num, by omega, by omega, hs1, hdr1, (hcur'.fr hna (fun _ _ e => e)).fr f2 (fun _ _ e => e), hfa.trans f2 (fun _ _ e => e.elim)⟩
          case measure => simp [intOf]; omega
        · have hs1 : Hid ((cur.set i x).take (i + 1) = (l.take (j + 1)).filter (fun x => !p x)) := by
            show _ = _
            rw [hsn.out, hp, step_take cur i x hy'.out, htake.out]
            simp
          rw [hp] at hc
          clear hp hsn
          go_wp2_with (go_at_call 81; (with_reducible refine (hc.out _ hfa).mono ?_); rintro _ w2 ⟨rfl, f2⟩; obtain ⟨hz, ho⟩ := hst.out w2 (hna.trans f2 (fun _ _ e => e)); have hz0 := hz 0 (by omega); have hz1 := hz 1 (by omega); have hz2 := hz 2 (by omega); obtain ⟨v0, y0⟩ := Option.isSome_iff_exists.1 hz0.1; obtain ⟨v1, y1⟩ := Option.isSome_iff_exists.1 hz1.1; obtain ⟨v2, y2⟩ := Option.isSome_iff_exists.1 hz2.1; have z0 := hz0.2; have z1 := hz1.2; have z2 := hz2.2; rw [Nat.add_zero] at y0 z0; clear hz hz0 hz1 hz2 hst; have hbx2 := hbx.fr f2 (fun e => e); have b0 := hbx2.cell 0; have b1 := hbx2.cell 1; have b2 := hbx2.cell 2; replace b0 : w2.cell? ⟨wr.heap.size, 0, none⟩ = some (.int .i64 x.b) := b0; replace b1 : w2.cell? ⟨wr.heap.size, 1, none⟩ = some (.int .i64 x.s) := b1; replace b2 : w2.cell? ⟨wr.heap.size, 2, none⟩ = some (.int .u64 (x.u : Int)) := b2)
          go_roundw
          case rel =>
            exact ⟨i + 1, j + 1, cur.set i x, by go_num, by go_num, by omega, by omega, hs1, hdr, ho, (((hfa.trans f2 (fun _ _ e => e.elim)).setCell (p := ⟨g, i * 3, none⟩) (fun _ => rfl) _).setCell (p := ⟨g, i * 3 + 1, none⟩) (fun _ => rfl) _).setCell (p := ⟨g, i * 3 + 2, none⟩) (fun _ => rfl) _⟩
          case measure => simp [intOf]; omega
      · obtain rfl : j = n := by omega
        have hi1 : (0 : Int) ≤ i := by omega
        have hi2 : (i : Int) < j := by omega
        have hi3 : (i : Int).toNat = i := by omega
        have hcc := hcur.cap
        have hi4 : (i : Int) < c := by omega
        have hgl := hcur.row g rfl
        have hfin : Hid (∀ vs : List Value, Rd (wr.setCells g (i * 3) vs) (wr.setCells g (i * 3) vs).heap.size 3 (some ⟨g, 0, none⟩) i ((l.filter (fun x => !p x)).flatMap Id.cells) ∧ Fr (fun k => rowOf (some ⟨g, 0, none⟩) = some k) w (wr.setCells g (i * 3) vs)) := by
          intro vs
          have fz := fr_setCells g vs (i * 3) wr
          have e1 : cur.take i = l.filter (fun x => !p x) := by
            rw [htake.out, List.take_of_length_le (by rw [hn.out]; exact Nat.le_refl _)]
          have hlen2 : (l.filter (fun x => !p x)).length = i := by rw [← e1, List.length_take]; omega
          refine ⟨⟨by rw [flat_len (f := Id.cells) (size := 3) (fun _ => rfl), hlen2], .inr ⟨g, 0, rfl, Nat.lt_of_lt_of_le hgl.2 fz.size, ?_⟩⟩, hf.trans fz (fun k _ e => by have e' : k = g := e; subst e'; rfl)⟩
          intro q u hu
          have hq : q < i * 3 := by
            have h1 := (List.getElem?_eq_some_iff.1 hu).1
            rw [flat_len (f := Id.cells) (size := 3) (fun _ => rfl), hlen2] at h1
            exact h1
          rw [Nat.zero_add, World.cell?_setCells_out g vs (i * 3) wr ⟨g, q, none⟩ (fun _ _ => .inl hq)]
          obtain ⟨g2, hA2, _, _, hc2, _, _⟩ := Own.setAt hcur (j := q) (by omega) (.int .i64 0)
          have hgg : g = g2 := by injection hA2 with e; injection e
          subst hgg
          refine hc2 u ?_
          rw [← e1] at hu
          have hsplit : cur.flatMap Id.cells = (cur.take i).flatMap Id.cells ++ (cur.drop i).flatMap Id.cells := by rw [← List.flatMap_append, List.take_append_drop]
          rw [hsplit, List.getElem?_append_left (List.getElem?_eq_some_iff.1 hu).1]
          exact hu
        have hthere : Hid (∀ q, q < (j - i) * 3 → (wr.cell? ⟨g, i * 3 + q, none⟩).isSome = true ∧ wr.frozen? ⟨g, i * 3 + q, none⟩ = false) := by
          intro q hq
          have hm : i * 3 + q < j * 3 := by omega
          obtain ⟨g2, hA2, _, _, hc2, hz2, _⟩ := Own.setAt hcur (j := i * 3 + q) hm (.int .i64 0)
          have hgg : g = g2 := by injection hA2 with e; injection e
          subst hgg
          have hl : i * 3 + q < (cur.flatMap Id.cells).length := by rw [flat_len (f := Id.cells) (size := 3) (fun _ => rfl), hcl]; exact hm
          exact ⟨by rw [hc2 _ (List.getElem?_eq_getElem hl)]; rfl, hz2⟩
        have hlen3 : Hid (i = (l.filter (fun x => !p x)).length) := by
          show _ = _
          have e1 : cur.take i = l.filter (fun x => !p x) := by
            rw [htake.out, List.take_of_length_le (by rw [hn.out]; exact Nat.le_refl _)]
          rw [← e1, List.length_take]
          omega
        clear hcur htake hdrop hdel hown hst0 hf
        have hclr : (Builtin.clear_ #[28] 0 #[Value.slice (some ⟨g, i * 3, none⟩) (j - i) (c - i)]).run Tryz.prog wr = .ok (.tuple #[]) (wr.setCells g (i * 3) (Builtin.zeroCells (Value.agg #[.int .i64 0, .int .i64 0, .int .u64 0]).cells (j - i)).toList) :=
          run_clear_rows wr 28 38 0 _ Tryz.underlying28 (fun _ => Tryz.zeroValue38 _) g (i * 3) (j - i) (c - i) (by omega) (fun q hq => (hthere.out q (by rw [zeros_id] at hq; exact hq)).1) (fun q hq => (hthere.out q (by rw [zeros_id] at hq; exact hq)).2) (zeros_one _)
        have hf0 := Lib.hid (fun vs => hgoal.out (l.filter (fun x => !p x)) i (wr.setCells g (i * 3) vs) hlen3.out rfl (hfin.out vs).1 (hfin.out vs).2)
        clear hthere hfin hlen3 hgoal
        generalize (Builtin.zeroCells (Value.agg #[.int .i64 0, .int .i64 0, .int .u64 0]).cells (j - i)).toList = ZS at hclr
        go_wp2_with (fail)
        go_ret
        exact hf0.out _
  · have hf0 := Lib.hid (hgoal.out l n w1 hn.out.symm (filter_none l p hany).symm (by have := hown.rd; exact this) f1')
    clear hgoal hdel hany
    go_wp2_with (fail)
    go_ret
    exact hf0.out
end Oq
end Go.Proofs.YtafonabghnogaaaGreatDoor

namespace Go.Proofs.YtafonabghnogaaaGreatDoor
open Go.RowKit
attribute [local go_sem ↓] Go.wp_at_zero Go.wp_at_succ
namespace Oq
attribute [local go_sem] Bool.not_false Bool.not_true
/-- Whether a place is in the past of a name. -/
def Gph.up (g : Gph) (id : Id) (q : Nat) : Bool := match place g.nodes id with | some i => (g.nodes[i]?.map (fun n => n.past q)).getD false | none => false
/-- .. of one of some names. -/
def Gph.ups (g : Gph) (ids : List Id) (q : Nat) : Bool := ids.any (fun id => g.up id q)
theorem ups_snoc (g : Gph) (ids : List Id) (k : Nat) {id : Id} (h : ids[k]? = some id) : g.ups (ids.take (k + 1)) = fun q => g.ups (ids.take k) q || g.up id q := by
  funext q
  unfold Gph.ups
  obtain ⟨hk, rfl⟩ := List.getElem?_eq_some_iff.1 h
  rw [List.take_succ_eq_append_getElem hk, List.any_append]
  simp
def SetPost (m : Nat → Bool) (w : World) (e : Ending) (w' : World) : Prop := ∃ a0 a1 a2 a3 : Nat, e = .returned (.agg #[.int .u64 (a0 : Int), .int .u64 (a1 : Int), .int .u64 (a2 : Int), .int .u64 (a3 : Int)]) ∧ SetIs [a0, a1, a2, a3] m ∧ Fr Non w w'
set_option maxRecDepth 100000 in
set_option maxHeartbeats 2000000 in
theorem above_any (base : Nat) (g : Gph) (B n c : Nat) (A : Option Addr) (ids : List Id) (w : World) (hg : GAt w base g) (hn : Hid (ids.length = n)) (hr : Rd w B 3 A n (ids.flatMap Id.cells)) (hnm : n ≤ 1000000) (hok : ∀ id ∈ ids, id.ok) :
    Calls Tryz.prog 82 #[.pointer (some ⟨g.gb, 0, none⟩), .slice A n c] w (SetPost (g.ups ids) w) := by
  have f0 : Fr Non w ((w.alloc (.cells #[.int .u64 0, .int .u64 0, .int .u64 0, .int .u64 0] 116)).alloc (.cells #[.int .u64 0, .int .u64 0, .int .u64 0, .int .u64 0] 116)) := ((Fr.refl Non w).alloc _).alloc _
  have br := (Blk.new w 116 #[.int .u64 0, .int .u64 0, .int .u64 0, .int .u64 0]).alloc (.cells #[.int .u64 0, .int .u64 0, .int .u64 0, .int .u64 0] 116)
  have bs := Blk.new (w.alloc (.cells #[.int .u64 0, .int .u64 0, .int .u64 0, .int .u64 0] 116)) 116 #[.int .u64 0, .int .u64 0, .int .u64 0, .int .u64 0]
  rw [World.size_alloc] at bs
  have hfin : ∀ (a0 a1 a2 a3 : Nat) (wz : World), SetIs [a0, a1, a2, a3] (g.ups ids) → Fr Non w wz → SetPost (g.ups ids) w (.returned (.agg #[.int .u64 (a0 : Int), .int .u64 (a1 : Int), .int .u64 (a2 : Int), .int .u64 (a3 : Int)])) wz := fun a0 a1 a2 a3 wz h1 h2 => ⟨a0, a1, a2, a3, rfl, h1, h2⟩
  replace hfin := Lib.hid hfin
  generalize SetPost (g.ups ids) w = POST at *
  go_enter Tryz.func82, Tryz.ntmps82
  go_upto_region 2 with (fail)
  generalize ((w.alloc (.cells #[.int .u64 0, .int .u64 0, .int .u64 0, .int .u64 0] 116)).alloc (.cells #[.int .u64 0, .int .u64 0, .int .u64 0, .int .u64 0] 116)) = w0 at *
  go_wp2_with (fail)
  go_loopw [12] (fun v wr => ∃ (k : Nat) (a0 a1 a2 a3 : Nat), v = .int .i64 (k : Int) ∧ k ≤ n ∧ Hid (SetIs [a0, a1, a2, a3] (g.ups (ids.take k))) ∧ Blk wr (w.heap.size + 1) 116 #[.int .u64 (a0 : Int), .int .u64 (a1 : Int), .int .u64 (a2 : Int), .int .u64 (a3 : Int)] ∧ Fr (One (w.heap.size + 1)) w0 wr) (fun v _ => n - (intOf v).toNat)
  case atStart => exact ⟨0, 0, 0, 0, 0, rfl, by omega, SetIs.empty, bs, Fr.refl _ _⟩
  case round =>
    obtain ⟨k, a0, a1, a2, a3, rfl, hk, hset, hbs, hf⟩ := hrel
    have fw : Fr Non w wr := f0.trans hf (fun j hj e => by have e' : j = w.heap.size + 1 := e; omega)
    by_cases hlt : k < n
    · have i1 : (0 : Int) ≤ k := by omega
      have i2 : (k : Int) < n := by omega
      have i3 : (k : Int).toNat = k := by omega
      obtain ⟨id, hid⟩ : ∃ x, ids[k]? = some x := ⟨_, List.getElem?_eq_getElem (by rw [hn.out]; exact hlt)⟩
      obtain ⟨b, off, hA, hbB, d0, d1, d2⟩ := Id.at (hr.fr fw (fun _ _ e => e)) hid
      have hidok := hok id (List.mem_of_getElem? hid)
      have hsn := Lib.hid (ups_snoc g ids k hid)
      have fa : Fr Non w (wr.alloc (.cells #[.int .i64 id.b, .int .i64 id.s, .int .u64 (id.u : Int)] 38)) := fw.alloc _
      have hg1 := hg.fr fa
      have hbi := Blk.new wr 38 #[.int .i64 id.b, .int .i64 id.s, .int .u64 (id.u : Int)]
      have hbs1 := hbs.alloc (.cells #[.int .i64 id.b, .int .i64 id.s, .int .u64 (id.u : Int)] 38)
      have hf1 := hf.alloc (.cells #[.int .i64 id.b, .int .i64 id.s, .int .u64 (id.u : Int)] 38)
      have c2 := hg1.blk.cell 2
      have c1 := hg1.blk.cell 1
      have hmap := hg1.map
      have hlook := fun (w' : World) (h : MapAt w' g.mb g.mm (place g.nodes)) => MapAt.look h id hidok
      have hup : Hid (g.up id = fun q => match place g.nodes id with | some i => (g.nodes[i]?.map (fun n => n.past q)).getD false | none => false) := rfl
      have i4 := hbi.cell 0
      have i5 := hbi.cell 1
      have i6 := hbi.cell 2
      rw [hA]
      replace hA := Lib.hid hA
      generalize hw1 : wr.alloc (.cells #[.int .i64 id.b, .int .i64 id.s, .int .u64 (id.u : Int)] 38) = w1 at *
      replace c1 : w1.cell? ⟨g.gb, 1, none⟩ = some (.map (some g.mb)) := c1
      replace c2 : w1.cell? ⟨g.gb, 2, none⟩ = some (.slice g.nA g.nodes.length g.nC) := c2
      replace i4 : w1.cell? ⟨wr.heap.size, 0, none⟩ = some (.int .i64 id.b) := i4
      replace i5 : w1.cell? ⟨wr.heap.size, 1, none⟩ = some (.int .i64 id.s) := i5
      replace i6 : w1.cell? ⟨wr.heap.size, 2, none⟩ = some (.int .u64 (id.u : Int)) := i6
      cases hp : place g.nodes id
      · have hm : Hid (g.ups (ids.take (k + 1)) = g.ups (ids.take k)) := by
          show _ = _
          rw [hsn.out, hup.out, hp]
          simp
        rw [hp] at hlook
        clear hg1 hbi hp hup hsn
        go_upto_region 5 with (fail)
        try rw [hw1]
        clear hw1
        refine wp_region_held_drew (S := (fun w' => w'.cell? ⟨wr.heap.size, 0, none⟩ = some (.int .i64 id.b) ∧ w'.cell? ⟨wr.heap.size, 1, none⟩ = some (.int .i64 id.s) ∧ w'.cell? ⟨wr.heap.size, 2, none⟩ = some (.int .u64 (id.u : Int)) ∧ w'.cell? ⟨g.gb, 1, none⟩ = some (.map (some g.mb)) ∧ MapAt w' g.mb g.mm (place g.nodes))) (by kernel_rfl) ⟨i4, i5, i6, c1, hmap⟩ (fun hHeld => ?_)
        clear hHeld
        have hS : (fun w' => w'.cell? ⟨wr.heap.size, 0, none⟩ = some (.int .i64 id.b) ∧ w'.cell? ⟨wr.heap.size, 1, none⟩ = some (.int .i64 id.s) ∧ w'.cell? ⟨wr.heap.size, 2, none⟩ = some (.int .u64 (id.u : Int)) ∧ w'.cell? ⟨g.gb, 1, none⟩ = some (.map (some g.mb)) ∧ MapAt w' g.mb g.mm (place g.nodes)) w1.drew := ⟨i4, i5, i6, c1, hmap⟩
        replace hf1 := hf1.drew
        replace hbs1 := hbs1.drew
        refine wpAnyH_takeL (i := 0) (v := ?_) rfl (by kernel_rfl) (by kernel_rfl) (by kernel_rfl) (fun _ _ _ h => h) (Or.inl ⟨by kernel_rfl, ?_⟩) hS ?_
        rotate_left
        focus (intro w' hSw; (try dsimp only at hSw); go_simp; (try with_reducible rfl))
        simp only [List.set]
        refine wpAnyH_takeL (i := 1) (v := ?_) rfl (by kernel_rfl) (by kernel_rfl) (by kernel_rfl) (fun _ _ _ h => h) (Or.inl ⟨by kernel_rfl, ?_⟩) hS ?_
        rotate_left
        focus (intro w' hSw; (try dsimp only at hSw); go_simp; (try with_reducible rfl))
        simp only [List.set]
        refine wpAnyH_takeL (i := 2) (v := ?_) rfl (by kernel_rfl) (by kernel_rfl) (by kernel_rfl) (fun _ _ _ h => h) (Or.inl ⟨by kernel_rfl, ?_⟩) hS ?_
        rotate_left
        focus (intro w' hSw; (try dsimp only at hSw); go_simp; (try with_reducible rfl))
        simp only [List.set]
        refine wpAnyH_takeL (i := 3) (v := ?_) rfl (by kernel_rfl) (by kernel_rfl) (by kernel_rfl) (fun _ _ _ h => h) (Or.inl ⟨by kernel_rfl, ?_⟩) hS ?_
        rotate_left
        focus (intro w' hSw; (try dsimp only at hSw); go_simp; (try with_reducible rfl))
        simp only [List.set]
        refine wpAnyH_takeL (i := 4) (v := ?_) rfl (by kernel_rfl) (by kernel_rfl) (by kernel_rfl) (fun _ _ _ h => h) (Or.inl ⟨by kernel_rfl, ?_⟩) hS ?_
        rotate_left
        focus (intro w' hSw; (try dsimp only at hSw); go_simp; (try with_reducible rfl))
        simp only [List.set]
        refine wpAnyH_takeL (i := 5) (v := ?_) rfl (by kernel_rfl) (by kernel_rfl) (by kernel_rfl) (fun _ _ _ h => h) (Or.inl ⟨by kernel_rfl, ?_⟩) hS ?_
        rotate_left
        focus (intro w' hSw; (try dsimp only at hSw); go_simp; (try with_reducible rfl))
        simp only [List.set]
        refine wpAnyH_takeL (i := 6) (v := ?_) rfl (by kernel_rfl) (by kernel_rfl) (by kernel_rfl) (fun _ _ _ h => h) (Or.inl ⟨by kernel_rfl, ?_⟩) hS ?_
        rotate_left
        focus (intro w' hSw; (try dsimp only at hSw); go_simp; (try with_reducible rfl))
        simp only [List.set]
        refine wpAnyH_takeL (i := 7) (v := ?_) rfl (by kernel_rfl) (by kernel_rfl) (by kernel_rfl) (fun _ _ _ h => h) (Or.inl ⟨by kernel_rfl, ?_⟩) hS ?_
        rotate_left
        focus (intro w' hSw; (try dsimp only at hSw); go_simp; (try with_reducible rfl))
        simp only [List.set]
        refine wpAnyH_takeL (i := 8) (v := ?_) rfl (by kernel_rfl) (by kernel_rfl) (by kernel_rfl) (fun _ _ _ h => h) (Or.inl ⟨by kernel_rfl, ?_⟩) hS ?_
        rotate_left
        focus (intro w' hSw; (try dsimp only at hSw); go_simp; (try with_reducible rfl))
        simp only [List.set]
        refine wpAnyH_takeL (i := 9) (v := ?_) rfl (by kernel_rfl) (by kernel_rfl) (by kernel_rfl) (fun _ _ _ h => h) (Or.inl ⟨by kernel_rfl, ?_⟩) hS ?_
        rotate_left
        focus (intro w' hSw; (try dsimp only at hSw); go_simp; (try with_reducible rfl))
        simp only [List.set]
        refine wpAnyH_takeL (i := 10) (v := ?_) rfl (by kernel_rfl) (by kernel_rfl) (by kernel_rfl) (fun _ _ _ h => h) (Or.inl ⟨by kernel_rfl, ?_⟩) hS ?_
        rotate_left
        focus (intro w' hSw; (try dsimp only at hSw); go_simp; (try with_reducible rfl))
        simp only [List.set]
        refine wpAnyH_done (by kernel_rfl) ?_ _
        go_simp
        go_wp2_with (fail)
        go_roundw
        case rel => exact ⟨k + 1, a0, a1, a2, a3, by go_num, by omega, by show SetIs _ _; rw [hm.out]; exact hset.out, hbs1, hf1⟩
        case measure => simp [intOf]; omega
      · rename_i i
        obtain ⟨nd, hnd, _⟩ := place_some hp
        have hlen := hg.few
        have hin : i < g.nodes.length := (List.getElem?_eq_some_iff.1 hnd).1
        have hm : Hid (g.ups (ids.take (k + 1)) = fun q => g.ups (ids.take k) q || nd.past q) := by
          show _ = _
          rw [hsn.out, hup.out, hp]
          simp [hnd]
        have hnset : Hid (SetIs [nd.a0, nd.a1, nd.a2, nd.a3] nd.past) := (hg1.node nd (List.mem_of_getElem? hnd)).set
        obtain ⟨bn, offn, hAn, hat⟩ := hg1.setAt hnd
        have m0 : w1.cell? ⟨bn, offn + i * 35 + 30, none⟩ = some (.int .u64 (nd.a0 : Int)) := hat 0 (by omega)
        have m1 : w1.cell? ⟨bn, offn + i * 35 + 30 + 1, none⟩ = some (.int .u64 (nd.a1 : Int)) := hat 1 (by omega)
        have m2 : w1.cell? ⟨bn, offn + i * 35 + 30 + 2, none⟩ = some (.int .u64 (nd.a2 : Int)) := hat 2 (by omega)
        have m3 : w1.cell? ⟨bn, offn + i * 35 + 30 + 3, none⟩ = some (.int .u64 (nd.a3 : Int)) := hat 3 (by omega)
        rw [hAn] at c2
        have j1 : (0 : Int) ≤ i := by omega
        have j2 : (i : Int) < g.nodes.length := by omega
        have j3 : (i : Int).toNat = i := by omega
        have j4 : IntKind.i64.wrap (i : Int) = i := IntWalk.i64_in _ (by omega)
        rw [hp] at hlook
        clear hg1 hbi hp hup hsn hnd hin hAn hat
        generalize g.nodes.length = nn at *
        go_upto_region 5 with (fail)
        try rw [hw1]
        clear hw1
        refine wp_region_held_drew (S := (fun w' => w'.cell? ⟨wr.heap.size, 0, none⟩ = some (.int .i64 id.b) ∧ w'.cell? ⟨wr.heap.size, 1, none⟩ = some (.int .i64 id.s) ∧ w'.cell? ⟨wr.heap.size, 2, none⟩ = some (.int .u64 (id.u : Int)) ∧ w'.cell? ⟨g.gb, 1, none⟩ = some (.map (some g.mb)) ∧ MapAt w' g.mb g.mm (place g.nodes))) (by kernel_rfl) ⟨i4, i5, i6, c1, hmap⟩ (fun hHeld => ?_)
        clear hHeld
        have hS : (fun w' => w'.cell? ⟨wr.heap.size, 0, none⟩ = some (.int .i64 id.b) ∧ w'.cell? ⟨wr.heap.size, 1, none⟩ = some (.int .i64 id.s) ∧ w'.cell? ⟨wr.heap.size, 2, none⟩ = some (.int .u64 (id.u : Int)) ∧ w'.cell? ⟨g.gb, 1, none⟩ = some (.map (some g.mb)) ∧ MapAt w' g.mb g.mm (place g.nodes)) w1.drew := ⟨i4, i5, i6, c1, hmap⟩
        replace hf1 := hf1.drew
        replace hbs1 := hbs1.drew
        refine wpAnyH_takeL (i := 0) (v := ?_) rfl (by kernel_rfl) (by kernel_rfl) (by kernel_rfl) (fun _ _ _ h => h) (Or.inl ⟨by kernel_rfl, ?_⟩) hS ?_
        rotate_left
        focus (intro w' hSw; (try dsimp only at hSw); go_simp; (try with_reducible rfl))
        simp only [List.set]
        refine wpAnyH_takeL (i := 1) (v := ?_) rfl (by kernel_rfl) (by kernel_rfl) (by kernel_rfl) (fun _ _ _ h => h) (Or.inl ⟨by kernel_rfl, ?_⟩) hS ?_
        rotate_left
        focus (intro w' hSw; (try dsimp only at hSw); go_simp; (try with_reducible rfl))
        simp only [List.set]
        refine wpAnyH_takeL (i := 2) (v := ?_) rfl (by kernel_rfl) (by kernel_rfl) (by kernel_rfl) (fun _ _ _ h => h) (Or.inl ⟨by kernel_rfl, ?_⟩) hS ?_
        rotate_left
        focus (intro w' hSw; (try dsimp only at hSw); go_simp; (try with_reducible rfl))
        simp only [List.set]
        refine wpAnyH_takeL (i := 3) (v := ?_) rfl (by kernel_rfl) (by kernel_rfl) (by kernel_rfl) (fun _ _ _ h => h) (Or.inl ⟨by kernel_rfl, ?_⟩) hS ?_
        rotate_left
        focus (intro w' hSw; (try dsimp only at hSw); go_simp; (try with_reducible rfl))
        simp only [List.set]
        refine wpAnyH_takeL (i := 4) (v := ?_) rfl (by kernel_rfl) (by kernel_rfl) (by kernel_rfl) (fun _ _ _ h => h) (Or.inl ⟨by kernel_rfl, ?_⟩) hS ?_
        rotate_left
        focus (intro w' hSw; (try dsimp only at hSw); go_simp; (try with_reducible rfl))
        simp only [List.set]
        refine wpAnyH_takeL (i := 5) (v := ?_) rfl (by kernel_rfl) (by kernel_rfl) (by kernel_rfl) (fun _ _ _ h => h) (Or.inl ⟨by kernel_rfl, ?_⟩) hS ?_
        rotate_left
        focus (intro w' hSw; (try dsimp only at hSw); go_simp; (try with_reducible rfl))
        simp only [List.set]
        refine wpAnyH_takeL (i := 6) (v := ?_) rfl (by kernel_rfl) (by kernel_rfl) (by kernel_rfl) (fun _ _ _ h => h) (Or.inl ⟨by kernel_rfl, ?_⟩) hS ?_
        rotate_left
        focus (intro w' hSw; (try dsimp only at hSw); go_simp; (try with_reducible rfl))
        simp only [List.set]
        refine wpAnyH_takeL (i := 7) (v := ?_) rfl (by kernel_rfl) (by kernel_rfl) (by kernel_rfl) (fun _ _ _ h => h) (Or.inl ⟨by kernel_rfl, ?_⟩) hS ?_
        rotate_left
        focus (intro w' hSw; (try dsimp only at hSw); go_simp; (try with_reducible rfl))
        simp only [List.set]
        refine wpAnyH_takeL (i := 8) (v := ?_) rfl (by kernel_rfl) (by kernel_rfl) (by kernel_rfl) (fun _ _ _ h => h) (Or.inl ⟨by kernel_rfl, ?_⟩) hS ?_
        rotate_left
        focus (intro w' hSw; (try dsimp only at hSw); go_simp; (try with_reducible rfl))
        simp only [List.set]
        refine wpAnyH_takeL (i := 9) (v := ?_) rfl (by kernel_rfl) (by kernel_rfl) (by kernel_rfl) (fun _ _ _ h => h) (Or.inl ⟨by kernel_rfl, ?_⟩) hS ?_
        rotate_left
        focus (intro w' hSw; (try dsimp only at hSw); go_simp; (try with_reducible rfl))
        simp only [List.set]
        refine wpAnyH_takeL (i := 10) (v := ?_) rfl (by kernel_rfl) (by kernel_rfl) (by kernel_rfl) (fun _ _ _ h => h) (Or.inl ⟨by kernel_rfl, ?_⟩) hS ?_
        rotate_left
        focus (intro w' hSw; (try dsimp only at hSw); go_simp; (try with_reducible rfl))
        simp only [List.set]
        refine wpAnyH_done (by kernel_rfl) ?_ _
        go_simp
        replace c2 : w1.drew.cell? ⟨g.gb, 2, none⟩ = some (.slice (some ⟨bn, offn, none⟩) nn g.nC) := c2
        replace m0 : w1.drew.cell? ⟨bn, offn + i * 35 + 30, none⟩ = some (.int .u64 (nd.a0 : Int)) := m0
        replace m1 : w1.drew.cell? ⟨bn, offn + i * 35 + 30 + 1, none⟩ = some (.int .u64 (nd.a1 : Int)) := m1
        replace m2 : w1.drew.cell? ⟨bn, offn + i * 35 + 30 + 2, none⟩ = some (.int .u64 (nd.a2 : Int)) := m2
        replace m3 : w1.drew.cell? ⟨bn, offn + i * 35 + 30 + 3, none⟩ = some (.int .u64 (nd.a3 : Int)) := m3
        have hsat : SetAt w1.drew (w.heap.size + 1) 0 [a0, a1, a2, a3] := fun j hj => by
          rw [hbs1.cell]
          match j, hj with
          | 0, _ => rfl
          | 1, _ => rfl
          | 2, _ => rfl
          | 3, _ => rfl
        go_wp2_with (go_at_call 72; go_loud (with_reducible refine (setwith_any _ _ _ _ [a0, a1, a2, a3] _ _ _ _ (g.ups (ids.take k)) nd.past _ hset.out hnset.out hbs1 hsat).mono ?_); rintro _ w2 ⟨rfl, hb2, hf2⟩)
        have hset2 : Hid (SetIs (orW [a0, a1, a2, a3] [nd.a0, nd.a1, nd.a2, nd.a3]) (g.ups (ids.take (k + 1)))) := by
          show SetIs _ _
          rw [hm.out]
          exact SetIs.or hset.out hnset.out
        go_roundw
        case rel => exact ⟨k + 1, a0 ||| nd.a0, a1 ||| nd.a1, a2 ||| nd.a2, a3 ||| nd.a3, by go_num, by omega, hset2, hb2, hf1.transOne hf2⟩
        case measure => simp [intOf]; omega
    · obtain rfl : n = k := by omega
      have hset' : SetIs [a0, a1, a2, a3] (g.ups ids) := by have h1 := hset.out; rwa [List.take_of_length_le (by rw [hn.out]; exact Nat.le_refl _)] at h1
      have br1 : Blk wr w.heap.size 116 #[.int .u64 0, .int .u64 0, .int .u64 0, .int .u64 0] := br.fr hf (fun e => by have e' : w.heap.size = w.heap.size + 1 := e; omega)
      have s0 : wr.cell? ⟨w.heap.size + 1, 0, none⟩ = some (.int .u64 (a0 : Int)) := hbs.cell 0
      have s1 : wr.cell? ⟨w.heap.size + 1, 1, none⟩ = some (.int .u64 (a1 : Int)) := hbs.cell 1
      have s2 : wr.cell? ⟨w.heap.size + 1, 2, none⟩ = some (.int .u64 (a2 : Int)) := hbs.cell 2
      have s3 : wr.cell? ⟨w.heap.size + 1, 3, none⟩ = some (.int .u64 (a3 : Int)) := hbs.cell 3
      have e0 : wr.cell? ⟨w.heap.size, 0, none⟩ = some (.int .u64 0) := br1.cell 0
      have e1 : wr.cell? ⟨w.heap.size, 1, none⟩ = some (.int .u64 0) := br1.cell 1
      have e2 : wr.cell? ⟨w.heap.size, 2, none⟩ = some (.int .u64 0) := br1.cell 2
      have e3 : wr.cell? ⟨w.heap.size, 3, none⟩ = some (.int .u64 0) := br1.cell 3
      have z0 : wr.frozen? ⟨w.heap.size, 0, none⟩ = false := br1.frozen 0
      have z1 : wr.frozen? ⟨w.heap.size, 1, none⟩ = false := br1.frozen 1
      have z2 : wr.frozen? ⟨w.heap.size, 2, none⟩ = false := br1.frozen 2
      have z3 : wr.frozen? ⟨w.heap.size, 3, none⟩ = false := br1.frozen 3
      have hz2 := (((br1.set 0 (.int .u64 (a0 : Int))).set 1 (.int .u64 (a1 : Int))).set 2 (.int .u64 (a2 : Int))).set 3 (.int .u64 (a3 : Int))
      have fz := (((fw.setNew (g := w.heap.size) (Nat.le_refl _) 0 (.int .u64 (a0 : Int))).setNew (g := w.heap.size) (Nat.le_refl _) 1 (.int .u64 (a1 : Int))).setNew (g := w.heap.size) (Nat.le_refl _) 2 (.int .u64 (a2 : Int))).setNew (g := w.heap.size) (Nat.le_refl _) 3 (.int .u64 (a3 : Int))
      have fin := Lib.hid (hfin.out a0 a1 a2 a3 _ hset' fz)
      clear hset' fz br1 hbs hset hf
      go_wp2_with (fail)
      (try simp only [Exit.inBlock, Exit.then])
      refine ret_blk (t := 116) rfl rfl hz2 rfl Tryz.underlying116 (by kernel_rfl) rfl ?_
      exact fin.out
end Oq
end Go.Proofs.YtafonabghnogaaaGreatDoor

namespace Go.Proofs.YtafonabghnogaaaGreatDoor
open Go.RowKit
namespace Oq
/-- A node, without where it lies. -/
structure Pn where
  o : Op
  id : Id
  ps : Nat → Bool
  lev : Nat
def NodeG.pn (n : NodeG) : Pn := ⟨n.x.op, n.id, n.past, n.lev⟩
def Gph.pns (g : Gph) : List Pn := g.nodes.map NodeG.pn
def plc (l : List Pn) (id : Id) : Option Nat := l.findIdx? (fun n => decide (n.id = id))
theorem plc_pns (l : List NodeG) (id : Id) : plc (l.map NodeG.pn) id = place l id := by
  unfold plc place
  rw [List.findIdx?_map]
  rfl
theorem plc_some {l : List Pn} {id : Id} {i : Nat} (h : plc l id = some i) : ∃ n, l[i]? = some n ∧ n.id = id := by
  obtain ⟨hi, h1, _⟩ := List.findIdx?_eq_some_iff_getElem.1 h
  exact ⟨l[i], List.getElem?_eq_getElem hi, by simpa using h1⟩
/-- Whether a place is that of one of some names. -/
def parB (l : List Pn) (ids : List Id) (q : Nat) : Bool := ids.any (fun id => plc l id == some q)
def upB (l : List Pn) (id : Id) (q : Nat) : Bool := match plc l id with | some i => (l[i]?.map (fun n => n.ps q)).getD false | none => false
/-- Whether a place is in the past of one of some names. -/
def abvB (l : List Pn) (ids : List Id) (q : Nat) : Bool := ids.any (fun id => upB l id q)
def atOf (l : List Pn) (id : Id) : Int := match plc l id with | some i => (l[i]?.map (fun n => n.o.at_)).getD 0 | none => 0
def late (l : List Pn) (ids : List Id) : Int := ids.foldl (fun t id => max t (atOf l id)) 0
def levOf (l : List Pn) (id : Id) : Nat := match plc l id with | some i => (l[i]?.map (fun n => n.lev)).getD 0 | none => 0
def lvl (l : List Pn) (ids : List Id) : Nat := ids.foldl (fun t id => max t (levOf l id + 1)) 1
def clash (l : List Pn) (ids : List Id) : Bool := (List.range 256).any (fun q => parB l ids q && abvB l ids q)
def lastTo (l : List Pn) (p : Nat → Bool) (d : Int) : Nat → Int
  | 0 => 0
  | k + 1 => match l[k]? with
    | some n => if (n.o.by_ == d && p k) = true then max (lastTo l p d k) n.o.sq else lastTo l p d k
    | none => lastTo l p d k
def aheadTo (l : List Pn) (p : Nat → Bool) (d s : Int) : Nat → Bool
  | 0 => false
  | k + 1 => match l[k]? with
    | some n => aheadTo l p d s k || (n.o.by_ == d && p k && n.o.sq == s - 1)
    | none => aheadTo l p d s k
def psOf (l : List Pn) (ids : List Id) (q : Nat) : Bool := decide (q < 256) && (abvB l ids q || parB l ids q)
def seqBad (l : List Pn) (p : Nat → Bool) (o : Op) : Bool := decide (o.sq ≤ lastTo l p o.by_ l.length) || (decide (1 < o.sq) && !aheadTo l p o.by_ o.sq l.length)
def Op.name (o : Op) : Id := ⟨o.by_, o.sq, o.id⟩
def cardOf? (cards : List Cd) (d : Int) : Option Cd := cards.find? (fun c => c.d == d)
/-- Why an operation is not taken in behind those; 0: it is. -/
def addErr (cards : List Cd) (l : List Pn) (o : Op) : Int :=
  if o.chk ≠ 0 then o.chk
  else if (plc l o.name).isSome = true then 5
  else if 200 ≤ l.length then 3
  else match cardOf? cards o.by_ with
    | none => 17
    | some c =>
      if Sg.check c.s o.bare o.r o.s = false then 12
      else if o.kind = 1 ∧ l ≠ [] then 1
      else if o.past.any (fun id => (plc l id).isNone) = true then 10
      else if clash l o.past = true ∨ o.at_ < late l o.past then 6
      else if seqBad l (psOf l o.past) o = true then 11
      else 0
def addPn (l : List Pn) (o : Op) : Pn := ⟨o, o.name, psOf l o.past, lvl l o.past⟩

theorem take_snoc' {α : Type} {l : List α} {k : Nat} {x : α} (h : l[k]? = some x) : l.take (k + 1) = l.take k ++ [x] := by
  obtain ⟨hk, rfl⟩ := List.getElem?_eq_some_iff.1 h
  rw [List.take_succ_eq_append_getElem hk]
theorem parB_snoc (l : List Pn) (ids : List Id) (k : Nat) {id : Id} (h : ids[k]? = some id) : parB l (ids.take (k + 1)) = fun q => (plc l id == some q) || parB l (ids.take k) q := by
  funext q
  unfold parB
  rw [take_snoc' h, List.any_append]
  simp [Bool.or_comm]
theorem abvB_snoc (l : List Pn) (ids : List Id) (k : Nat) {id : Id} (h : ids[k]? = some id) : abvB l (ids.take (k + 1)) = fun q => abvB l (ids.take k) q || upB l id q := by
  funext q
  unfold abvB
  rw [take_snoc' h, List.any_append]
  simp
theorem late_snoc (l : List Pn) (ids : List Id) (k : Nat) {id : Id} (h : ids[k]? = some id) : late l (ids.take (k + 1)) = max (late l (ids.take k)) (atOf l id) := by
  unfold late
  rw [take_snoc' h, List.foldl_append]
  rfl
theorem lvl_snoc (l : List Pn) (ids : List Id) (k : Nat) {id : Id} (h : ids[k]? = some id) : lvl l (ids.take (k + 1)) = max (lvl l (ids.take k)) (levOf l id + 1) := by
  unfold lvl
  rw [take_snoc' h, List.foldl_append]
  rfl
theorem lvl_le (l : List Pn) (m : Nat) (h : ∀ n ∈ l, n.lev ≤ m) (ids : List Id) : lvl l ids ≤ m + 1 := by
  have hat : ∀ id, levOf l id ≤ m := by
    intro id
    unfold levOf
    split
    · rename_i i hi
      obtain ⟨n, hn, _⟩ := plc_some hi
      rw [hn]
      exact h n (List.mem_of_getElem? hn)
    · omega
  unfold lvl
  suffices H : ∀ (t : Nat), t ≤ m + 1 → ids.foldl (fun t id => max t (levOf l id + 1)) t ≤ m + 1 from H 1 (by omega)
  intro t
  induction ids generalizing t with
  | nil => intro h; exact h
  | cons id r ih => intro h; exact ih _ (by have := hat id; dsimp only; omega)
/-- No place from 256 on is one of four words. -/
theorem ws_far (ws : List Nat) (h : ws.length = 4) (k : Nat) (hk : 256 ≤ k) : ((ws.getD (k / 64) 0).testBit (k % 64)) = false := by
  rw [List.getD_eq_getElem?_getD, List.getElem?_eq_none (by omega)]
  simp
/-- Words that have what a function says, but for the places from 256 on. -/
theorem past_of_set {n : NodeG} {m : Nat → Bool} (h : SetIs n.ws m) : n.past = fun q => decide (q < 256) && m q := by
  funext q
  unfold NodeG.past
  by_cases hq : q < 256
  · rw [← h.bit q hq]
    simp [hq]
  · rw [ws_far n.ws rfl q (by omega)]
    simp [hq]
/-- Whether four words are all zero. -/
theorem set_zero {a0 a1 a2 a3 : Nat} {m : Nat → Bool} (h : SetIs [a0, a1, a2, a3] m) : (a0 == 0 && a1 == 0 && a2 == 0 && a3 == 0) = !(List.range 256).any m := by
  rw [Bool.eq_iff_iff]
  simp only [Bool.and_eq_true, beq_iff_eq, Bool.not_eq_true', List.any_eq_false, List.mem_range]
  constructor
  · rintro ⟨⟨⟨rfl, rfl⟩, rfl⟩, rfl⟩ q hq
    rw [h.bit q hq]
    have hq4 : q / 64 = 0 ∨ q / 64 = 1 ∨ q / 64 = 2 ∨ q / 64 = 3 := by omega
    rcases hq4 with e | e | e | e <;> rw [e] <;> simp
  · intro hz
    have key : ∀ k, k < 4 → [a0, a1, a2, a3].getD k 0 = 0 := by
      intro k hk
      refine Nat.eq_of_testBit_eq (fun j => ?_)
      rw [Nat.zero_testBit]
      by_cases hj : j < 64
      · have h1 := h.bit (64 * k + j) (by omega)
        have h2 := hz (64 * k + j) (by omega)
        rw [show (64 * k + j) / 64 = k by omega, show (64 * k + j) % 64 = j by omega] at h1
        rw [← h1]
        simpa using h2
      · have hu := h.u64 k
        exact Nat.testBit_lt_two_pow (Nat.lt_of_lt_of_le hu (by
          have : (2 : Nat) ^ 64 ≤ 2 ^ j := Nat.pow_le_pow_right (by decide) (by omega)
          exact Nat.le_trans (by decide) this))
    exact ⟨⟨⟨key 0 (by omega), key 1 (by omega)⟩, key 2 (by omega)⟩, key 3 (by omega)⟩
end Oq
end Go.Proofs.YtafonabghnogaaaGreatDoor
