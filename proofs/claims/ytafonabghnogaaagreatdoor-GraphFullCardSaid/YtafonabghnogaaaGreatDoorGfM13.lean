/-
  (*Graph).Add, the loop over all operations: the last number of the device in its past, and whether the one ahead is there.
    Conditions: none (the end of the text ahead).
  Signed operations, and a chain of them, one behind the other: what a graph says of each.
    Plain Lean; no program in sight; no condition.
  huddlelaw12.erase: an operation that erases, signed.
    Conditions: the device lies from 1 to 12; the names read; numbers as the document has them.
  An own row of things of some cells under the kit's words for a sort: HoldsK, sortWorldK, for whatever encoding.
    Plain theorems; no condition.
  Cards: a copy of a graph's cards.
    Conditions: the graph lies as GrState says.
  slices.SortFunc at cards, as graph.New calls it: by the kit's contract, laid at this program, at cards whose device lies from 0 to 1000.
    Conditions: as each theorem says.
  graph.New: a graph without operations.
    Conditions: the cards read; their devices rise, from 0 to 1000; something lies in memory already.
  What the laws of a graph share: New of the references' cards, an Add that takes, what an Add leaves alone.
    Conditions: as each theorem says.
  A chain of 201 operations of one device, each behind the last one: what a graph says of each.
    Plain Lean; no program in sight; no condition.
  huddlelaw12.GraphFull: there is room for 200 operations, and no more.
    Conditions: op.kinds lies as its text lays it; the document's example is taken (a premise here).
-/
import Derived.Great.BuildSlice
import Derived.Shelf.SlGeneric
import Derived.Test.YtafonabghnogaaaGreatDoorGfM4
import Derived.Test.YtafonabghnogaaaGreatDoorGfM7
import Derived.Test.YtafonabghnogaaaGreatDoorGfM12
namespace Go.Proofs.YtafonabghnogaaaGreatDoor
open Go.RowKit
attribute [local go_sem ↓] Go.wp_at_zero Go.wp_at_succ
namespace Oq
attribute [local go_sem] Bool.not_false Bool.not_true
theorem lastTo_succ {l : List Pn} {p : Nat → Bool} {d : Int} {k : Nat} {n : Pn} (h : l[k]? = some n) : lastTo l p d (k + 1) = if (n.o.by_ == d && p k) = true then max (lastTo l p d k) n.o.sq else lastTo l p d k := by
  show (match l[k]? with | some n => if (n.o.by_ == d && p k) = true then max (lastTo l p d k) n.o.sq else lastTo l p d k | none => lastTo l p d k) = _
  rw [h]
theorem aheadTo_succ {l : List Pn} {p : Nat → Bool} {d s : Int} {k : Nat} {n : Pn} (h : l[k]? = some n) : aheadTo l p d s (k + 1) = (aheadTo l p d s k || (n.o.by_ == d && p k && n.o.sq == s - 1)) := by
  show (match l[k]? with | some n => aheadTo l p d s k || (n.o.by_ == d && p k && n.o.sq == s - 1) | none => aheadTo l p d s k) = _
  rw [h]
theorem sq_of_chk {o : Op} (h : o.chk = 0) : 1 ≤ o.sq ∧ o.sq ≤ 2147483647 := by
  have h1 := (chk_ok.1 h).2.2.1
  unfold Op.numsB at h1
  simp only [Bool.and_eq_true] at h1
  have h2 := h1.1.1.2
  unfold inR at h2
  simpa using h2
/-- A slice built of parts, as a word that the walk does not open. -/
def bsS (t : TypeId) (len : Nat) (parts : Array (Nat × Value)) := Instr.buildSlice t len parts
theorem buildSlice_node (n : Nat) (p : Array (Nat × Value)) : Instr.buildSlice 121 n p = bsS 121 n p := rfl
theorem run_bsS (N : NodeG) (w : World) : (bsS 121 1 #[(0, .agg N.cells.toArray)]).run Tryz.prog w = .ok (.slice (some ⟨w.heap.size, 0, none⟩) 1 1) (w.alloc (.cells N.cells.toArray 118)) := by
  obtain ⟨ht, hinfo, _⟩ := slNode
  obtain ⟨i, hi, hz, hs, _⟩ := info_parts hinfo
  exact run_buildSlice w 121 118 1 _ _ i _ ht hi hz (by rw [hs]; decide) (by rw [hs]; decide) (by rw [hs]; kernel_rfl)
theorem oper_app {P : Program} {o : Oper} {a : Act} {K : Act → World → Prop} {Q : Exit → Act → World → Prop} {w : World} (s x : Operand) (t : TypeId)
    (ho : o.op = .call { callee := .builtin .append, args := #[s, x], argTypes := #[t, t] })
    {base size n c : Nat} {e : TypeId} {A : Option Addr} {xs : List Value} {z : Value} {bytes m cx B : Nat} {Ax : Option Addr} {news : List Value}
    (hs : a.eval s = .slice A n c) (hx : a.eval x = .slice Ax m cx)
    (hT : SlT P t e z size bytes) (h : Own w base e size A n c xs) (hr : Rd w B size Ax m news)
    (h1 : ∀ u ∈ news, u.oneCell' = true) (hbytes : (n + m) * bytes ≤ 140737488355328) (hmax : n + m ≤ 9223372036854775807) (hbase : base ≤ w.heap.size)
    (hk : ∀ A' c' w', Own w' base e size A' (n + m) c' (xs ++ news) → Fr (fun k => rowOf A = some k) w w' → (rowOf A' = rowOf A ∨ rowOf A' = some w.heap.size) →
      K (a.put o.dst (.slice A' (n + m) c')) w') : Oper.wp P o a w K Q := by
  obtain ⟨A', c', w', hrun, h2, h3, h4⟩ := run_app (P := P) (ty := o.type) (cx := cx) hT h hr h1 hbytes hmax hbase
  unfold Oper.wp execOp
  simp only [ho, resolve, invoke, builtin, Sem.run_bind, Sem.run_pure, Result.andThen_ok, List.map_toArray, List.map_cons, List.map_nil, hs, hx, hrun]
  exact hk A' c' w' h2 h3 h4
attribute [local go_sem ↓] loadAt_node storeAt_node buildSlice_node
set_option maxRecDepth 100000 in
set_option maxHeartbeats 8000000 in
theorem add_last : addD.1 := by
  conv => whnf
  intro r5 r7 r8 r9 r10 r14 r19 r20 r21 r22 r23 r24 r25 r26 r27 r28 r29 r30 r31 r32 r33 r34 r35 r36 r37 r38 r39 r40 r41 r42 r43 r44 r45 r46 r47 r48 r49 r50 r51 r52 r53 r54 r55 r56 r57 r58 r59 r60 r61 r62 r63 r64 r65 r66 r67 r68 r69 r70 r71 r72 r152 r153 r154 r155 r156 r157 r158 r159 r160 r161 r162 r163 r164 r165 r166 r167 r168 r169 r170 r171 r172 r173 r174 r175 r176 r177 r178 r179 r180 r181 r182 r183 r184 r185 r186 r187 r188 r189 r190 r191 r192 r193 r194 r195 r196 r197 r198 r199 r200 r201 r202 r203 r204 r205 r206 r207 r208 r209 r210 r211 r212 r213 r214 r215 r216 r217 r218 r219 r220 r221 r222 r223 r224 r225 r226 r227 r228 r229 r230 r231 r232 r233 r15 r16 r84 r85 r86 r87 r88 r89 r90 r91 r92 r93 r94 r95 r96 r97 r98 r99 r100 r101 r102 r103 r104 r105 r106 r107 r108 r109 r110 r111 r112 r113 r114 r115 r116 r117 r118 r119 r120 r121 r122 r123 r124 r125 r18 r128 r129 r130 r131 r132 r133 r134 r135 r136 r137 r138 r139 r140 r141 r142 r143 r144 r145 r146 base g x w y gs m w6 A6 c6 n w7 pb wv a0 a1 a2 a3 lv lt p0 p1 p2 p3 bb w1 wq b0 b1 b2 b3 cl w3 w4 K n0 n1 n2 n3 hK D
  have hg := D.A.hg
  have hsq := sq_of_chk D.A.chk
  replace hsq : 1 ≤ x.sq ∧ x.sq ≤ 2147483647 := hsq
  have hfew := D.A.few
  have hD := Lib.hid D
  have hPs : Hid (∀ i, i < 256 → psOf g.pns x.op.past i = (abvB g.pns x.op.past i || parB g.pns x.op.past i)) := fun i hi => by
    unfold psOf
    simp [hi]
  have hpl : Hid (g.pns.length = g.nodes.length) := by show _ = _; unfold Gph.pns; rw [List.length_map]
  obtain ⟨CX, hCX⟩ := hid_ex x.cells
  have e0 : Hid (CX[0]? = some (.int .i64 x.by_)) := by show _ = _; rw [← hCX.out]; rfl
  have e1 : Hid (CX[1]? = some (.int .i64 x.sq)) := by show _ = _; rw [← hCX.out]; rfl
  have hx : Hid (∀ wz, Fr Non w4 wz → wz.cell? ⟨w.heap.size, 0, none⟩ = some (.int .i64 x.by_) ∧ wz.cell? ⟨w.heap.size, 1, none⟩ = some (.int .i64 x.sq)) := fun wz hf => by
    have h := D.bx.fr hf (fun e => e)
    have h0 := h.cell 0
    have h1 := h.cell 1
    rw [hCX.out] at h0 h1
    rw [e0.out] at h0
    rw [e1.out] at h1
    exact ⟨h0, h1⟩
  have hgb : Hid (∀ wz, Fr Non w4 wz → wz.cell? ⟨g.gb, 2, none⟩ = some (.slice g.nA g.nodes.length g.nC)) := fun wz hf => ((hg.fr D.fr).fr hf).blk.cell 2
  rw [hCX.out]
  obtain ⟨nn, hnn⟩ := hid_ex g.nodes.length
  rw [hnn.out] at hgb hfew hpl
  have c2 := hgb.out w4 (Fr.refl _ _)
  clear D
  go_wp2_with (fail)
  clear c2
  go_loopw [19, 20, 158] (fun tl ta v wr => ∃ (i : Nat) (la : Int) (ah : Bool), tl = .int .i64 la ∧ ta = .bool ah ∧ v = .int .i64 (i : Int) ∧ i ≤ nn ∧ Hid (la = lastTo g.pns (psOf g.pns x.op.past) x.by_ i) ∧ Hid (ah = aheadTo g.pns (psOf g.pns x.op.past) x.by_ x.sq i) ∧ Fr Non w4 wr) (fun _ _ v _ => nn - (intOf v).toNat)
  case atStart => exact ⟨0, 0, false, rfl, rfl, rfl, by omega, rfl, rfl, Fr.refl _ _⟩
  case round =>
    obtain ⟨i, la, ah, rfl, rfl, rfl, hi, hla, hah, hf⟩ := hrel
    by_cases hin : i < nn
    · as_aux_lemma =>
      have i1 : (0 : Int) ≤ i := by omega
      have i2 : (i : Int) < nn := by omega
      have i3 : (i : Int).toNat = i := by omega
      have i4 : IntKind.i64.wrap (i : Int) = i := IntWalk.i64_in _ (by omega)
      obtain ⟨nd, hnd⟩ : ∃ z, g.nodes[i]? = some z := ⟨_, List.getElem?_eq_getElem (by rw [hnn.out]; exact hin)⟩
      have hpn : g.pns[i]? = some nd.pn := by unfold Gph.pns; rw [List.getElem?_map, hnd]; rfl
      obtain ⟨bn, offn, hAn, hbnl, hcell⟩ := hg.cell hnd
      have hl1 := Lib.hid (lastTo_succ (p := psOf g.pns x.op.past) (d := x.by_) hpn)
      have ha1 := Lib.hid (aheadTo_succ (p := psOf g.pns x.op.past) (d := x.by_) (s := x.sq) hpn)
      have hnf : Hid (∀ wz, Fr Non w4 wz → wz.cell? ⟨bn, offn + i * 35, none⟩ = some (.int .i64 nd.x.by_) ∧ wz.cell? ⟨bn, offn + i * 35 + 1, none⟩ = some (.int .i64 nd.x.sq)) := fun wz hf => by
        have f1 := hD.out.fr.trans hf (fun _ _ e => e)
        exact ⟨f1.cell (hcell 0 (by omega) _ rfl) (fun e => e), f1.cell (hcell 1 (by omega) _ rfl) (fun e => e)⟩
      have kh := Lib.hid (fun wz (hz : Fr Non w4 wz) => sethas_any gs 30 [n0, n1, n2, n3] _ i wz hD.out.set (fun j hj => by
        rw [(hD.out.bn.fr hz (fun e => e)).cell]
        match j, hj with
        | 0, _ => rfl
        | 1, _ => rfl
        | 2, _ => rfl
        | 3, _ => rfl) (by omega))
      obtain ⟨mi, hmi⟩ := hid_ex (abvB g.pns x.op.past i || parB g.pns x.op.past i)
      have hpi : Hid (psOf g.pns x.op.past i = mi) := (hPs.out i (by omega)).trans hmi.out
      rw [hmi.out] at kh
      have c2 := hgb.out wr hf
      rw [hAn] at c2
      obtain ⟨b0', s0'⟩ := hnf.out wr hf
      obtain ⟨x0, x1⟩ := hx.out wr hf
      have hwrap : IntKind.i64.wrap (x.sq - 1) = x.sq - 1 := IntWalk.i64_in _ (by omega)
      rw [hpi.out] at hl1 ha1
      replace hl1 : Hid (lastTo g.pns (psOf g.pns x.op.past) x.by_ (i + 1) = if (nd.x.by_ == x.by_ && mi) = true then max (lastTo g.pns (psOf g.pns x.op.past) x.by_ i) nd.x.sq else lastTo g.pns (psOf g.pns x.op.past) x.by_ i) := hl1
      replace ha1 : Hid (aheadTo g.pns (psOf g.pns x.op.past) x.by_ x.sq (i + 1) = (aheadTo g.pns (psOf g.pns x.op.past) x.by_ x.sq i || (nd.x.by_ == x.by_ && mi && nd.x.sq == x.sq - 1))) := ha1
      clear hpn hnd hcell hAn hPs hmi hpi hgb hg hD
      rcases Bool.eq_false_or_eq_true (nd.x.by_ == x.by_) with hq | hq
      · rw [hq] at hl1 ha1
        go_upto_region 46 with (fail)
        clear c2
        refine wp_region_held_drew (S := (fun w' => w'.cell? ⟨bn, offn + i * 35, none⟩ = some (.int .i64 nd.x.by_) ∧ w'.cell? ⟨w.heap.size, 0, none⟩ = some (.int .i64 x.by_))) (by kernel_rfl) ⟨b0', x0⟩ (fun hHeld => ?_)
        clear hHeld
        have hS : (fun w' => w'.cell? ⟨bn, offn + i * 35, none⟩ = some (.int .i64 nd.x.by_) ∧ w'.cell? ⟨w.heap.size, 0, none⟩ = some (.int .i64 x.by_)) wr.drew := ⟨b0', x0⟩
        replace hf := hf.drew
        refine wpAnyH_takeL (i := 0) (v := ?_) rfl (by kernel_rfl) (by kernel_rfl) (by kernel_rfl) (fun _ _ _ h => h) (Or.inl ⟨by kernel_rfl, ?_⟩) hS ?_
        rotate_left
        focus (intro w' hSw; (try dsimp only at hSw); go_simp; (try with_reducible rfl))
        simp only [List.set]
        refine wpAnyH_takeL (i := 1) (v := ?_) rfl (by kernel_rfl) (by kernel_rfl) (by kernel_rfl) (fun _ _ _ h => h) (Or.inl ⟨by kernel_rfl, ?_⟩) hS ?_
        rotate_left
        focus (intro w' hSw; (try dsimp only at hSw); go_simp; (try with_reducible rfl))
        simp only [List.set]
        refine wpAnyH_takeL (i := 2) (v := ?_) rfl (by kernel_rfl) (by kernel_rfl) (by kernel_rfl) (fun _ _ _ h => h) (Or.inl ⟨by kernel_rfl, ?_⟩) hS ?_
        rotate_left
        focus (intro w' hSw; (try dsimp only at hSw); go_simp; (try with_reducible rfl))
        simp only [List.set]
        refine wpAnyH_takeL (i := 3) (v := ?_) rfl (by kernel_rfl) (by kernel_rfl) (by kernel_rfl) (fun _ _ _ h => h) (Or.inl ⟨by kernel_rfl, ?_⟩) hS ?_
        rotate_left
        focus (intro w' hSw; (try dsimp only at hSw); go_simp; (try with_reducible rfl))
        simp only [List.set]
        refine wpAnyH_takeL (i := 4) (v := ?_) rfl (by kernel_rfl) (by kernel_rfl) (by kernel_rfl) (fun _ _ _ h => h) (Or.inl ⟨by kernel_rfl, ?_⟩) hS ?_
        rotate_left
        focus (intro w' hSw; (try dsimp only at hSw); go_simp; (try with_reducible rfl))
        simp only [List.set]
        refine wpAnyH_takeL (i := 5) (v := ?_) rfl (by kernel_rfl) (by kernel_rfl) (by kernel_rfl) (fun _ _ _ h => h) (Or.inl ⟨by kernel_rfl, ?_⟩) hS ?_
        rotate_left
        focus (intro w' hSw; (try dsimp only at hSw); go_simp; (try with_reducible rfl))
        simp only [List.set]
        refine wpAnyH_takeL (i := 6) (v := ?_) rfl (by kernel_rfl) (by kernel_rfl) (by kernel_rfl) (fun _ _ _ h => h) (Or.inl ⟨by kernel_rfl, ?_⟩) hS ?_
        rotate_left
        focus (intro w' hSw; (try dsimp only at hSw); go_simp; (try with_reducible rfl))
        simp only [List.set]
        refine wpAnyH_takeL (i := 7) (v := ?_) rfl (by kernel_rfl) (by kernel_rfl) (by kernel_rfl) (fun _ _ _ h => h) (Or.inl ⟨by kernel_rfl, ?_⟩) hS ?_
        rotate_left
        focus (intro w' hSw; (try dsimp only at hSw); go_simp; (try with_reducible rfl))
        simp only [List.set]
        refine wpAnyH_takeL (i := 8) (v := ?_) rfl (by kernel_rfl) (by kernel_rfl) (by kernel_rfl) (fun _ _ _ h => h) (Or.inl ⟨by kernel_rfl, ?_⟩) hS ?_
        rotate_left
        focus (intro w' hSw; (try dsimp only at hSw); go_simp; (try with_reducible rfl))
        simp only [List.set]
        refine wpAnyH_takeL (i := 9) (v := ?_) rfl (by kernel_rfl) (by kernel_rfl) (by kernel_rfl) (fun _ _ _ h => h) (Or.inl ⟨by kernel_rfl, ?_⟩) hS ?_
        rotate_left
        focus (intro w' hSw; (try dsimp only at hSw); go_simp; (try with_reducible rfl))
        simp only [List.set]
        refine wpAnyH_takeL (i := 10) (v := ?_) rfl (by kernel_rfl) (by kernel_rfl) (by kernel_rfl) (fun _ _ _ h => h) (Or.inl ⟨by kernel_rfl, ?_⟩) hS ?_
        rotate_left
        focus (intro w' hSw; (try dsimp only at hSw); go_simp; (try with_reducible rfl))
        simp only [List.set]
        refine wpAnyH_onlyG 11 (by kernel_rfl) rfl (by kernel_rfl) (fun K hK => ?_)
        go_simp
        go_wp2_with (go_at_call 73; (with_reducible refine (kh.out _ hf).mono ?_); rintro _ _ ⟨rfl, rfl⟩)
        refine hK.out _ _ hS (fun hZ => ?_)
        clear hZ hK K kh
        try simp only [put_lit', List.set]
        refine wpAnyH_takeL (i := 12) (v := ?_) rfl (by kernel_rfl) (by kernel_rfl) (by kernel_rfl) (fun _ _ _ h => h) (Or.inl ⟨by kernel_rfl, ?_⟩) hS ?_
        rotate_left
        focus (intro w' hSw; (try dsimp only at hSw); go_simp; (try with_reducible rfl))
        simp only [List.set]
        refine wpAnyH_done (by kernel_rfl) ?_ _
        go_simp
        obtain ⟨b0', s0'⟩ := hnf.out wr.drew hf
        obtain ⟨x0, x1⟩ := hx.out wr.drew hf
        clear hS hnf b0' x0
        cases mi
        · have hl2 : Hid (la = lastTo g.pns (psOf g.pns x.op.past) x.by_ (i + 1)) := by show _ = _; rw [hl1.out, ← hla.out]; rfl
          have ha2 : Hid (ah = aheadTo g.pns (psOf g.pns x.op.past) x.by_ x.sq (i + 1)) := by show _ = _; rw [ha1.out, ← hah.out]; simp
          clear hl1 ha1 hla hah s0' x1
          go_wp2_with (fail)
          go_roundw
          case rel => exact ⟨i + 1, la, ah, rfl, rfl, by go_num, by omega, hl2, ha2, hf⟩
          case measure => simp [intOf]; omega
        · have hl2 : Hid (max la nd.x.sq = lastTo g.pns (psOf g.pns x.op.past) x.by_ (i + 1)) := by show _ = _; rw [hl1.out, ← hla.out]; rfl
          have ha2 : Hid ((ah || nd.x.sq == x.sq - 1) = aheadTo g.pns (psOf g.pns x.op.past) x.by_ x.sq (i + 1)) := by show _ = _; rw [ha1.out, ← hah.out]; simp
          clear hl1 ha1 hla hah
          go_upto_region 48 with (fail)
          generalize wr.drew = w5 at *
          cases ah
          case false =>
            refine wp_region_held_drew (S := (fun w' => w'.cell? ⟨bn, offn + i * 35 + 1, none⟩ = some (.int .i64 nd.x.sq) ∧ w'.cell? ⟨w.heap.size, 1, none⟩ = some (.int .i64 x.sq))) (by kernel_rfl) ⟨s0', x1⟩ (fun hHeld => ?_)
            clear hHeld
            have hS : (fun w' => w'.cell? ⟨bn, offn + i * 35 + 1, none⟩ = some (.int .i64 nd.x.sq) ∧ w'.cell? ⟨w.heap.size, 1, none⟩ = some (.int .i64 x.sq)) w5.drew := ⟨s0', x1⟩
            replace hf := hf.drew
            refine wpAnyH_takeL (i := 0) (v := ?_) rfl (by kernel_rfl) (by kernel_rfl) (by kernel_rfl) (fun _ _ _ h => h) (Or.inl ⟨by kernel_rfl, ?_⟩) hS ?_
            rotate_left
            focus (intro w' hSw; (try dsimp only at hSw); go_simp; (try with_reducible rfl))
            simp only [List.set]
            refine wpAnyH_takeL (i := 1) (v := ?_) rfl (by kernel_rfl) (by kernel_rfl) (by kernel_rfl) (fun _ _ _ h => h) (Or.inl ⟨by kernel_rfl, ?_⟩) hS ?_
            rotate_left
            focus (intro w' hSw; (try dsimp only at hSw); go_simp; (try with_reducible rfl))
            simp only [List.set]
            refine wpAnyH_takeL (i := 2) (v := ?_) rfl (by kernel_rfl) (by kernel_rfl) (by kernel_rfl) (fun _ _ _ h => h) (Or.inl ⟨by kernel_rfl, ?_⟩) hS ?_
            rotate_left
            focus (intro w' hSw; (try dsimp only at hSw); go_simp; (try with_reducible rfl))
            simp only [List.set]
            refine wpAnyH_takeL (i := 3) (v := ?_) rfl (by kernel_rfl) (by kernel_rfl) (by kernel_rfl) (fun _ _ _ h => h) (Or.inl ⟨by kernel_rfl, ?_⟩) hS ?_
            rotate_left
            focus (intro w' hSw; (try dsimp only at hSw); go_simp; (try with_reducible rfl))
            simp only [List.set]
            refine wpAnyH_takeL (i := 4) (v := ?_) rfl (by kernel_rfl) (by kernel_rfl) (by kernel_rfl) (fun _ _ _ h => h) (Or.inl ⟨by kernel_rfl, ?_⟩) hS ?_
            rotate_left
            focus (intro w' hSw; (try dsimp only at hSw); go_simp; (try with_reducible rfl))
            simp only [List.set]
            refine wpAnyH_takeL (i := 5) (v := ?_) rfl (by kernel_rfl) (by kernel_rfl) (by kernel_rfl) (fun _ _ _ h => h) (Or.inl ⟨by kernel_rfl, ?_⟩) hS ?_
            rotate_left
            focus (intro w' hSw; (try dsimp only at hSw); go_simp; (try with_reducible rfl))
            simp only [List.set]
            refine wpAnyH_takeL (i := 6) (v := ?_) rfl (by kernel_rfl) (by kernel_rfl) (by kernel_rfl) (fun _ _ _ h => h) (Or.inl ⟨by kernel_rfl, ?_⟩) hS ?_
            rotate_left
            focus (intro w' hSw; (try dsimp only at hSw); go_simp; (try with_reducible rfl))
            simp only [List.set]
            refine wpAnyH_takeL (i := 7) (v := ?_) rfl (by kernel_rfl) (by kernel_rfl) (by kernel_rfl) (fun _ _ _ h => h) (Or.inl ⟨by kernel_rfl, ?_⟩) hS ?_
            rotate_left
            focus (intro w' hSw; (try dsimp only at hSw); go_simp; (try with_reducible rfl))
            simp only [List.set]
            refine wpAnyH_takeL (i := 8) (v := ?_) rfl (by kernel_rfl) (by kernel_rfl) (by kernel_rfl) (fun _ _ _ h => h) (Or.inl ⟨by kernel_rfl, ?_⟩) hS ?_
            rotate_left
            focus (intro w' hSw; (try dsimp only at hSw); go_simp; (try with_reducible rfl))
            simp only [List.set]
            refine wpAnyH_takeL (i := 9) (v := ?_) rfl (by kernel_rfl) (by kernel_rfl) (by kernel_rfl) (fun _ _ _ h => h) (Or.inl ⟨by kernel_rfl, ?_⟩) hS ?_
            rotate_left
            focus (intro w' hSw; (try dsimp only at hSw); go_simp; (try with_reducible rfl))
            simp only [List.set]
            refine wpAnyH_takeL (i := 10) (v := ?_) rfl (by kernel_rfl) (by kernel_rfl) (by kernel_rfl) (fun _ _ _ h => h) (Or.inl ⟨by kernel_rfl, ?_⟩) hS ?_
            rotate_left
            focus (intro w' hSw; (try dsimp only at hSw); go_simp; (try with_reducible rfl))
            simp only [List.set]
            refine wpAnyH_takeL (i := 11) (v := ?_) rfl (by kernel_rfl) (by kernel_rfl) (by kernel_rfl) (fun _ _ _ h => h) (Or.inl ⟨by kernel_rfl, ?_⟩) hS ?_
            rotate_left
            focus (intro w' hSw; (try dsimp only at hSw); go_simp; (try with_reducible rfl))
            simp only [List.set]
            refine wpAnyH_takeL (i := 12) (v := ?_) rfl (by kernel_rfl) (by kernel_rfl) (by kernel_rfl) (fun _ _ _ h => h) (Or.inl ⟨by kernel_rfl, ?_⟩) hS ?_
            rotate_left
            focus (intro w' hSw; (try dsimp only at hSw); go_simp; (try with_reducible rfl))
            simp only [List.set]
            refine wpAnyH_done (by kernel_rfl) ?_ _
            go_simp
            go_wp2_with (fail)
            go_roundw
            case rel => exact ⟨i + 1, max la nd.x.sq, _, rfl, rfl, by go_num, by omega, hl2, ha2, hf⟩
            case measure => simp [intOf]; omega
          case true =>
            refine wp_region_held_drew (S := (fun w' => w'.cell? ⟨bn, offn + i * 35 + 1, none⟩ = some (.int .i64 nd.x.sq) ∧ w'.cell? ⟨w.heap.size, 1, none⟩ = some (.int .i64 x.sq))) (by kernel_rfl) ⟨s0', x1⟩ (fun hHeld => ?_)
            clear hHeld
            have hS : (fun w' => w'.cell? ⟨bn, offn + i * 35 + 1, none⟩ = some (.int .i64 nd.x.sq) ∧ w'.cell? ⟨w.heap.size, 1, none⟩ = some (.int .i64 x.sq)) w5.drew := ⟨s0', x1⟩
            replace hf := hf.drew
            refine wpAnyH_takeL (i := 0) (v := ?_) rfl (by kernel_rfl) (by kernel_rfl) (by kernel_rfl) (fun _ _ _ h => h) (Or.inl ⟨by kernel_rfl, ?_⟩) hS ?_
            rotate_left
            focus (intro w' hSw; (try dsimp only at hSw); go_simp; (try with_reducible rfl))
            simp only [List.set]
            refine wpAnyH_takeL (i := 1) (v := ?_) rfl (by kernel_rfl) (by kernel_rfl) (by kernel_rfl) (fun _ _ _ h => h) (Or.inl ⟨by kernel_rfl, ?_⟩) hS ?_
            rotate_left
            focus (intro w' hSw; (try dsimp only at hSw); go_simp; (try with_reducible rfl))
            simp only [List.set]
            refine wpAnyH_skipL (i := 2) rfl (by kernel_rfl) (by kernel_rfl) (by kernel_rfl) (fun _ _ _ h => h) (by kernel_rfl) hS ?_
            simp only [List.set]
            refine wpAnyH_skipL (i := 3) rfl (by kernel_rfl) (by kernel_rfl) (by kernel_rfl) (fun _ _ _ h => h) (by kernel_rfl) hS ?_
            simp only [List.set]
            refine wpAnyH_skipL (i := 4) rfl (by kernel_rfl) (by kernel_rfl) (by kernel_rfl) (fun _ _ _ h => h) (by kernel_rfl) hS ?_
            simp only [List.set]
            refine wpAnyH_skipL (i := 5) rfl (by kernel_rfl) (by kernel_rfl) (by kernel_rfl) (fun _ _ _ h => h) (by kernel_rfl) hS ?_
            simp only [List.set]
            refine wpAnyH_skipL (i := 6) rfl (by kernel_rfl) (by kernel_rfl) (by kernel_rfl) (fun _ _ _ h => h) (by kernel_rfl) hS ?_
            simp only [List.set]
            refine wpAnyH_skipL (i := 7) rfl (by kernel_rfl) (by kernel_rfl) (by kernel_rfl) (fun _ _ _ h => h) (by kernel_rfl) hS ?_
            simp only [List.set]
            refine wpAnyH_skipL (i := 8) rfl (by kernel_rfl) (by kernel_rfl) (by kernel_rfl) (fun _ _ _ h => h) (by kernel_rfl) hS ?_
            simp only [List.set]
            refine wpAnyH_skipL (i := 9) rfl (by kernel_rfl) (by kernel_rfl) (by kernel_rfl) (fun _ _ _ h => h) (by kernel_rfl) hS ?_
            simp only [List.set]
            refine wpAnyH_skipL (i := 10) rfl (by kernel_rfl) (by kernel_rfl) (by kernel_rfl) (fun _ _ _ h => h) (by kernel_rfl) hS ?_
            simp only [List.set]
            refine wpAnyH_takeL (i := 11) (v := ?_) rfl (by kernel_rfl) (by kernel_rfl) (by kernel_rfl) (fun _ _ _ h => h) (Or.inl ⟨by kernel_rfl, ?_⟩) hS ?_
            rotate_left
            focus (intro w' hSw; (try dsimp only at hSw); go_simp; (try with_reducible rfl))
            simp only [List.set]
            refine wpAnyH_takeL (i := 12) (v := ?_) rfl (by kernel_rfl) (by kernel_rfl) (by kernel_rfl) (fun _ _ _ h => h) (Or.inl ⟨by kernel_rfl, ?_⟩) hS ?_
            rotate_left
            focus (intro w' hSw; (try dsimp only at hSw); go_simp; (try with_reducible rfl))
            simp only [List.set]
            refine wpAnyH_done (by kernel_rfl) ?_ _
            go_simp
            go_wp2_with (fail)
            go_roundw
            case rel => exact ⟨i + 1, max la nd.x.sq, _, rfl, rfl, by go_num, by omega, hl2, ha2, hf⟩
            case measure => simp [intOf]; omega
      · rw [hq] at hl1 ha1
        have hl2 : Hid (la = lastTo g.pns (psOf g.pns x.op.past) x.by_ (i + 1)) := by show _ = _; rw [hl1.out, ← hla.out]; rfl
        have ha2 : Hid (ah = aheadTo g.pns (psOf g.pns x.op.past) x.by_ x.sq (i + 1)) := by show _ = _; rw [ha1.out, ← hah.out]; simp
        clear hl1 ha1 hla hah
        go_upto_region 46 with (fail)
        clear c2
        refine wp_region_held_drew (S := (fun w' => w'.cell? ⟨bn, offn + i * 35, none⟩ = some (.int .i64 nd.x.by_) ∧ w'.cell? ⟨w.heap.size, 0, none⟩ = some (.int .i64 x.by_))) (by kernel_rfl) ⟨b0', x0⟩ (fun hHeld => ?_)
        clear hHeld
        have hS : (fun w' => w'.cell? ⟨bn, offn + i * 35, none⟩ = some (.int .i64 nd.x.by_) ∧ w'.cell? ⟨w.heap.size, 0, none⟩ = some (.int .i64 x.by_)) wr.drew := ⟨b0', x0⟩
        replace hf := hf.drew
        refine wpAnyH_takeL (i := 0) (v := ?_) rfl (by kernel_rfl) (by kernel_rfl) (by kernel_rfl) (fun _ _ _ h => h) (Or.inl ⟨by kernel_rfl, ?_⟩) hS ?_
        rotate_left
        focus (intro w' hSw; (try dsimp only at hSw); go_simp; (try with_reducible rfl))
        simp only [List.set]
        refine wpAnyH_takeL (i := 1) (v := ?_) rfl (by kernel_rfl) (by kernel_rfl) (by kernel_rfl) (fun _ _ _ h => h) (Or.inl ⟨by kernel_rfl, ?_⟩) hS ?_
        rotate_left
        focus (intro w' hSw; (try dsimp only at hSw); go_simp; (try with_reducible rfl))
        simp only [List.set]
        refine wpAnyH_takeL (i := 2) (v := ?_) rfl (by kernel_rfl) (by kernel_rfl) (by kernel_rfl) (fun _ _ _ h => h) (Or.inl ⟨by kernel_rfl, ?_⟩) hS ?_
        rotate_left
        focus (intro w' hSw; (try dsimp only at hSw); go_simp; (try with_reducible rfl))
        simp only [List.set]
        refine wpAnyH_takeL (i := 3) (v := ?_) rfl (by kernel_rfl) (by kernel_rfl) (by kernel_rfl) (fun _ _ _ h => h) (Or.inl ⟨by kernel_rfl, ?_⟩) hS ?_
        rotate_left
        focus (intro w' hSw; (try dsimp only at hSw); go_simp; (try with_reducible rfl))
        simp only [List.set]
        refine wpAnyH_takeL (i := 4) (v := ?_) rfl (by kernel_rfl) (by kernel_rfl) (by kernel_rfl) (fun _ _ _ h => h) (Or.inl ⟨by kernel_rfl, ?_⟩) hS ?_
        rotate_left
        focus (intro w' hSw; (try dsimp only at hSw); go_simp; (try with_reducible rfl))
        simp only [List.set]
        refine wpAnyH_takeL (i := 5) (v := ?_) rfl (by kernel_rfl) (by kernel_rfl) (by kernel_rfl) (fun _ _ _ h => h) (Or.inl ⟨by kernel_rfl, ?_⟩) hS ?_
        rotate_left
        focus (intro w' hSw; (try dsimp only at hSw); go_simp; (try with_reducible rfl))
        simp only [List.set]
        refine wpAnyH_takeL (i := 6) (v := ?_) rfl (by kernel_rfl) (by kernel_rfl) (by kernel_rfl) (fun _ _ _ h => h) (Or.inl ⟨by kernel_rfl, ?_⟩) hS ?_
        rotate_left
        focus (intro w' hSw; (try dsimp only at hSw); go_simp; (try with_reducible rfl))
        simp only [List.set]
        refine wpAnyH_takeL (i := 7) (v := ?_) rfl (by kernel_rfl) (by kernel_rfl) (by kernel_rfl) (fun _ _ _ h => h) (Or.inl ⟨by kernel_rfl, ?_⟩) hS ?_
        rotate_left
        focus (intro w' hSw; (try dsimp only at hSw); go_simp; (try with_reducible rfl))
        simp only [List.set]
        refine wpAnyH_takeL (i := 8) (v := ?_) rfl (by kernel_rfl) (by kernel_rfl) (by kernel_rfl) (fun _ _ _ h => h) (Or.inl ⟨by kernel_rfl, ?_⟩) hS ?_
        rotate_left
        focus (intro w' hSw; (try dsimp only at hSw); go_simp; (try with_reducible rfl))
        simp only [List.set]
        refine wpAnyH_skipL (i := 9) rfl (by kernel_rfl) (by kernel_rfl) (by kernel_rfl) (fun _ _ _ h => h) (by kernel_rfl) hS ?_
        simp only [List.set]
        refine wpAnyH_skipL (i := 10) rfl (by kernel_rfl) (by kernel_rfl) (by kernel_rfl) (fun _ _ _ h => h) (by kernel_rfl) hS ?_
        simp only [List.set]
        refine wpAnyH_skipL (i := 11) rfl (by kernel_rfl) (by kernel_rfl) (by kernel_rfl) (fun _ _ _ h => h) (by kernel_rfl) hS ?_
        simp only [List.set]
        refine wpAnyH_takeL (i := 12) (v := ?_) rfl (by kernel_rfl) (by kernel_rfl) (by kernel_rfl) (fun _ _ _ h => h) (Or.inl ⟨by kernel_rfl, ?_⟩) hS ?_
        rotate_left
        focus (intro w' hSw; (try dsimp only at hSw); go_simp; (try with_reducible rfl))
        simp only [List.set]
        refine wpAnyH_done (by kernel_rfl) ?_ _
        go_simp
        clear hS
        go_wp2_with (fail)
        go_roundw
        case rel => exact ⟨i + 1, la, ah, rfl, rfl, by go_num, by omega, hl2, ha2, hf⟩
        case measure => simp [intOf]; omega
    · obtain rfl : nn = i := by omega
      have hbad : Hid (seqBad g.pns (psOf g.pns x.op.past) x.op = (decide (x.sq ≤ la) || (decide (1 < x.sq) && !ah))) := by
        show _ = _
        unfold seqBad
        rw [hpl.out]
        rw [show x.op.by_ = x.by_ from rfl, show x.op.sq = x.sq from rfl, ← hla.out, ← hah.out]
      obtain ⟨x0, x1⟩ := hx.out wr hf
      obtain ⟨bad, hbv⟩ := hid_ex (decide (x.sq ≤ la) || (decide (1 < x.sq) && !ah))
      clear hla hah hi hin hx hgb hpl hPs x0
      go_upto_region 50 with (fail)
      go_cut [212] from 200 to 212 (fun s wc => wr = wc ∧ s = .bool bad)
      case first =>
        clear hD hbad hg
        as_aux_lemma =>
        rcases Bool.eq_false_or_eq_true (decide (x.sq ≤ la)) with t1 | t1
        · have hv : Hid (true = bad) := by show _ = _; rw [← hbv.out, t1]; rfl
          go_wp2_with (fail)
          go_meet
          exact ⟨rfl, congrArg Value.bool hv.out⟩
        · rcases Bool.eq_false_or_eq_true (decide (1 < x.sq)) with t2 | t2
          · have hv : Hid ((!ah) = bad) := by show _ = _; rw [← hbv.out, t1, t2]; rfl
            go_wp2_with (fail)
            go_meet
            exact ⟨rfl, congrArg Value.bool hv.out⟩
          · have hv : Hid (false = bad) := by show _ = _; rw [← hbv.out, t1, t2]; rfl
            go_wp2_with (fail)
            go_meet
            exact ⟨rfl, congrArg Value.bool hv.out⟩
      case rest =>
      obtain ⟨rfl, rfl⟩ := hcut
      clear x1
      rw [hbv.out] at hbad
      cases bad
      case true =>
        have fin := Lib.hid (AddPost.bad (base := base) (w' := wr) (by rw [hD.out.err, if_pos hbad.out]) (by decide) (hD.out.fr.trans hf (fun _ _ e => e)))
        clear hD hbad hbv hg hf
        as_aux_lemma =>
        go_wp2_with (fail)
        go_ret
        exact fin.out
      case false =>
        have herr : addErr g.cards g.pns x.op = 0 := by rw [hD.out.err, hbad.out]; rfl
        have D := hD.out
        obtain ⟨nid, hnid⟩ := hid_ex x.op.name
        have hnok : nid.ok := by rw [← hnid.out]; exact name_ok D.A.hok
        have frr : Fr Non w wr := D.fr.trans hf (fun _ _ e => e)
        have hgr := hg.fr frr
        have bnr := D.bn.fr hf (fun e => e)
        rw [hnid.out] at bnr
        have s27 : wr.cell? ⟨gs, 27, none⟩ = some (.int .i64 nid.b) := bnr.cell 27
        have s28 : wr.cell? ⟨gs, 28, none⟩ = some (.int .i64 nid.s) := bnr.cell 28
        have s29 : wr.cell? ⟨gs, 29, none⟩ = some (.int .u64 (nid.u : Int)) := bnr.cell 29
        have c1 : wr.cell? ⟨g.gb, 1, none⟩ = some (.map (some g.mb)) := hgr.blk.cell 1
        have c2 : wr.cell? ⟨g.gb, 2, none⟩ = some (.slice g.nA nn g.nC) := by rw [← hnn.out]; exact hgr.blk.cell 2
        obtain ⟨w5, hrun, hm5, hg5⟩ := MapAt.store (hgr.map.fr ((Fr.refl Non wr).drew) (fun e => e)) nid hnok nn (by omega) (by have := hg.mfew; have := hg.few; omega)
        have f5 : Fr (One g.mb) wr.drew w5 := (Fr.refl (One g.mb) wr.drew).grown hg5 (fun k hk _ => by injection hk with hk; exact hk.symm)
        have hrun' : (Instr.mapUpdate 120 (.map (some g.mb)) (.agg #[.int .i64 nid.b, .int .i64 nid.s, .int .u64 (nid.u : Int)]) (.int .i64 (nn : Int))).run Tryz.prog wr.drew = .ok () w5 := hrun
        clear hrun hg5 hbad hbv
        go_upto_region 52 with (fail)
        refine wp_region_gate (S := (fun w' => w'.cell? ⟨gs, 27, none⟩ = some (.int .i64 nid.b) ∧ w'.cell? ⟨gs, 28, none⟩ = some (.int .i64 nid.s) ∧ w'.cell? ⟨gs, 29, none⟩ = some (.int .u64 (nid.u : Int)) ∧ w'.cell? ⟨g.gb, 1, none⟩ = some (.map (some g.mb)) ∧ w'.cell? ⟨g.gb, 2, none⟩ = some (.slice g.nA nn g.nC))) 11 (by kernel_rfl) ?_
        have hS : (fun w' => w'.cell? ⟨gs, 27, none⟩ = some (.int .i64 nid.b) ∧ w'.cell? ⟨gs, 28, none⟩ = some (.int .i64 nid.s) ∧ w'.cell? ⟨gs, 29, none⟩ = some (.int .u64 (nid.u : Int)) ∧ w'.cell? ⟨g.gb, 1, none⟩ = some (.map (some g.mb)) ∧ w'.cell? ⟨g.gb, 2, none⟩ = some (.slice g.nA nn g.nC)) wr.drew := ⟨s27, s28, s29, c1, c2⟩
        obtain ⟨wd, hwd⟩ := hid_ex wr.drew
        have fd : Fr Non w4 wd := by rw [← hwd.out]; exact hf.drew
        rw [hwd.out] at hS f5 hrun' ⊢
        refine wpAnyG_takeL (i := 0) (v := ?_) rfl (by kernel_rfl) (by kernel_rfl) (by kernel_rfl) (by kernel_rfl) (fun _ _ _ h => h) (Or.inl ⟨by kernel_rfl, ?_⟩) hS ?_
        rotate_left
        focus (intro w' hSw; (try dsimp only at hSw); go_simp; (try with_reducible rfl))
        simp only [List.set]
        refine wpAnyG_takeL (i := 1) (v := ?_) rfl (by kernel_rfl) (by kernel_rfl) (by kernel_rfl) (by kernel_rfl) (fun _ _ _ h => h) (Or.inl ⟨by kernel_rfl, ?_⟩) hS ?_
        rotate_left
        focus (intro w' hSw; (try dsimp only at hSw); go_simp; (try with_reducible rfl))
        simp only [List.set]
        refine wpAnyG_takeL (i := 2) (v := ?_) rfl (by kernel_rfl) (by kernel_rfl) (by kernel_rfl) (by kernel_rfl) (fun _ _ _ h => h) (Or.inl ⟨by kernel_rfl, ?_⟩) hS ?_
        rotate_left
        focus (intro w' hSw; (try dsimp only at hSw); go_simp; (try with_reducible rfl))
        simp only [List.set]
        refine wpAnyG_takeL (i := 3) (v := ?_) rfl (by kernel_rfl) (by kernel_rfl) (by kernel_rfl) (by kernel_rfl) (fun _ _ _ h => h) (Or.inl ⟨by kernel_rfl, ?_⟩) hS ?_
        rotate_left
        focus (intro w' hSw; (try dsimp only at hSw); go_simp; (try with_reducible rfl))
        simp only [List.set]
        refine wpAnyG_takeL (i := 4) (v := ?_) rfl (by kernel_rfl) (by kernel_rfl) (by kernel_rfl) (by kernel_rfl) (fun _ _ _ h => h) (Or.inl ⟨by kernel_rfl, ?_⟩) hS ?_
        rotate_left
        focus (intro w' hSw; (try dsimp only at hSw); go_simp; (try with_reducible rfl))
        simp only [List.set]
        refine wpAnyG_takeL (i := 5) (v := ?_) rfl (by kernel_rfl) (by kernel_rfl) (by kernel_rfl) (by kernel_rfl) (fun _ _ _ h => h) (Or.inl ⟨by kernel_rfl, ?_⟩) hS ?_
        rotate_left
        focus (intro w' hSw; (try dsimp only at hSw); go_simp; (try with_reducible rfl))
        simp only [List.set]
        refine wpAnyG_takeL (i := 6) (v := ?_) rfl (by kernel_rfl) (by kernel_rfl) (by kernel_rfl) (by kernel_rfl) (fun _ _ _ h => h) (Or.inl ⟨by kernel_rfl, ?_⟩) hS ?_
        rotate_left
        focus (intro w' hSw; (try dsimp only at hSw); go_simp; (try with_reducible rfl))
        simp only [List.set]
        refine wpAnyG_takeL (i := 7) (v := ?_) rfl (by kernel_rfl) (by kernel_rfl) (by kernel_rfl) (by kernel_rfl) (fun _ _ _ h => h) (Or.inl ⟨by kernel_rfl, ?_⟩) hS ?_
        rotate_left
        focus (intro w' hSw; (try dsimp only at hSw); go_simp; (try with_reducible rfl))
        simp only [List.set]
        refine wpAnyG_takeL (i := 8) (v := ?_) rfl (by kernel_rfl) (by kernel_rfl) (by kernel_rfl) (by kernel_rfl) (fun _ _ _ h => h) (Or.inl ⟨by kernel_rfl, ?_⟩) hS ?_
        rotate_left
        focus (intro w' hSw; (try dsimp only at hSw); go_simp; (try with_reducible rfl))
        simp only [List.set]
        refine wpAnyG_takeL (i := 9) (v := ?_) rfl (by kernel_rfl) (by kernel_rfl) (by kernel_rfl) (by kernel_rfl) (fun _ _ _ h => h) (Or.inl ⟨by kernel_rfl, ?_⟩) hS ?_
        rotate_left
        focus (intro w' hSw; (try dsimp only at hSw); go_simp; (try with_reducible rfl))
        simp only [List.set]
        refine wpAnyG_takeL (i := 10) (v := ?_) rfl (by kernel_rfl) (by kernel_rfl) (by kernel_rfl) (by kernel_rfl) (fun _ _ _ h => h) (Or.inl ⟨by kernel_rfl, ?_⟩) hS ?_
        rotate_left
        focus (intro w' hSw; (try dsimp only at hSw); go_simp; (try with_reducible rfl))
        simp only [List.set]
        refine wpAnyG_gate (by kernel_rfl) ?_
        refine wpAnyH_onlyG 11 (by kernel_rfl) rfl (by kernel_rfl) (fun K hK => ?_)
        go_simp
        refine hK.out _ _ trivial (fun hZ => ?_)
        clear hZ hK K
        try simp only [put_lit2, List.set]
        refine wpAnyH_done (by kernel_rfl) ?_ _
        go_simp
        clear hS hrun' s27 s28 s29 c1 c2 hgr bnr
        have frd : Fr Non w wd := D.fr.trans fd (fun _ _ e => e)
        have hgd := hg.fr frd
        have hmbl : g.mb < w.heap.size := hg.map.lt
        have hgsl := D.lo1
        have hgbmb : g.gb ≠ g.mb := fun e => by
          have h1 := hg.blk
          unfold Blk at h1
          rw [e] at h1
          exact hg.map.ismap _ _ _ h1
        have hrmb : ¬ rowOf g.nA = some g.mb := fun e => by
          obtain ⟨cs, fr, hb⟩ := hg.own.block e
          exact hg.map.ismap _ _ _ hb
        have hrgb : ¬ rowOf g.nA = some g.gb := hg.own.ne hg.blk (by decide)
        have hrgs : ¬ rowOf g.nA = some gs := fun e => by have := (hg.own.row _ e).2; omega
        have b5 := hgd.blk.fr f5 (fun e => hgbmb e)
        have bn5 : Blk w5 gs 118 (⟨y, nid, n0, n1, n2, n3, lv⟩ : NodeG).cells.toArray := by
          have h1 := (D.bn.fr fd (fun e => e)).fr f5 (fun e => by have e' : gs = g.mb := e; omega)
          rw [hnid.out] at h1
          exact h1
        have own5 : Own w5 base 118 35 g.nA nn g.nC (g.nodes.flatMap NodeG.cells) := by
          rw [← hnn.out]
          exact hgd.own.fr f5 (fun k hk e => by have e' : k = g.mb := e; subst e'; exact hrmb hk)
        have c5 : w5.cell? ⟨g.gb, 2, none⟩ = some (.slice g.nA nn g.nC) := by rw [← hnn.out]; exact b5.cell 2
        have hin35 : (Tryz.prog.info? 118).map (·.size) = some (⟨y, nid, n0, n1, n2, n3, lv⟩ : NodeG).cells.toArray.size := by
          show _ = some 35
          kernel_rfl
        have hlm := ldS_blk (P := Tryz.prog) gs 118 Tryz.underlying118 rfl (cs := (⟨y, nid, n0, n1, n2, n3, lv⟩ : NodeG).cells.toArray) hin35
        have hbs := run_bsS ⟨y, nid, n0, n1, n2, n3, lv⟩
        have hone := one_node ⟨y, nid, n0, n1, n2, n3, lv⟩
        have hszN : (⟨y, nid, n0, n1, n2, n3, lv⟩ : NodeG).cells.length = 35 := rfl
        have hfin := Lib.hid (fun (A' : Option Addr) (c' : Nat) (w6 w7 : World) => add_done (w4 := w4) (wd := wd) (w5 := w5) (w6 := w6) (w7 := w7) (A' := A') (c' := c') hg D herr fd)
        have hbase : base ≤ w.heap.size := Nat.le_trans hg.gbase (Nat.le_of_lt hg.blk.lt)
        have h5s := f5.size
        have h4s := frd.size
        rw [hnid.out, hnn.out] at hfin
        clear hgd D herr hD hf
        go_upto_region 53 with (fail)
        refine wp_region_gate (S := (fun w' => w'.cell? ⟨g.gb, 2, none⟩ = some (.slice g.nA nn g.nC) ∧ Blk w' gs 118 (⟨y, nid, n0, n1, n2, n3, lv⟩ : NodeG).cells.toArray)) 10 (by kernel_rfl) ?_
        have hS : (fun w' => w'.cell? ⟨g.gb, 2, none⟩ = some (.slice g.nA nn g.nC) ∧ Blk w' gs 118 (⟨y, nid, n0, n1, n2, n3, lv⟩ : NodeG).cells.toArray) w5.drew := ⟨c5, bn5⟩
        obtain ⟨we, hwe⟩ := hid_ex w5.drew
        have fe : Fr Non w5 we := by rw [← hwe.out]; exact (Fr.refl Non w5).drew
        have owne := own5.fr fe (fun _ _ e => e)
        have be := b5.fr fe (fun e => e)
        have hes := fe.size
        rw [hwe.out] at hS ⊢
        refine wpAnyG_takeL (i := 0) (v := ?_) rfl (by kernel_rfl) (by kernel_rfl) (by kernel_rfl) (by kernel_rfl) (fun _ _ _ h => h) (Or.inl ⟨by kernel_rfl, ?_⟩) hS ?_
        rotate_left
        focus (intro w' hSw; (try dsimp only at hSw); go_simp; (try with_reducible rfl))
        simp only [List.set]
        refine wpAnyG_takeL (i := 1) (v := ?_) rfl (by kernel_rfl) (by kernel_rfl) (by kernel_rfl) (by kernel_rfl) (fun _ _ _ h => h) (Or.inl ⟨by kernel_rfl, ?_⟩) hS ?_
        rotate_left
        focus (intro w' hSw; (try dsimp only at hSw); go_simp; (try with_reducible rfl))
        simp only [List.set]
        refine wpAnyG_takeL (i := 2) (v := ?_) rfl (by kernel_rfl) (by kernel_rfl) (by kernel_rfl) (by kernel_rfl) (fun _ _ _ h => h) (Or.inl ⟨by kernel_rfl, ?_⟩) hS ?_
        rotate_left
        focus (intro w' hSw; (try dsimp only at hSw); go_simp; (try with_reducible rfl))
        simp only [List.set]
        refine wpAnyG_takeL (i := 3) (v := ?_) rfl (by kernel_rfl) (by kernel_rfl) (by kernel_rfl) (by kernel_rfl) (fun _ _ _ h => h) (Or.inl ⟨by kernel_rfl, ?_⟩) hS ?_
        rotate_left
        focus (intro w' hSw; (try dsimp only at hSw); go_simp; (try with_reducible rfl))
        simp only [List.set]
        refine wpAnyG_takeL (i := 4) (v := ?_) rfl (by kernel_rfl) (by kernel_rfl) (by kernel_rfl) (by kernel_rfl) (fun _ _ _ h => h) (Or.inl ⟨by kernel_rfl, ?_⟩) hS ?_
        rotate_left
        focus (intro w' hSw; (try dsimp only at hSw); go_simp; (try with_reducible rfl))
        simp only [List.set]
        refine wpAnyG_takeL (i := 5) (v := ?_) rfl (by kernel_rfl) (by kernel_rfl) (by kernel_rfl) (by kernel_rfl) (fun _ _ _ h => h) (Or.inl ⟨by kernel_rfl, ?_⟩) hS ?_
        rotate_left
        focus (intro w' hSw; (try dsimp only at hSw); go_simp; (try with_reducible rfl))
        simp only [List.set]
        refine wpAnyG_onlyL 6 (by kernel_rfl) rfl (fun K hK => ?_)
        go_simp
        have fa : Fr Non we (we.alloc (.cells (⟨y, nid, n0, n1, n2, n3, lv⟩ : NodeG).cells.toArray 118)) := (Fr.refl Non we).alloc _
        have hS6 : (fun w' => w'.cell? ⟨g.gb, 2, none⟩ = some (.slice g.nA nn g.nC) ∧ Blk w' gs 118 (⟨y, nid, n0, n1, n2, n3, lv⟩ : NodeG).cells.toArray) (we.alloc (.cells (⟨y, nid, n0, n1, n2, n3, lv⟩ : NodeG).cells.toArray 118)) := ⟨fa.cell hS.1 (fun e => e), hS.2.fr fa (fun e => e)⟩
        have own6 := owne.fr fa (fun _ _ e => e)
        have hrd6 := Rd.blk (n := 1) (size := 35) (l := (⟨y, nid, n0, n1, n2, n3, lv⟩ : NodeG).cells) (Blk.new we 118 (⟨y, nid, n0, n1, n2, n3, lv⟩ : NodeG).cells.toArray) (by rw [hszN])
        have b6 := be.fr fa (fun e => e)
        have f6 := fe.trans fa (fun _ _ e => e)
        refine hK.out _ _ hS6 (fun hZ => ?_)
        clear hZ hK K
        try simp only [put_lit', List.set]
        generalize we.alloc (.cells (⟨y, nid, n0, n1, n2, n3, lv⟩ : NodeG).cells.toArray 118) = w6 at *
        refine wpAnyG_onlyL 7 (by kernel_rfl) rfl (fun K hK => ?_)
        refine oper_app (base := base) (.tmp 228) (.tmp 230) 121 (by rfl) (by rfl) (by rfl) slNode own6 hrd6 (by intro u hu; exact (Array.all_eq_true'.1 hone) u (by simpa using hu)) (by omega) (by omega) (by have := f6.size; omega) ?_
        intro A' c' w7 own7 f7 hat
        have hS7 : (fun w' => w'.cell? ⟨g.gb, 2, none⟩ = some (.slice g.nA nn g.nC) ∧ Blk w' gs 118 (⟨y, nid, n0, n1, n2, n3, lv⟩ : NodeG).cells.toArray) w7 := ⟨f7.cell hS6.1 hrgb, hS6.2.fr f7 hrgs⟩
        have b7 := b6.fr f7 hrgb
        refine hK.out _ _ hS7 (fun hZ => ?_)
        clear hZ hK K
        try simp only [put_lit', List.set]
        refine wpAnyG_onlyL 8 (by kernel_rfl) rfl (fun K hK => ?_)
        go_simp
        refine hK.out _ _ hS7 (fun hZ => ?_)
        clear hZ hK K
        try simp only [put_lit', List.set]
        refine wpAnyG_takeL (i := 9) (v := ?_) rfl (by kernel_rfl) (by kernel_rfl) (by kernel_rfl) (by kernel_rfl) (fun _ _ _ h => h) (Or.inl ⟨by kernel_rfl, ?_⟩) hS7 ?_
        rotate_left
        focus (intro w' hSw; (try dsimp only at hSw); go_simp; (try with_reducible rfl))
        simp only [List.set]
        have fin := Lib.hid (hfin.out A' c' w6 w7 hm5 f5 f6 own7 f7 hat)
        have c7 : w7.cell? ⟨g.gb, 2, none⟩ = some (.slice g.nA nn g.nC) := hS7.1
        have z7 : w7.frozen? ⟨g.gb, 2, none⟩ = false := b7.frozen 2
        refine wpAnyG_gate (by kernel_rfl) ?_
        refine wpAnyH_onlyG 10 (by kernel_rfl) rfl (by kernel_rfl) (fun K hK => ?_)
        go_simp
        refine hK.out _ _ trivial (fun hZ => ?_)
        clear hZ hK K
        try simp only [put_lit2, List.set]
        refine wpAnyH_done (by kernel_rfl) ?_ _
        go_simp
        clear hS hS6 hS7 own7 f7 hat b7 c7 z7 hfin hm5 f5 f6 own6 hrd6 b6 be owne fe hes hlm hbs hone
        go_wp2_with (fail)
        go_ret
        exact fin.out
/-- What Add answers, and what it makes of the graph. -/
theorem add_any (base : Nat) (g : Gph) (x : OpL) (w : World) (hg : GAt w base g) (hat : x.at w w.heap.size) (hok : x.op.ok) (hkn : KindsAt w) :
    Calls Tryz.prog 17 #[.pointer (some ⟨g.gb, 0, none⟩), .agg x.cells] w (AddPost base g x.op w) :=
  addA.2 ⟨addB.2 ⟨addC.2 ⟨addD.2 ⟨add_last⟩⟩⟩⟩ base g x w hg hat hok hkn
end Oq
end Go.Proofs.YtafonabghnogaaaGreatDoor

namespace Go.Proofs.YtafonabghnogaaaGreatDoor
open Go.RowKit
namespace Oq
/-- An operation, signed by its device's secret. -/
def sgn (o : Op) : Op := { o with r := Sg.r (sec lSign o.by_.toNat) o.bare, s := Sg.s (sec lSign o.by_.toNat) o.bare }
theorem resig_chk (o : Op) (R S : Nat) : ({ o with r := R, s := S } : Op).chk = o.chk := rfl
theorem resig_bare (o : Op) (R S : Nat) : ({ o with r := R, s := S } : Op).bare = o.bare := rfl
theorem resig_id (o : Op) (R S : Nat) : ({ o with r := R, s := S } : Op).id = o.id := by unfold Op.id; rw [resig_bare]
theorem resig_name (o : Op) (R S : Nat) : ({ o with r := R, s := S } : Op).name = o.name := by
  unfold Op.name
  rw [resig_id]
theorem resig_seq (l : List Pn) (p : Nat → Bool) (o : Op) (R S : Nat) : seqBad l p ({ o with r := R, s := S } : Op) = seqBad l p o := rfl
theorem sgn_ex (o : Op) : ∃ R S, sgn o = { o with r := R, s := S } ∧ Sg.check (Sg.pub (sec lSign o.by_.toNat)) o.bare R S = true :=
  ⟨_, _, rfl, Sg.takes _ _ (Nat.lt_trans (sec_lt _ _) (by decide))⟩
theorem sgn_name (o : Op) : (sgn o).name = o.name := by
  obtain ⟨R, S, h, _⟩ := sgn_ex o
  rw [h, resig_name]
theorem sgn_chk (o : Op) : (sgn o).chk = o.chk := by
  obtain ⟨R, S, h, _⟩ := sgn_ex o
  rw [h, resig_chk]
theorem sgn_by (o : Op) : (sgn o).by_ = o.by_ := by
  obtain ⟨R, S, h, _⟩ := sgn_ex o
  rw [h]
theorem sgn_sq (o : Op) : (sgn o).sq = o.sq := by
  obtain ⟨R, S, h, _⟩ := sgn_ex o
  rw [h]
theorem sgn_at (o : Op) : (sgn o).at_ = o.at_ := by
  obtain ⟨R, S, h, _⟩ := sgn_ex o
  rw [h]
theorem sgn_past (o : Op) : (sgn o).past = o.past := by
  obtain ⟨R, S, h, _⟩ := sgn_ex o
  rw [h]
/-- A signed operation of the right form is taken in behind its parents. -/
theorem add_ok {cards : List Cd} {l : List Pn} {o : Op} {c : Cd} (h1 : o.chk = 0) (h2 : plc l o.name = none) (h3 : l.length < 200) (h4 : cardOf? cards o.by_ = some c) (h5 : c.s = Sg.pub (sec lSign o.by_.toNat)) (h6 : o.kind ≠ 1 ∨ l = [])
    (h7 : o.past.any (fun id => (plc l id).isNone) = false) (h8 : clash l o.past = false) (h9 : late l o.past ≤ o.at_) (h10 : seqBad l (psOf l o.past) o = false) : addErr cards l (sgn o) = 0 := by
  obtain ⟨R, S, e, hc⟩ := sgn_ex o
  rw [e]
  unfold addErr
  rw [resig_chk, resig_name, h1, h2, if_neg (by simp), if_neg (by simp), if_neg (by omega)]
  rw [show ({ o with r := R, s := S } : Op).by_ = o.by_ from rfl, h4]
  dsimp only
  rw [resig_bare, h5, hc, if_neg (by simp), if_neg (by rcases h6 with h | h <;> simp [h]), h7, if_neg (by simp), h8, if_neg (by simp; omega), resig_seq, h10]
  simp
theorem add_past {cards : List Cd} {l : List Pn} {o : Op} {c : Cd} (h1 : o.chk = 0) (h2 : plc l o.name = none) (h3 : l.length < 200) (h4 : cardOf? cards o.by_ = some c) (h5 : c.s = Sg.pub (sec lSign o.by_.toNat)) (h6 : o.kind ≠ 1 ∨ l = [])
    (h7 : o.past.any (fun id => (plc l id).isNone) = true) : addErr cards l (sgn o) = 10 := by
  obtain ⟨R, S, e, hc⟩ := sgn_ex o
  rw [e]
  unfold addErr
  rw [resig_chk, resig_name, h1, h2, if_neg (by simp), if_neg (by simp), if_neg (by omega)]
  rw [show ({ o with r := R, s := S } : Op).by_ = o.by_ from rfl, h4]
  dsimp only
  rw [resig_bare, h5, hc, if_neg (by simp), if_neg (by rcases h6 with h | h <;> simp [h]), h7, if_pos rfl]
theorem add_twice {cards : List Cd} {l : List Pn} {o : Op} (h1 : o.chk = 0) (h2 : (plc l o.name).isSome = true) : addErr cards l o = 5 := by
  unfold addErr
  rw [h1, if_neg (by simp), if_pos h2]
theorem add_full {cards : List Cd} {l : List Pn} {o : Op} (h1 : o.chk = 0) (h2 : plc l o.name = none) (h3 : 200 ≤ l.length) : addErr cards l o = 3 := by
  unfold addErr
  rw [h1, h2, if_neg (by simp), if_neg (by simp), if_pos h3]
theorem plc_eq {l : List Pn} {id : Id} {i : Nat} {n : Pn} (h : l[i]? = some n) (hid : n.id = id) (hu : ∀ j m, j < i → l[j]? = some m → m.id ≠ id) : plc l id = some i := by
  obtain ⟨hi, rfl⟩ := List.getElem?_eq_some_iff.1 h
  refine List.findIdx?_eq_some_iff_getElem.2 ⟨hi, by simpa using hid, fun j hj => ?_⟩
  have := hu j _ hj (List.getElem?_eq_getElem (by omega))
  simpa using this
theorem plc_none {l : List Pn} {id : Id} (h : ∀ n ∈ l, n.id ≠ id) : plc l id = none := by
  refine List.findIdx?_eq_none_iff.2 (fun n hn => ?_)
  simpa using h n hn

/-- An erasing operation, ahead of its signature. -/
def erOp (b s a : Int) (past : List Id) : Op := { base b s 8 a past [] with of := ⟨1, 1, 0⟩ }
/-- A first operation. -/
def crOp (b : Int) : Op := { base b 1 1 0 [] [] with need := 0 }
theorem erOp_chk {b s a : Int} {past : List Id} (hb : 1 ≤ b ∧ b ≤ 12) (hs : 1 ≤ s ∧ s ≤ 2147483647) (ha : 0 ≤ a ∧ a ≤ 2147483647) (hp : past.length ≤ 12 ∧ (∀ x ∈ past, x.named = true) ∧ Row past ∧ past ≠ []) : (erOp b s a past).chk = 0 :=
  chk_erase (h := ⟨by omega, hb, hs, ha, ⟨hp.1, hp.2.1, hp.2.2.1, by simp [hp.2.2.2]⟩, ⟨by simp, by simp, .inl rfl⟩⟩) (named_gen (x := ⟨1, 1, 0⟩) ⟨by decide, by decide⟩ ⟨by decide, by decide⟩ (by unfold FP; decide))
theorem crOp_chk {b : Int} (hb : 1 ≤ b ∧ b ≤ 12) : (crOp b).chk = 0 :=
  chk_create (h := ⟨by omega, hb, by omega, by omega, ⟨by simp, by simp, List.Pairwise.nil, by simp⟩, ⟨by simp, by simp, .inl rfl⟩⟩) (inR_t (by omega))
theorem id_lt (o : Op) : o.id < FP := by unfold FP; exact Hs.of_lt _ _
theorem named_mk {b s : Int} {u : Nat} (hb : 1 ≤ b ∧ b ≤ 12) (hs : 1 ≤ s ∧ s ≤ 2147483647) (hu : u < FP) : (Id.mk b s u).named = true := named_gen hb hs hu
theorem name_named {o : Op} (hb : 1 ≤ o.by_ ∧ o.by_ ≤ 12) (hs : 1 ≤ o.sq ∧ o.sq ≤ 2147483647) : o.name.named = true := by
  unfold Op.name
  exact named_mk hb hs (id_lt o)
end Oq
end Go.Proofs.YtafonabghnogaaaGreatDoor

namespace Go.Proofs.YtafonabghnogaaaGreatDoor
open Go.RowKit
attribute [local go_sem ↓] Go.wp_at_zero Go.wp_at_succ
namespace Oq
attribute [local go_sem ↓] loadAt_op storeAt_op
def ErasePost (b s a : Int) (l : List Id) (w : World) (e : Ending) (w' : World) : Prop := ∃ y : OpL, e = .returned (.agg y.cells) ∧ y.op = sgn (erOp b s a (sortIds l)) ∧ y.own w' w.heap.size ∧ Fr Non w w'
/-- Where an erasing operation lies. -/
def erL (b s a : Int) (A : Option Addr) (c : Nat) (l : List Id) : OpL := { OpL.zero with by_ := b, sq := s, kind := 8, at_ := a, pastA := A, pastC := c, past := l, of := ⟨1, 1, 0⟩ }
theorem erL_op (b s a : Int) (A : Option Addr) (c : Nat) (l : List Id) : (erL b s a A c l).op = erOp b s a l := rfl
theorem sgn_of (x : OpL) (o : Op) (h : x.op = o) (u : Nat) (hu : o.by_.toNat = u) (S : Nat) (hS : sec lSign u = S) : ({ x with r := Sg.r S x.op.bare, s := Sg.s S x.op.bare } : OpL).op = sgn o := by
  rw [resig_op, h]
  unfold sgn
  rw [hu, hS]
theorem zero_I64 : I64 0 := ⟨by decide, by decide⟩
theorem I64_8 : I64 8 := ⟨by decide, by decide⟩
theorem I64_1 : I64 1 := ⟨by decide, by decide⟩
theorem erOp_ok {b s a : Int} {L : List Id} (hb : 1 ≤ b ∧ b ≤ 12) (hs : 1 ≤ s ∧ s ≤ 2147483647) (ha : 0 ≤ a ∧ a ≤ 2147483647) (hl : L.length ≤ 1000 ∧ ∀ x ∈ L, x.ok) : (erOp b s a L).ok :=
  ⟨⟨by show _ ≤ b; omega, by show b ≤ _; omega⟩, ⟨by show _ ≤ s; omega, by show s ≤ _; omega⟩, I64_8, ⟨by show _ ≤ a; omega, by show a ≤ _; omega⟩, hl, zero_I64, zero_I64, zero_I64, zero_I64,
   ⟨Nat.zero_le _, fun _ h => absurd h List.not_mem_nil⟩, ⟨zero_I64, zero_I64, zero_U64⟩, zero_I64, Nat.zero_le _, ⟨Nat.zero_le _, fun _ h => absurd h List.not_mem_nil⟩, ⟨I64_1, I64_1, zero_U64⟩,
   ⟨Nat.zero_le _, fun _ h => absurd h List.not_mem_nil⟩, zero_I64, zero_I64, ⟨Nat.zero_le _, fun _ h => absurd h List.not_mem_nil⟩, zero_U64, ⟨Nat.zero_le _, fun _ h => absurd h List.not_mem_nil⟩, zero_U64, zero_U64⟩
theorem erL_own {b s a : Int} {A : Option Addr} {c : Nat} {l : List Id} {w : World} {base : Nat} (h : Own w base 38 3 A l.length c (l.flatMap Id.cells)) : (erL b s a A c l).own w base :=
  ⟨RowAt.of_own h, RowAt.nil _ _ _ _, (fun _ h => absurd h List.not_mem_nil), RowAt.nil _ _ _ _, RowAt.nil _ _ _ _, RowAt.nil _ _ _ _, RowAt.nil _ _ _ _, RowAt.nil _ _ _ _, (fun _ h => absurd h List.not_mem_nil)⟩
theorem own_sig {x : OpL} {w : World} {base : Nat} (o : x.own w base) (r s : Nat) : ({ x with r := r, s := s } : OpL).own w base := ⟨o.past, o.path, o.nodes, o.body, o.refs, o.guards, o.boxes, o.hist, o.seals⟩
set_option maxRecDepth 100000 in
set_option maxHeartbeats 4000000 in
theorem erase_any (b s a : Int) (B n c : Nat) (A : Option Addr) (l : List Id) (w : World) (hb : 1 ≤ b ∧ b ≤ 12) (hs : 1 ≤ s ∧ s ≤ 2147483647) (ha : 0 ≤ a ∧ a ≤ 2147483647) (hn : Hid (l.length = n)) (hr : Rd w B 3 A n (l.flatMap Id.cells)) (hnm : n ≤ 1000) (hok : ∀ x ∈ l, x.ok) :
    Calls Tryz.prog 41 #[.int .i64 b, .int .i64 s, .int .i64 a, .slice A n c] w (ErasePost b s a l w) := by
  have hi : (Tryz.prog.info? 44).map (·.size) = some 27 := by kernel_rfl
  have hlS : (sortIds l).length = n := (sortIds_perm l).length_eq.trans hn.out
  have hox : (erOp b s a (sortIds l)).ok := erOp_ok hb hs ha ⟨by omega, fun x hx => hok x ((sortIds_perm l).subset hx)⟩
  have f0 : Fr Non w (w.alloc (.cells #[.int .i64 0, .int .i64 0, .int .i64 0, .int .i64 0, .slice none 0 0, .int .i64 0, .int .i64 0, .int .i64 0, .int .i64 0, .slice none 0 0, .int .i64 0, .int .i64 0, .int .u64 0, .int .i64 0, .slice none 0 0, .slice none 0 0, .int .i64 0, .int .i64 0, .int .u64 0, .slice none 0 0, .int .i64 0, .int .i64 0, .slice none 0 0, .int .u64 0, .slice none 0 0, .int .u64 0, .int .u64 0] 44)) := (Fr.refl Non w).alloc _
  have bz0 := Blk.new w 44 #[.int .i64 0, .int .i64 0, .int .i64 0, .int .i64 0, .slice none 0 0, .int .i64 0, .int .i64 0, .int .i64 0, .int .i64 0, .slice none 0 0, .int .i64 0, .int .i64 0, .int .u64 0, .int .i64 0, .slice none 0 0, .slice none 0 0, .int .i64 0, .int .i64 0, .int .u64 0, .slice none 0 0, .int .i64 0, .int .i64 0, .slice none 0 0, .int .u64 0, .slice none 0 0, .int .u64 0, .int .u64 0]
  have kS := Lib.hid (fun w' (h : Fr Non w w') => sorted_any B n c A l w' hn (hr.fr h (fun _ _ e => e)) (by omega))
  obtain ⟨u, hu⟩ : ∃ u, b.toNat = u := ⟨_, rfl⟩
  have hu2 : IntKind.u64.wrap b = (u : Int) := by rw [IntKind.wrap_u64]; omega
  have kG : Hid (∀ (A1 : Option Addr) (c1 : Nat) (w' : World) (base : Nat), Own w' base 38 3 A1 n c1 ((sortIds l).flatMap Id.cells) → Calls Tryz.prog 15 #[.agg #[.int .i64 b, .int .i64 s, .int .i64 8, .int .i64 a, .slice A1 n c1, .int .i64 0, .int .i64 0, .int .i64 0, .int .i64 0, .slice none 0 0, .int .i64 0, .int .i64 0, .int .u64 0, .int .i64 0, .slice none 0 0, .slice none 0 0, .int .i64 1, .int .i64 1, .int .u64 0, .slice none 0 0, .int .i64 0, .int .i64 0, .slice none 0 0, .int .u64 0, .slice none 0 0, .int .u64 0, .int .u64 0]] w' fun r w'' =>
      ∃ y : OpL, r = .returned (.agg y.cells) ∧ y.op = sgn (erOp b s a (sortIds l)) ∧ (∀ (S : Nat → Prop) (wz : World), Fr S w' wz → (∀ k, rowOf A1 = some k → ¬ S k) → y.own wz base) ∧ Fr Non w' w'') := by
    intro A1 c1 w' base ho
    rw [← hlS] at ho ⊢
    have hat := (erL_own (b := b) (s := s) (a := a) ho).at
    have h := signed11_eq (erL b s a A1 c1 (sortIds l)) u w' hu2 (by omega) hat (by rw [erL_op]; exact hox)
    refine Calls.mono h ?_
    rintro r w'' ⟨h1, h2⟩
    exact ⟨_, h1, sgn_of _ _ (erL_op b s a A1 c1 (sortIds l)) u hu _ rfl, (fun S wz hf hs => own_sig (erL_own (ho.fr hf hs)) _ _), h2⟩
  have hpost : Hid (∀ (y : OpL) w', y.op = sgn (erOp b s a (sortIds l)) → y.own w' w.heap.size → Fr Non w w' → ErasePost b s a l w (.returned (.agg y.cells)) w') := fun y w' h1 h2 h3 => ⟨y, rfl, h1, h2, h3⟩
  unfold SortPost at kS
  generalize ErasePost b s a l w = POST at *
  generalize sgn (erOp b s a (sortIds l)) = OO at *
  generalize (sortIds l).flatMap Id.cells = SC at *
  clear hox hlS hn hr hok hu2 hu
  go_enter Tryz.func41, Tryz.ntmps41
  go_upto_region 1 with (fail)
  generalize w.alloc (.cells #[.int .i64 0, .int .i64 0, .int .i64 0, .int .i64 0, .slice none 0 0, .int .i64 0, .int .i64 0, .int .i64 0, .int .i64 0, .slice none 0 0, .int .i64 0, .int .i64 0, .int .u64 0, .int .i64 0, .slice none 0 0, .slice none 0 0, .int .i64 0, .int .i64 0, .int .u64 0, .slice none 0 0, .int .i64 0, .int .i64 0, .slice none 0 0, .int .u64 0, .slice none 0 0, .int .u64 0, .int .u64 0] 44) = w0 at *
  have f0s := f0.size
  go_wp2_with (first
    | (go_at_call 50; (with_reducible refine (kS.out _ f0).mono ?_); rintro _ w1 ⟨A1, c1, rfl, o1, f1⟩; have kg := Lib.hid (kG.out A1 c1 w1 _ o1); have bz1 := bz0.fr f1 (fun e => e); have fr1 := f0.trans f1 (fun _ _ e => e); have hrow := o1.row; have hbl := bz0.lt; clear kS kG o1 f1)
    | (go_at_call 15; (with_reducible refine (kg.out).mono ?_); rintro _ w2 ⟨y, rfl, hop, hyat, f2⟩; have bz2 := bz1.fr f2 (fun e => e); have fr2 := fr1.trans f2 (fun _ _ e => e); have honey := one_cells y; have fin : Hid (∀ wz, Fr (One w.heap.size) w2 wz → POST (.returned (.agg y.cells)) wz) := (fun wz hz => by
        have hz' : Fr Non w wz := fr2.trans hz (fun k hk e => absurd hk (by have e' : k = w.heap.size := e; omega))
        have hsz : w.heap.size ≤ w0.heap.size := f0s
        exact hpost.out y wz hop ((hyat (One w.heap.size) wz ((Fr.of_non f2 (One w.heap.size)).trans hz (fun _ _ e => e)) (fun k hk e => by have h1 := (hrow k hk).1; have e' : k = w.heap.size := e; omega)).lower hsz) hz'); clear kg f2)
    | (refine wpList_store_row rfl 44 (.tmp 8) (.tmp 16) rfl rfl rfl rfl bz2 hi rfl honey ?_; have hfz := (Fr.refl (One w.heap.size) w2).setRow (g := w.heap.size) (fun _ => rfl) y.cells; have hz2 := bz2.setRow (cs := y.cells); generalize w2.setRow w.heap.size y.cells = wz at hfz hz2 ⊢; (repeat (first | go_values | go_skip | go_guarded | go_step)); exact ret_blk (t := 44) rfl rfl hz2 rfl Tryz.underlying44 (by kernel_rfl) rfl (fin.out wz hfz)))
end Oq
end Go.Proofs.YtafonabghnogaaaGreatDoor

namespace Go.Proofs.YtafonabghnogaaaGreatDoor
open Go.RowKit Go.Sort Go.Shelf
namespace Oq
section
variable {α : Type} [Inhabited α] {enc : α → List Value} {sz : Nat} (hlen : ∀ x, (enc x).length = sz) (hsz : 0 < sz)
include hlen hsz
theorem flatK_g (xs : List α) {j : Nat} (hj : j < xs.length * sz) : (xs.flatMap enc)[j]? = some ((flatK enc sz xs.toArray)[j]!) := by
  rw [get_flatK _ _ _ _ (by simpa using hj)]
  have hk : j / sz < xs.length := Nat.div_lt_of_lt_mul (by rwa [Nat.mul_comm] at hj)
  have hm : j % sz < sz := Nat.mod_lt _ hsz
  have h1 : xs[j / sz]? = some xs[j / sz] := List.getElem?_eq_getElem hk
  have h2 := flat_get (f := enc) (size := sz) hlen xs (j / sz) (j % sz) _ h1 hm
  rw [Nat.mul_comm, Nat.div_add_mod] at h2
  rw [h2]
  have h3 : xs.toArray[j / sz]! = xs[j / sz] := by simp [hk]
  rw [h3]
  have h4 : j % sz < (enc xs[j / sz]).length := by rw [hlen]; exact hm
  rw [List.getElem?_eq_getElem h4]
  simp [h4]
theorem own_holds_g {w : World} {base c : Nat} {t : TypeId} {g : Nat} {xs : List α} (h : Own w base t sz (some ⟨g, 0, none⟩) xs.length c (xs.flatMap enc)) : HoldsK enc sz w g 0 xs.toArray := by
  intro j hj
  have hj' : j < xs.length * sz := by simpa using hj
  obtain ⟨cur, hb, hl, hs⟩ := own_block h (by
    rcases Nat.eq_zero_or_pos xs.length with h0 | h0
    · rw [h0] at hj'; simp at hj'
    · exact h0)
  have hf := flatK_g hlen hsz xs hj'
  rw [Nat.zero_add]
  refine ⟨?_, hb.frozen j⟩
  rw [hb.cell j, id, ← hf, ← hl, List.getElem?_take_of_lt hj']
  simp
theorem own_sorted_g {w : World} {base c : Nat} {t : TypeId} {g : Nat} {xs ys : List α} (n : Nat) (os : Array Obj) (h : Own w base t sz (some ⟨g, 0, none⟩) xs.length c (xs.flatMap enc)) (hx : 0 < xs.length) (hl : ys.length = xs.length) :
    Own (sortWorldK enc sz w g 0 n ys.toArray os) base t sz (some ⟨g, 0, none⟩) ys.length c (ys.flatMap enc) := by
  have hyl : (ys.flatMap enc).length = ys.length * sz := flat_len (f := enc) hlen ys
  rcases h.2 with ⟨_, h0⟩ | ⟨g', cap, cur, hv, hb, hg, h1, h2, h3, h4⟩
  · omega
  · injection hv with hA hn' hc
    injection hA with hA
    injection hA with hA
    subst hA
    subst hc
    have hs : xs.length * sz ≤ cur.size := by
      have h5 := congrArg List.length h4
      rw [List.length_take, Array.length_toList, h.1] at h5
      rw [← h5]
      exact Nat.min_le_right _ _
    have hnew := sorted_block (n := n) (os := os) (d := flatK enc sz ys.toArray) (show Blk w g t cur from hg)
    refine ⟨hyl, .inr ⟨g, c, putCells id 0 (flatK enc sz ys.toArray) cur, rfl, hb, hnew, by omega, h2, ?_, ?_⟩⟩
    · simpa [putCells] using h3
    · rw [← hyl]
      exact putCells_take (by rw [hyl]; simp) (fun j hj => flatK_g hlen hsz ys (by omega)) (by rw [hyl, hl]; exact hs)
end
end Oq
end Go.Proofs.YtafonabghnogaaaGreatDoor

namespace Go.Proofs.YtafonabghnogaaaGreatDoor
open Go.RowKit
attribute [local go_sem ↓] Go.wp_at_zero Go.wp_at_succ
namespace Oq
theorem one1_cd (l : List Cd) : ∀ v ∈ l.flatMap Cd.cells, v.oneCell' = true := one1_flat _ (fun a v hv => by simp [Cd.cells] at hv; rcases hv with rfl | rfl | rfl | rfl | rfl <;> rfl) l
end Oq
end Go.Proofs.YtafonabghnogaaaGreatDoor

namespace Go.Proofs
open Go.Shelf Go.RowKit Go.Lib Go.Sort
def Tryz.sortCards_ren : Go.Shelf.Ren := ⟨fun | 6 => 77 | 15 => 128 | 14 => 127 | 28 => 185 | 29 => 186 | 20 => 177 | 21 => 178 | 22 => 179 | 23 => 180 | 24 => 181 | 25 => 182 | 26 => 183 | 27 => 184 | 46 => 216 | 47 => 217 | 48 => 218 | 49 => 219 | 50 => 220 | 57 => 232 | n => n, fun | 22 => 26 | 24 => 81 | 25 => 131 | 3 => 3 | 39 => 172 | 0 => 0 | 53 => 220 | 55 => 23 | 4 => 4 | 46 => 214 | 45 => 213 | 50 => 119 | 5 => 5 | 9 => 9 | 66 => 239 | 70 => 242 | 76 => 254 | 77 => 255 | n => n, fun | n => n⟩
theorem Tryz.sortCards : Go.Proofs.SlLaysF0.n6 Tryz.prog Tryz.sortCards_ren := {
  mixed := by kernel_rfl
  f6 := ⟨Tryz.f77.name, by decide, Tryz.func77.trans (congrArg some (by kernel_rfl))⟩
  f14 := ⟨Tryz.f127.name, by decide, Tryz.func127.trans (congrArg some (by kernel_rfl))⟩
  f15 := Tryz.func128.trans (congrArg some (by kernel_rfl))
  f20 := ⟨Tryz.f177.name, by decide, Tryz.func177.trans (congrArg some (by kernel_rfl))⟩
  f21 := ⟨Tryz.f178.name, by decide, Tryz.func178.trans (congrArg some (by kernel_rfl))⟩
  f22 := ⟨Tryz.f179.name, by decide, Tryz.func179.trans (congrArg some (by kernel_rfl))⟩
  f23 := ⟨Tryz.f180.name, by decide, Tryz.func180.trans (congrArg some (by kernel_rfl))⟩
  f24 := ⟨Tryz.f181.name, by decide, Tryz.func181.trans (congrArg some (by kernel_rfl))⟩
  f25 := ⟨Tryz.f182.name, by decide, Tryz.func182.trans (congrArg some (by kernel_rfl))⟩
  f26 := ⟨Tryz.f183.name, by decide, Tryz.func183.trans (congrArg some (by kernel_rfl))⟩
  f27 := ⟨Tryz.f184.name, by decide, Tryz.func184.trans (congrArg some (by kernel_rfl))⟩
  f28 := Tryz.func185.trans (congrArg some (by kernel_rfl))
  f29 := Tryz.func186.trans (congrArg some (by kernel_rfl))
  f46 := ⟨Tryz.f216.name, by decide, Tryz.func216.trans (congrArg some (by kernel_rfl))⟩
  f47 := Tryz.func217.trans (congrArg some (by kernel_rfl))
  f48 := Tryz.func218.trans (congrArg some (by kernel_rfl))
  f49 := ⟨Tryz.f219.name, by decide, Tryz.func219.trans (congrArg some (by kernel_rfl))⟩
  f50 := ⟨Tryz.f220.name, by decide, Tryz.func220.trans (congrArg some (by kernel_rfl))⟩
  f57 := ⟨Tryz.f232.name, by decide, Tryz.func232.trans (congrArg some (by kernel_rfl))⟩
  t0 := Tryz.underlying0
  a0 := Tryz.isAgg0
  z0 := Tryz.sizeOf0
  v0 := Tryz.zeroValue0
  t3 := Tryz.underlying3
  a3 := Tryz.isAgg3
  z3 := Tryz.sizeOf3
  v3 := Tryz.zeroValue3
  t4 := Tryz.underlying4
  a4 := Tryz.isAgg4
  z4 := Tryz.sizeOf4
  v4 := Tryz.zeroValue4
  t5 := Tryz.underlying5
  a5 := Tryz.isAgg5
  z5 := Tryz.sizeOf5
  v5 := Tryz.zeroValue5
  t9 := Tryz.underlying9
  a9 := Tryz.isAgg9
  z9 := Tryz.sizeOf9
  v9 := Tryz.zeroValue9
  t22 := Tryz.underlying26
  a22 := Tryz.isAgg26
  z22 := Tryz.sizeOf26
  v22 := Tryz.zeroValue26
  t25 := Tryz.underlying131
  a25 := Tryz.isAgg131
  z25 := Tryz.sizeOf131
  v25 := Tryz.zeroValue131
  t39 := Tryz.underlying172
  a39 := Tryz.isAgg172
  z39 := Tryz.sizeOf172
  v39 := Tryz.zeroValue172
  t45 := Tryz.underlying213
  a45 := Tryz.isAgg213
  z45 := Tryz.sizeOf213
  v45 := Tryz.zeroValue213
  t46 := Tryz.underlying214
  a46 := Tryz.isAgg214
  z46 := Tryz.sizeOf214
  v46 := Tryz.zeroValue214
  t50 := Tryz.underlying119
  a50 := Tryz.isAgg119
  z50 := Tryz.sizeOf119
  v50 := Tryz.zeroValue119
  t53 := Tryz.underlying220
  a53 := Tryz.isAgg220
  z53 := Tryz.sizeOf220
  v53 := Tryz.zeroValue220
  t55 := Tryz.underlying23
  a55 := Tryz.isAgg23
  z55 := Tryz.sizeOf23
  v55 := Tryz.zeroValue23
  t66 := Tryz.underlying239
  a66 := Tryz.isAgg239
  z66 := Tryz.sizeOf239
  v66 := Tryz.zeroValue239
  t70 := Tryz.underlying242
  a70 := Tryz.isAgg242
  z70 := Tryz.sizeOf242
  v70 := Tryz.zeroValue242
  t76 := Tryz.underlying254
  a76 := Tryz.isAgg254
  z76 := Tryz.sizeOf254
  v76 := Tryz.zeroValue254
  t77 := Tryz.underlying255
  a77 := Tryz.isAgg255
  z77 := Tryz.sizeOf255
  v77 := Tryz.zeroValue255 }

end Go.Proofs
namespace Go.Proofs.YtafonabghnogaaaGreatDoor
open Go.RowKit Go.Sort Go.Shelf
attribute [local go_sem ↓] Go.wp_at_zero Go.wp_at_succ
namespace Oq
/-- Cards whose device lies within bounds. -/
structure CdR where
  c : Cd
  lo : 0 ≤ c.d
  hi : c.d ≤ 1000
instance : Inhabited CdR := ⟨⟨⟨0, 0, 0, 0, 0⟩, Int.le_refl _, by decide⟩⟩
def CdR.cells (x : CdR) : List Value := x.c.cells
def cmpCd (x y : CdR) : Int := x.c.d - y.c.d
theorem ltOf_cd (x y : CdR) : ltOf cmpCd x y = decide (x.c.d < y.c.d) := by
  unfold ltOf cmpCd
  rw [Bool.eq_iff_iff, decide_eq_true_iff, decide_eq_true_iff]
  omega
theorem swo_cd : SWO (ltOf cmpCd) where
  irrefl x := by rw [ltOf_cd]; simp
  trans x y z h1 h2 := by
    rw [ltOf_cd, decide_eq_true_iff] at *
    omega
  ntrans x y z h1 h2 := by
    rw [ltOf_cd, decide_eq_false_iff_not] at *
    omega
set_option maxRecDepth 100000 in
set_option maxHeartbeats 1000000 in
theorem cmpcd_any (x y : Cd) (w : World) (hx0 : 0 ≤ x.d) (hx1 : x.d ≤ 1000) (hy0 : 0 ≤ y.d) (hy1 : y.d ≤ 1000) :
    Calls Tryz.prog 78 #[.agg #[.int .i64 x.d, .int .i64 x.m, .int .u64 (x.l : Int), .int .u64 (x.k : Int), .int .u64 (x.s : Int)], .agg #[.int .i64 y.d, .int .i64 y.m, .int .u64 (y.l : Int), .int .u64 (y.k : Int), .int .u64 (y.s : Int)]] w fun e w' => e = .returned (.int .i64 (x.d - y.d)) ∧ GrowOf w w' := by
  have hf := ((GrowOf.refl w).alloc (.cells #[.int .i64 x.d, .int .i64 x.m, .int .u64 (x.l : Int), .int .u64 (x.k : Int), .int .u64 (x.s : Int)] 81)).alloc (.cells #[.int .i64 y.d, .int .i64 y.m, .int .u64 (y.l : Int), .int .u64 (y.k : Int), .int .u64 (y.s : Int)] 81)
  go_enter Tryz.func78, Tryz.ntmps78
  go_wp2
  go_ret
  exact ⟨rfl, hf⟩
theorem cmpLays_cd (blk off size : Nat) (w : World) : CmpLays Tryz.prog 78 #[] CdR.cells 5 cmpCd blk off size w :=
  fun _ _ _ _ x y => cmpcd_any x.c y.c _ x.lo x.hi y.lo y.hi
theorem sortsCards (base : Nat) (A : Option Addr) (c : Nat) (xs : List CdR) (w : World) (hown : Own w base 81 5 A xs.length c (xs.flatMap CdR.cells)) (hlen : xs.length ≤ 1000000) :
    Calls Tryz.prog 77 #[.slice A xs.length c, .func (.func 78) #[] #[]] w fun e w' => e = .returned (.tuple #[]) ∧
      ∃ ys : List CdR, ys.Perm xs ∧ ys.Pairwise (fun x y => x.c.d ≤ y.c.d) ∧ Own w' base 81 5 A ys.length c (ys.flatMap CdR.cells) ∧ Fr (fun k => rowOf A = some k) w w' := by
  by_cases h0 : xs.length = 0
  · have hx : xs = [] := List.eq_nil_of_length_eq_zero h0
    subst hx
    have hcon := AnyF.slices_SortFunc_none Tryz.sortCards A c (.func (.func 78) #[] #[]) w
    refine Calls.mono hcon ?_
    rintro e w' ⟨rfl, rfl⟩
    exact ⟨rfl, [], List.Perm.refl _, List.Pairwise.nil, hown, Fr.refl _ _⟩
  · obtain ⟨g, rfl⟩ : ∃ g, A = some ⟨g, 0, none⟩ := by
      rcases hown.2 with ⟨_, hn⟩ | ⟨g, cap, cur, hv, _⟩
      · exact absurd hn h0
      · injection hv with hA _ _
        exact ⟨g, hA⟩
    have hrow := hown.row g rfl
    have eg : ∀ args w, (callFunc 78 args).run Tryz.prog w = .ok (.enter 78 args) w := enters_of Tryz.func78 (by kernel_rfl) rfl
    have hcon := AnyQ.slices_SortFunc Tryz.sortCards 5 Tryz.isAgg81 Tryz.sizeOf81 CdR.cells (fun _ => rfl) (fun x v hv => by simp [CdR.cells, Cd.cells] at hv; rcases hv with rfl | rfl | rfl | rfl | rfl <;> rfl) cmpCd swo_cd 78 #[] g 0 c xs.toArray w eg (cmpLays_cd g 0 _ w) (own_holds_g (enc := CdR.cells) (fun _ => rfl) (by decide) hown) hrow.2 (by simp; omega)
    refine Calls.mono hcon ?_
    rintro e w' ⟨rfl, d', n, os, hp, hs, rfl⟩
    have hds : d'.size = xs.length := by rw [hp.1]; simp
    have hperm : d'.toList.Perm xs := by
      have h1 := hp.2.2
      have e1 : d'.extract 0 xs.toArray.size = d' := by
        rw [show xs.toArray.size = d'.size from hp.1.symm]
        simp
      have e2 : xs.toArray.extract 0 xs.toArray.size = xs.toArray := by simp
      rw [e1, e2] at h1
      simpa using h1
    refine ⟨rfl, d'.toList, hperm, ?_, ?_, ?_⟩
    · rw [List.pairwise_iff_getElem]
      intro i j hi hj hij
      have h1 := hs i j (Nat.zero_le _) hij (by rw [← hp.1]; simpa using hj)
      rw [ltOf_cd] at h1
      have hi' : i < d'.size := by simpa using hi
      have hj' : j < d'.size := by simpa using hj
      rw [getElem!_pos d' i hi', getElem!_pos d' j hj', decide_eq_false_iff_not] at h1
      have h2 : d'.toList[i] = d'[i] := by simp
      have h3 : d'.toList[j] = d'[j] := by simp
      rw [h2, h3]
      omega
    · have h1 := own_sorted_g (enc := CdR.cells) (sz := 5) (fun _ => rfl) (by decide) (ys := d'.toList) n os hown (by omega) (by simpa using hds)
      simpa using h1
    · exact (sorted_fr w g n _ os).mono (fun k hk e => by have e' : k = g := e; subst e'; rfl)
/-- A row that rises strictly, sorted, is the same row. -/
theorem sorted_same {xs ys : List CdR} (hp : ys.Perm xs) (hs : ys.Pairwise (fun x y => x.c.d ≤ y.c.d)) (hx : xs.Pairwise (fun x y => x.c.d < y.c.d)) : ys = xs := by
  induction xs generalizing ys with
  | nil => exact List.Perm.eq_nil hp
  | cons x r ih =>
    cases ys with
    | nil => exact absurd hp.length_eq (by simp)
    | cons y q =>
      rw [List.pairwise_cons] at hs hx
      have hxy : y = x := by
        have hy : y ∈ x :: r := hp.subset (by simp)
        rcases List.mem_cons.1 hy with h | h
        · exact h
        · have h1 := hx.1 y h
          have hx' : x ∈ y :: q := hp.symm.subset (by simp)
          rcases List.mem_cons.1 hx' with h2 | h2
          · exact h2.symm
          · have h3 := hs.1 x h2
            omega
      subst hxy
      rw [ih (List.perm_cons y |>.1 hp) hs.2 hx.2]
end Oq
end Go.Proofs.YtafonabghnogaaaGreatDoor

namespace Go.Proofs.YtafonabghnogaaaGreatDoor
open Go.RowKit
attribute [local go_sem ↓] Go.wp_at_zero Go.wp_at_succ
namespace Oq
def NewPost (cards : List Cd) (w : World) (e : Ending) (w' : World) : Prop :=
  ∃ g : Gph, e = .returned (.pointer (some ⟨g.gb, 0, none⟩)) ∧ GAt w' w.heap.size g ∧ g.nodes = [] ∧ g.cards = cards ∧ Fr Non w w'
theorem cdr_flat (l : List CdR) : l.flatMap CdR.cells = (l.map CdR.c).flatMap Cd.cells := by
  rw [List.flatMap_map]
  rfl
set_option maxRecDepth 100000 in
set_option maxHeartbeats 1000000 in
theorem new_any (B c : Nat) (A : Option Addr) (l : List CdR) (w : World) (hr : Rd w B 5 A l.length (l.flatMap CdR.cells)) (hs : l.Pairwise (fun x y => x.c.d < y.c.d)) (hlen : l.length ≤ 1000000) (hpos : 0 < w.heap.size) (hcs : ∀ x ∈ l, x.c.s < 18446744073709551616) :
    Calls Tryz.prog 23 #[.slice A l.length c] w (NewPost (l.map CdR.c) w) := by
  have kc := Lib.hid (clone_card B l.length c A _ w hr (by rw [cdr_flat]; exact one1_cd _) hlen)
  have hpost : Hid (∀ (A1 : Option Addr) (c1 : Nat) (w1 w4 : World), Fr Non w w1 → Own w4 w.heap.size 81 5 A1 l.length c1 (l.flatMap CdR.cells) →
      Fr (fun k => rowOf A1 = some k) ((w1.alloc (.map #[] 0)).alloc (.cells #[.slice A1 l.length c1, .map (some w1.heap.size), .slice none 0 0] 123)) w4 → (∀ k, rowOf A1 = some k → w.heap.size ≤ k ∧ k < w1.heap.size) →
      NewPost (l.map CdR.c) w (.returned (.pointer (some ⟨w1.heap.size + 1, 0, none⟩))) w4) := by
    intro A1 c1 w1 w4 f1 o4 f4 hrow
    have hmb : ¬ rowOf A1 = some w1.heap.size := fun e => by have := (hrow _ e).2; omega
    have hgb : ¬ rowOf A1 = some (w1.heap.size + 1) := fun e => by have := (hrow _ e).2; omega
    have bg := Blk.new (w1.alloc (.map #[] 0)) 123 #[.slice A1 l.length c1, .map (some w1.heap.size), .slice none 0 0]
    rw [World.size_alloc] at bg
    have hm := ((MapAt.made w1).fr ((Fr.refl Non _).alloc (.cells #[.slice A1 l.length c1, .map (some w1.heap.size), .slice none 0 0] 123)) (fun e => e)).fr f4 hmb
    have sz := f1.size
    refine ⟨⟨w1.heap.size + 1, w1.heap.size, 0, A1, c1, l.map CdR.c, none, 0, []⟩, rfl, ?_, rfl, rfl, ?_⟩
    · refine ⟨?_, hpos, by show _ ≤ w1.heap.size + 1; omega, sz, ?_, Own.nil _ _ _ _, Nat.zero_le _, Nat.zero_le _, (fun n hn => absurd hn (List.not_mem_nil)), ?_, ?_, hm, fun n hn => absurd hn (List.not_mem_nil)⟩
      · have h1 := bg.fr f4 hgb
        show Blk w4 (w1.heap.size + 1) 123 #[.slice A1 (l.map CdR.c).length c1, .map (some w1.heap.size), .slice none 0 0]
        rw [List.length_map]
        exact h1
      · show Own w4 w.heap.size 81 5 A1 (l.map CdR.c).length c1 ((l.map CdR.c).flatMap Cd.cells)
        rw [List.length_map, ← cdr_flat]
        exact o4
      · show (l.map CdR.c).length ≤ 1000000
        rw [List.length_map]
        exact hlen
      · intro c hc
        obtain ⟨x, hx, rfl⟩ := List.mem_map.1 hc
        exact hcs x hx
    · exact ((f1.alloc _).alloc _).trans f4 (fun k hk e => absurd hk (by have := (hrow k e).1; omega))
  generalize NewPost (l.map CdR.c) w = POST at *
  have ks := Lib.hid (fun (A1 : Option Addr) (c1 : Nat) (w3 : World) (o : Own w3 w.heap.size 81 5 A1 l.length c1 (l.flatMap CdR.cells)) => sortsCards w.heap.size A1 c1 l w3 o hlen)
  have hsame := Lib.hid (fun (ys : List CdR) (hp : ys.Perm l) (hq : ys.Pairwise (fun x y => x.c.d ≤ y.c.d)) => sorted_same hp hq hs)
  clear hr hs hcs
  go_enter Tryz.func23, Tryz.ntmps23
  go_wp2_with (fail)
  refine (kc.out).mono ?_
  rintro _ w1 ⟨A1, c1, rfl, o1, f1⟩
  have hrow := o1.row
  have bg := Blk.new (w1.alloc (.map #[] 0)) 123 #[.slice A1 l.length c1, .map (some w1.heap.size), .slice none 0 0]
  rw [World.size_alloc] at bg
  have o3 := (o1.alloc (.map #[] 0)).alloc (.cells #[.slice A1 l.length c1, .map (some w1.heap.size), .slice none 0 0] 123)
  have g0 : ((w1.alloc (.map #[] 0)).alloc (.cells #[.slice A1 l.length c1, .map (some w1.heap.size), .slice none 0 0] 123)).cell? ⟨w1.heap.size + 1, 0, none⟩ = some (.slice A1 l.length c1) := bg.cell 0
  have kq := Lib.hid (ks.out A1 c1 _ o3)
  have hp := Lib.hid (fun (w4 : World) o f => hpost.out A1 c1 w1 w4 f1 o f hrow)
  have f1' := Lib.hid f1
  clear kc ks hpost o1 o3 hrow f1 bg
  have hmm := @run_makeMap Tryz.prog
  go_wp2_with (fail)
  refine (kq.out).mono ?_
  rintro _ w4 ⟨rfl, ys, hperm, hpw, o4, f4⟩
  obtain rfl := hsame.out ys hperm hpw
  have fin := Lib.hid (hp.out w4 o4 f4)
  clear kq hp hsame o4 f4 hperm hpw f1' g0
  go_wp2_with (fail)
  exact fin.out
end Oq
end Go.Proofs.YtafonabghnogaaaGreatDoor

namespace Go.Proofs.YtafonabghnogaaaGreatDoor
open Go.RowKit
attribute [local go_sem ↓] Go.wp_at_zero Go.wp_at_succ
namespace Oq
theorem pub_lt' (n : Nat) : Sg.pub n < 18446744073709551616 := Nat.lt_trans (Fd.pow_lt _ _) (by decide)
theorem cd_d (d m : Int) (l k s : Nat) : (Cd.mk d m l k s).d = d := rfl
theorem cd_s' (d m : Int) (l k s : Nat) : (Cd.mk d m l k s).s = s := rfl
theorem card_d (k : Nat) (m : Int) : (cardOf k m).d = (k : Int) + 1 := cd_d _ _ _ _ _
theorem card_s' (k : Nat) (m : Int) : (cardOf k m).s = Sg.pub (sec lSign (k + 1)) := cd_s' _ _ _ _ _
theorem cards_rise : ∀ (l : List Int) (i : Nat), i + l.length ≤ 1000 → ∃ xs : List CdR, xs.map CdR.c = cardsFrom i l ∧ xs.Pairwise (fun x y => x.c.d < y.c.d) ∧ (∀ x ∈ xs, (i : Int) < x.c.d) ∧ ∀ x ∈ xs, x.c.s < 18446744073709551616
  | [], i, _ => ⟨[], rfl, List.Pairwise.nil, by simp, by simp⟩
  | m :: r, i, h => by
    have h' : i + 1 + r.length ≤ 1000 := by rw [List.length_cons] at h; omega
    have hi : i + 1 ≤ 1000 := by omega
    obtain ⟨xs, h1, h2, h3, h4⟩ := cards_rise r (i + 1) h'
    refine ⟨⟨cardOf i m, by rw [card_d]; omega, by rw [card_d]; omega⟩ :: xs, ?_, ?_, ?_, ?_⟩
    · show cardOf i m :: xs.map CdR.c = cardOf i m :: cardsFrom (i + 1) r
      rw [h1]
    · refine List.pairwise_cons.2 ⟨fun x hx => ?_, h2⟩
      show (cardOf i m).d < x.c.d
      rw [card_d]
      have := h3 x hx
      omega
    · intro x hx
      rcases List.mem_cons.1 hx with rfl | hx
      · show (i : Int) < (cardOf i m).d
        rw [card_d]
        omega
      · have := h3 x hx
        omega
    · intro x hx
      rcases List.mem_cons.1 hx with rfl | hx
      · show (cardOf i m).s < _
        rw [card_s']
        exact pub_lt' _
      · exact h4 x hx
theorem newc_any (B n c : Nat) (A : Option Addr) (l : List Int) (w : World) (hn : Hid (l.length = n)) (hnm : n ≤ 1000) (hr : Rd w B 5 A n ((cardsFrom 0 l).flatMap Cd.cells)) (hpos : 0 < w.heap.size) :
    Calls Tryz.prog 23 #[.slice A n c] w (NewPost (cardsFrom 0 l) w) := by
  obtain ⟨xs, h1, h2, _, h4⟩ := cards_rise l 0 (by rw [hn.out]; omega)
  have hl : xs.length = n := by
    have := congrArg List.length h1
    rw [List.length_map, cardsFrom_len, hn.out] at this
    exact this
  rw [← h1] at hr ⊢
  rw [← hl] at hr ⊢
  rw [← cdr_flat] at hr
  exact new_any B c A xs w hr h2 (by omega) hpos h4
theorem GAt.ge {w : World} {base : Nat} {g : Gph} (h : GAt w base g) {k : Nat} (hk : g.own k) : base ≤ k := by
  rcases hk with e | e | e
  · rw [e]; exact h.gbase
  · rw [e]; exact h.mbase
  · exact (h.own.row k e).1
theorem KindsAt.own {w w' : World} {base : Nat} {g : Gph} (h : KindsAt w) (hg : GAt w base g) (hf : Fr g.own w w') : KindsAt w' := fun k hk => hf.cell (h k hk) (fun e => by have h1 := hg.ge e; have h2 := hg.pos; have h3 : base ≤ 0 := h1; omega)
theorem Blk.keepG {w w' : World} {base b : Nat} {g : Gph} {t : TypeId} {cs : Array Value} (h : Blk w b t cs) (hg : GAt w base g) (hf : Fr g.own w w') (ht : ¬ Gty t) : Blk w' b t cs := h.fr hf (fun e => ht (hg.types _ _ _ _ h e))
theorem OpL.own.keepG {w w' : World} {base bx : Nat} {g : Gph} {x : OpL} (h : x.own w bx) (hg : GAt w base g) (hf : Fr g.own w w') : x.own w' bx :=
  h.keepP hf hg.types (by unfold Gty; decide) (by unfold Gty; decide) (by unfold Gty; decide) (by unfold Gty; decide) (by unfold Gty; decide) (by unfold Gty; decide) (by unfold Gty; decide)
/-- A graph is kept where but a block of an operation turns. -/
theorem GAt.keepB {w w' : World} {base b : Nat} {g : Gph} {cs : Array Value} (h : GAt w base g) (hb : Blk w b 44 cs) (hf : Fr (One b) w w') : GAt w' base g where
  blk := h.blk.fr hf (fun e => Blk.ne h.blk hb (by decide) e)
  pos := h.pos
  gbase := h.gbase
  mbase := h.mbase
  crow := h.crow.fr hf (fun k hk e => by have e' : k = b := e; subst e'; exact h.crow.ne hb (by decide) hk)
  own := h.own.fr hf (fun k hk e => by have e' : k = b := e; subst e'; exact h.own.ne hb (by decide) hk)
  few := h.few
  mfew := h.mfew
  levs := h.levs
  cfew := h.cfew
  cok := h.cok
  map := h.map.fr hf (fun e => by have e' : g.mb = b := e; exact h.map.ismap _ _ _ (by rw [e']; exact hb))
  node := fun n hn => by
    have k := h.node n hn
    exact ⟨k.own.keepP hf (Types.one hb) (by decide) (by decide) (by decide) (by decide) (by decide) (by decide) (by decide), k.ok, k.id, k.set⟩
/-- An Add that takes. -/
def TakePost (base : Nat) (g : Gph) (l : List Pn) (w : World) (e : Ending) (w' : World) : Prop :=
  e = .returned (.int .i64 0) ∧ ∃ g' : Gph, GAt w' base g' ∧ g'.gb = g.gb ∧ g'.cards = g.cards ∧ g'.pns = l ∧ Fr g.own w w'
theorem add_takes {base : Nat} {g : Gph} {x : OpL} {w : World} {l : List Pn} {p : Pn} (hl : g.pns = l) (hg : GAt w base g) (hat : x.at w w.heap.size) (hok : x.op.ok) (hkn : KindsAt w) (he : addErr g.cards l x.op = 0) (hp : addPn l x.op = p) :
    Calls Tryz.prog 17 #[.pointer (some ⟨g.gb, 0, none⟩), .agg x.cells] w (TakePost base g (l ++ [p]) w) := by
  subst hl
  refine (add_any base g x w hg hat hok hkn).mono ?_
  rintro e w' ⟨rfl, h⟩
  rcases h with ⟨h0, _⟩ | ⟨_, g', h1, h2, _, h4, h5, h6, _⟩
  · exact absurd he h0
  · refine ⟨by rw [he], g', h1, h2, h4, ?_, h6⟩
    rw [h5, hp]
theorem add_leaves {base : Nat} {g : Gph} {x : OpL} {w : World} {l : List Pn} {err : Int} (hl : g.pns = l) (hg : GAt w base g) (hat : x.at w w.heap.size) (hok : x.op.ok) (hkn : KindsAt w) (he : addErr g.cards l x.op = err) (h0 : err ≠ 0) :
    Calls Tryz.prog 17 #[.pointer (some ⟨g.gb, 0, none⟩), .agg x.cells] w fun e w' => e = .returned (.int .i64 err) ∧ Fr Non w w' := by
  subst hl
  subst he
  refine (add_any base g x w hg hat hok hkn).mono ?_
  rintro e w' ⟨rfl, h⟩
  rcases h with ⟨_, hf⟩ | ⟨h1, _⟩
  · exact ⟨rfl, hf⟩
  · exact absurd h1 h0
theorem sgn_ok {o : Op} (h : o.ok) : (sgn o).ok := by
  have h1 : Sg.r (sec lSign o.by_.toNat) o.bare < 18446744073709551616 := Nat.lt_trans (Sg.r_lt _ _) (by decide)
  have h2 : Sg.s (sec lSign o.by_.toNat) o.bare < 18446744073709551616 := Nat.lt_trans (Sg.s_lt _ _) (by decide)
  unfold sgn
  generalize Sg.r (sec lSign o.by_.toNat) o.bare = R at *
  generalize Sg.s (sec lSign o.by_.toNat) o.bare = S at *
  exact { h with r := h1, s := h2 }
end Oq
end Go.Proofs.YtafonabghnogaaaGreatDoor

namespace Go.Proofs.YtafonabghnogaaaGreatDoor
open Go.RowKit
namespace Oq
/-- The chain: number i (from 0 on) has Seq i + 1, and but the one ahead of it for a parent. -/
def chO : Nat → Op
  | 0 => crOp 1
  | i + 1 => erOp 1 ((i : Int) + 2) 0 [(chO i).name]
theorem chO_by (i : Nat) : (chO i).by_ = 1 := by cases i <;> rfl
theorem chO_sq (i : Nat) : (chO i).sq = (i : Int) + 1 := by
  cases i with
  | zero => rfl
  | succ i => show ((i : Int) + 2) = ((i + 1 : Nat) : Int) + 1; omega
theorem chO_at (i : Nat) : (chO i).at_ = 0 := by cases i <;> rfl
theorem chO_named (i : Nat) (hi : i ≤ 100000) : (chO i).name.named = true := name_named (by rw [chO_by]; omega) (by rw [chO_sq]; omega)
theorem chO_chk (i : Nat) (hi : i ≤ 100000) : (chO i).chk = 0 := by
  cases i with
  | zero => exact crOp_chk (by decide)
  | succ i => exact erOp_chk (by decide) (by omega) (by decide) ⟨by simp, by simpa using chO_named i (by omega), List.pairwise_singleton _ _, by simp⟩
theorem chO_ne {i j : Nat} (h : i ≠ j) : (chO i).name ≠ (chO j).name := by
  intro e
  have h1 : (chO i).name.s = (chO j).name.s := by rw [e]
  have h2 : (chO i).sq = (chO j).sq := h1
  rw [chO_sq, chO_sq] at h2
  omega
def chN (i : Nat) : Pn := ⟨sgn (chO i), (chO i).name, fun q => decide (q < i), i + 1⟩
def chL (n : Nat) : List Pn := (List.range n).map chN
theorem chL_len (n : Nat) : (chL n).length = n := by simp [chL]
theorem chL_get {n i : Nat} (h : i < n) : (chL n)[i]? = some (chN i) := by simp [chL, h]
theorem chL_succ (n : Nat) : chL (n + 1) = chL n ++ [chN n] := by simp [chL, List.range_succ]
theorem chL_plc {n i : Nat} (h : i < n) : plc (chL n) (chO i).name = some i := by
  refine plc_eq (chL_get h) rfl (fun j m hj hm => ?_)
  rw [chL_get (by omega)] at hm
  obtain rfl := Option.some.inj hm
  exact chO_ne (by omega)
theorem chL_not {n i : Nat} (h : n ≤ i) : plc (chL n) (chO i).name = none := by
  refine plc_none (fun m hm => ?_)
  obtain ⟨j, hj, rfl⟩ := List.mem_map.1 hm
  have hj' := List.mem_range.1 hj
  exact chO_ne (by omega)
theorem ch_par (n : Nat) (q : Nat) : parB (chL (n + 1)) [(chO n).name] q = (q == n) := by
  unfold parB
  simp only [List.any_cons, List.any_nil, Bool.or_false, chL_plc (Nat.lt_succ_self n)]
  by_cases h : q = n
  · subst h; simp
  · have h1 : (q == n) = false := by simpa using h
    have h2 : (some n == some q) = false := by
      have : ¬ n = q := fun e => h e.symm
      simpa using this
    rw [h1, h2]
theorem ch_abv (n : Nat) (q : Nat) : abvB (chL (n + 1)) [(chO n).name] q = decide (q < n) := by
  unfold abvB upB
  simp only [List.any_cons, List.any_nil, Bool.or_false, chL_plc (Nat.lt_succ_self n)]
  rw [chL_get (Nat.lt_succ_self n)]
  rfl
theorem ch_last (n : Nat) (p : Nat → Bool) (hp : ∀ k, k < n → p k = true) : ∀ k, k ≤ n → lastTo (chL n) p 1 k = k := by
  intro k
  induction k with
  | zero => intro _; rfl
  | succ k ih =>
    intro hk
    have h1 : lastTo (chL n) p 1 (k + 1) = if ((sgn (chO k)).by_ == 1 && p k) = true then max (lastTo (chL n) p 1 k) (sgn (chO k)).sq else lastTo (chL n) p 1 k := by
      show (match (chL n)[k]? with | some m => if (m.o.by_ == 1 && p k) = true then max (lastTo (chL n) p 1 k) m.o.sq else lastTo (chL n) p 1 k | none => lastTo (chL n) p 1 k) = _
      rw [chL_get (by omega)]
      rfl
    have e1 : (sgn (chO k)).by_ = 1 := (sgn_by _).trans (chO_by k)
    have e2 : (sgn (chO k)).sq = (k : Int) + 1 := (sgn_sq _).trans (chO_sq k)
    rw [h1, e1, e2, hp k (by omega), ih (by omega)]
    simp
    omega
theorem ch_ahead (n : Nat) (p : Nat → Bool) (hp : p n = true) : aheadTo (chL (n + 1)) p 1 ((n : Int) + 2) (n + 1) = true := by
  have h1 : aheadTo (chL (n + 1)) p 1 ((n : Int) + 2) (n + 1) = (aheadTo (chL (n + 1)) p 1 ((n : Int) + 2) n || ((sgn (chO n)).by_ == 1 && p n && (sgn (chO n)).sq == ((n : Int) + 2) - 1)) := by
    show (match (chL (n + 1))[n]? with | some m => _ | none => _) = _
    rw [chL_get (by omega)]
    rfl
  have e1 : (sgn (chO n)).by_ = 1 := (sgn_by _).trans (chO_by n)
  have e2 : (sgn (chO n)).sq = (n : Int) + 1 := (sgn_sq _).trans (chO_sq n)
  rw [h1, e1, e2, hp]
  have e3 : ((n : Int) + 1 == (n : Int) + 2 - 1) = true := by
    rw [beq_iff_eq]; omega
  rw [e3]
  simp
theorem chL_ps (n : Nat) (hn : n ≤ 255) : psOf (chL (n + 1)) [(chO n).name] = fun q => decide (q < n + 1) := by
  funext q
  unfold psOf
  rw [ch_par, ch_abv]
  by_cases h1 : q < n
  · simp [h1, show q < 256 by omega, show q < n + 1 by omega]
  · by_cases h2 : q = n
    · subst h2; simp; omega
    · simp [h1, h2, show ¬ q < n + 1 by omega]
theorem chL_lvl (n : Nat) : lvl (chL (n + 1)) [(chO n).name] = n + 2 := by
  unfold lvl levOf
  simp only [List.foldl_cons, List.foldl_nil, chL_plc (Nat.lt_succ_self n)]
  rw [chL_get (Nat.lt_succ_self n)]
  show max 1 (n + 1 + 1) = n + 2
  omega
theorem chL_late (n : Nat) : late (chL (n + 1)) [(chO n).name] = 0 := by
  unfold late atOf
  simp only [List.foldl_cons, List.foldl_nil, chL_plc (Nat.lt_succ_self n)]
  rw [chL_get (Nat.lt_succ_self n)]
  have e1 : (sgn (chO n)).at_ = 0 := (sgn_at _).trans (chO_at n)
  show max 0 ((sgn (chO n)).at_) = 0
  rw [e1]
  rfl
theorem chL_clash (n : Nat) : clash (chL (n + 1)) [(chO n).name] = false := by
  unfold clash
  rw [List.any_eq_false]
  intro q _
  rw [ch_par, ch_abv]
  by_cases h : q = n
  · subst h; simp
  · simp [h]
/-- One card alone. -/
theorem card_one (c : Cd) (h : c.d = 1) : cardOf? [c] 1 = some c := by simp [cardOf?, h]
theorem ch_add (c : Cd) (hd : c.d = 1) (hs : c.s = Sg.pub (sec lSign 1)) (n : Nat) (hn : n < 200) : addErr [c] (chL n) (sgn (chO n)) = 0 := by
  have hby : (chO n).by_.toNat = 1 := by rw [chO_by]; rfl
  refine add_ok (c := c) (chO_chk n (by omega)) (chL_not (Nat.le_refl n)) (by rw [chL_len]; exact hn) (by rw [chO_by]; exact card_one c hd) (by rw [hby]; exact hs) ?_ ?_ ?_ ?_ ?_
  · cases n with
    | zero => exact .inr rfl
    | succ n => exact .inl (by show (8 : Int) ≠ 1; decide)
  · cases n with
    | zero => rfl
    | succ n =>
      show [(chO n).name].any _ = false
      simp [chL_plc (Nat.lt_succ_self n)]
  · cases n with
    | zero =>
      show clash _ [] = false
      unfold clash parB
      simp
    | succ n => exact chL_clash n
  · cases n with
    | zero => exact Int.le_refl _
    | succ n =>
      show late (chL (n + 1)) [(chO n).name] ≤ 0
      rw [chL_late]
      exact Int.le_refl _
  · cases n with
    | zero => rfl
    | succ n =>
      show seqBad (chL (n + 1)) (psOf (chL (n + 1)) [(chO n).name]) (chO (n + 1)) = false
      rw [chL_ps n (by omega)]
      unfold seqBad
      rw [chO_by, chO_sq, chL_len, ch_last (n + 1) _ (fun k hk => by simpa using hk) (n + 1) (Nat.le_refl _)]
      have h2 := ch_ahead n (fun q => decide (q < n + 1)) (by simp)
      rw [show ((n + 1 : Nat) : Int) + 1 = (n : Int) + 2 by omega, h2]
      simp
theorem ch_node (n : Nat) (hn : n ≤ 200) : addPn (chL n) (sgn (chO n)) = chN n := by
  unfold addPn chN
  rw [sgn_name]
  have hp : (sgn (chO n)).past = (chO n).past := sgn_past _
  rw [hp]
  cases n with
  | zero =>
    congr 1
    funext q
    show psOf (chL 0) [] q = decide (q < 0)
    unfold psOf abvB parB
    simp
  | succ n =>
    have e1 : psOf (chL (n + 1)) (chO (n + 1)).past = fun q => decide (q < n + 1) := chL_ps n (by omega)
    have e2 : lvl (chL (n + 1)) (chO (n + 1)).past = n + 2 := chL_lvl n
    rw [e1, e2]
theorem ch_full (c : Cd) (R S : Nat) : addErr [c] (chL 200) ({ chO 200 with r := R, s := S } : Op) = 3 :=
  add_full (by rw [resig_chk]; exact chO_chk 200 (by omega)) (by rw [resig_name]; exact chL_not (by omega)) (by rw [chL_len]; omega)
theorem ch_twice (c : Cd) (n i : Nat) (h : i < n) (hn : n ≤ 1000) : addErr [c] (chL n) (sgn (chO i)) = 5 :=
  add_twice (by rw [sgn_chk]; exact chO_chk i (by omega)) (by rw [sgn_name, chL_plc h]; rfl)
/-- The names of a chain, in their row. -/
theorem ch_row (n : Nat) : ((chL n).map Pn.id).Pairwise (fun x y => Id.less x y = true) := by
  rw [List.pairwise_map]
  unfold chL
  rw [List.pairwise_map]
  refine List.Pairwise.imp_of_mem ?_ (List.pairwise_lt_range)
  intro i j _ _ hij
  show Id.less (chO i).name (chO j).name = true
  unfold Id.less
  have e1 : (chO i).name.b = (chO j).name.b := by show (chO i).by_ = (chO j).by_; rw [chO_by, chO_by]
  have e2 : (chO i).name.s = (i : Int) + 1 := chO_sq i
  have e3 : (chO j).name.s = (j : Int) + 1 := chO_sq j
  rw [if_pos e1, if_neg (by omega), e2, e3]
  simp
  omega
end Oq
end Go.Proofs.YtafonabghnogaaaGreatDoor

namespace Go.Proofs.YtafonabghnogaaaGreatDoor
open Go.RowKit
attribute [local go_sem ↓] Go.wp_at_zero Go.wp_at_succ
namespace Oq
attribute [local go_sem ↓] loadAt_op storeAt_op
attribute [local go_sem] Bool.not_false Bool.not_true
/-- Where a first operation lies. -/
def crL (b : Int) : OpL := { OpL.zero with by_ := b, sq := 1, kind := 1 }
theorem crL_op (b : Int) : (crL b).op = crOp b := rfl
theorem crL_own (b : Int) (w : World) (base : Nat) : (crL b).own w base :=
  ⟨RowAt.nil _ _ _ _, RowAt.nil _ _ _ _, (fun _ h => absurd h List.not_mem_nil), RowAt.nil _ _ _ _, RowAt.nil _ _ _ _, RowAt.nil _ _ _ _, RowAt.nil _ _ _ _, RowAt.nil _ _ _ _, (fun _ h => absurd h List.not_mem_nil)⟩
theorem crOp_ok (b : Int) (hb : 1 ≤ b ∧ b ≤ 12) : (crOp b).ok :=
  ⟨⟨by show _ ≤ b; omega, by show b ≤ _; omega⟩, I64_1, I64_1, zero_I64, ⟨Nat.zero_le _, fun _ h => absurd h List.not_mem_nil⟩, zero_I64, zero_I64, zero_I64, zero_I64,
   ⟨Nat.zero_le _, fun _ h => absurd h List.not_mem_nil⟩, ⟨zero_I64, zero_I64, zero_U64⟩, zero_I64, Nat.zero_le _, ⟨Nat.zero_le _, fun _ h => absurd h List.not_mem_nil⟩, ⟨zero_I64, zero_I64, zero_U64⟩,
   ⟨Nat.zero_le _, fun _ h => absurd h List.not_mem_nil⟩, zero_I64, zero_I64, ⟨Nat.zero_le _, fun _ h => absurd h List.not_mem_nil⟩, zero_U64, ⟨Nat.zero_le _, fun _ h => absurd h List.not_mem_nil⟩, zero_U64, zero_U64⟩
/-- What Signed gives of a first operation of device 1. -/
def FirstPost (w : World) (r : Ending) (w' : World) : Prop := ∃ y : OpL, r = .returned (.agg y.cells) ∧ y.op = sgn (crOp 1) ∧ (∀ wz base, y.own wz base) ∧ Fr Non w w'
theorem first_any (w : World) : Calls Tryz.prog 15 #[.agg #[.int .i64 1, .int .i64 1, .int .i64 1, .int .i64 0, .slice none 0 0, .int .i64 0, .int .i64 0, .int .i64 0, .int .i64 0, .slice none 0 0, .int .i64 0, .int .i64 0, .int .u64 0, .int .i64 0, .slice none 0 0, .slice none 0 0, .int .i64 0, .int .i64 0, .int .u64 0, .slice none 0 0, .int .i64 0, .int .i64 0, .slice none 0 0, .int .u64 0, .slice none 0 0, .int .u64 0, .int .u64 0]] w (FirstPost w) := by
  have h := signed11_eq (crL 1) 1 w (by rw [show (crL 1).by_ = 1 from rfl, IntKind.wrap_u64]; rfl) (by decide) (crL_own 1 w 0).at (by rw [crL_op]; exact crOp_ok 1 (by decide))
  refine Calls.mono h ?_
  rintro r w' ⟨h1, h2⟩
  exact ⟨_, h1, sgn_of _ _ (crL_op 1) 1 rfl _ rfl, (fun wz base => own_sig (crL_own 1 wz base) _ _), h2⟩
theorem chO_ok (i : Nat) (hi : i ≤ 1000) : (chO i).ok := by
  cases i with
  | zero => exact crOp_ok 1 (by decide)
  | succ i => exact erOp_ok (by decide) (by omega) (by decide) ⟨by simp, fun x hx => by obtain rfl := List.mem_singleton.1 hx; exact name_ok (chO_ok i (by omega))⟩
/-- A place's node, out of what a graph has. -/
theorem node_at {g : Gph} {l : List Pn} (hl : g.pns = l) {i : Nat} {p : Pn} (h : l[i]? = some p) : ∃ n, g.nodes[i]? = some n ∧ n.pn = p := by
  subst hl
  unfold Gph.pns at h
  rw [List.getElem?_map] at h
  exact Option.map_eq_some_iff.1 h
theorem picks_all (l : List NodeG) : ∀ k, k ≤ l.length → picks l (fun _ => true) k = (l.take k).map NodeG.id := by
  intro k
  induction k with
  | zero => intro _; rfl
  | succ k ih =>
    intro hk
    have hx : l[k]? = some l[k] := List.getElem?_eq_getElem (by omega)
    rw [picks_snoc l _ k hx, ih (by omega), take_snoc' hx, List.map_append]
    rfl
/-- All names of a graph whose names rise. -/
theorem all_row {g : Gph} {l : List Pn} (hl : g.pns = l) {ids : List Id} (hp : ids.Perm (picks g.nodes (fun _ => true) g.nodes.length)) (hs : ids.Pairwise (fun x y => Id.less y x = false)) (hr : (l.map Pn.id).Pairwise (fun x y => Id.less x y = true)) : ids = l.map Pn.id := by
  have h1 : picks g.nodes (fun _ => true) g.nodes.length = l.map Pn.id := by
    subst hl
    rw [picks_all _ _ (Nat.le_refl _), List.take_of_length_le (Nat.le_refl _)]
    unfold Gph.pns
    rw [List.map_map]
    rfl
  rw [h1] at hp
  exact RowW.unique hs (hr.imp (fun h => Id.less_as h)) hp
theorem idn_any (y : OpL) (nm : Id) (hn : y.op.name = nm) (w : World) (hat : y.at w w.heap.size) (hok : y.op.ok) : Calls Tryz.prog 35 #[.agg y.cells] w fun e w' => e = .returned (.agg #[.int .i64 nm.b, .int .i64 nm.s, .int .u64 (nm.u : Int)]) ∧ Fr Non w w' := by
  have k := id11_any y w hat hok
  obtain ⟨b, s, u⟩ := nm
  unfold Op.name at hn
  injection hn with h1 h2 h3
  rw [h3, show y.by_ = b from h1, show y.sq = s from h2] at k
  exact k
theorem sort_one (x : Id) : sortIds [x] = [x] := rfl
set_option maxRecDepth 100000 in
set_option maxHeartbeats 8000000 in
theorem graphFull_of (hlv : ∀ w : World, KindsAt w → Calls Tryz.prog 19 #[] w (BoolPost true w)) (bad : Bool) (w : World) (hk : KindsAt w) : Calls Tryz.prog 8 #[.bool bad] w (BoolPost true w) := by
  have hi : (Tryz.prog.info? 44).map (·.size) = some 27 := by kernel_rfl
  have hpos : 0 < w.heap.size := World.block_lt_of_cell? w _ (hk 0 (by decide))
  have f0 : Fr Non w (w.alloc (.cells #[.int .i64 1] 3)) := (Fr.refl Non w).alloc _
  have kc := Lib.hid (cards_any 1 1 (some ⟨w.heap.size, 0, none⟩) [1] (w.alloc (.cells #[.int .i64 1] 3)) rfl (by decide) ((Rd.blk (n := 1) (size := 1) (l := [1].map Iv) (Blk.new w 3 #[.int .i64 1]) rfl)))
  have hcd : Hid (cardsFrom 0 [1] = [cardOf 0 1]) := rfl
  have hc1 : Hid ((cardOf 0 1).d = 1) := card_d 0 1
  have hc2 : Hid ((cardOf 0 1).s = Sg.pub (sec lSign 1)) := card_s' 0 1
  generalize cardOf 0 1 = cd at *
  have hkH := Lib.hid hk
  unfold BoolPost at hlv
  replace hlv := Lib.hid hlv
  have hfin : Hid (∀ wz, Fr Non w wz → BoolPost true w (.returned (.bool true)) wz) := fun wz h => ⟨rfl, h⟩
  generalize BoolPost true w = POST at *
  clear hk
  go_enter Tryz.func8, Tryz.ntmps8
  go_wp2_with (fail)
  refine (kc.out).mono ?_
  rintro _ w1 ⟨A1, c1, rfl, o1, f1⟩
  have fr1 := f0.trans f1 (fun _ _ e => e)
  have h1s := fr1.size
  have kn := Lib.hid (newc_any w1.heap.size 1 c1 A1 [1] w1 rfl (by decide) o1.rd (by omega))
  clear kc f0 f1 o1
  go_wp2_with (fail)
  refine (kn.out).mono ?_
  rintro _ w2 ⟨g, rfl, hg, hgn, hgc, f2⟩
  have fr2 := fr1.trans f2 (fun _ _ e => e)
  have hpn : Hid (g.pns = chL 0) := by show _ = _; unfold Gph.pns; rw [hgn]; rfl
  have hcs : Hid (g.cards = [cd]) := hgc.trans hcd.out
  obtain ⟨gb, hgb⟩ := hid_ex g.gb
  rw [hgb.out]
  have kf := Lib.hid (first_any w2)
  clear kn hgn hgc hcd f2 fr1
  go_upto_region 5 with (first
    | (go_at_call 15; (with_reducible refine (kf.out).mono ?_); rintro _ w3 ⟨y0, rfl, hyop, hyown, f3⟩; have hg3 := hg.fr f3; have fr3 := fr2.trans f3 (fun _ _ e => e); have bz := Blk.new w3 44 #[.int .i64 0, .int .i64 0, .int .i64 0, .int .i64 0, .slice none 0 0, .int .i64 0, .int .i64 0, .int .i64 0, .int .i64 0, .slice none 0 0, .int .i64 0, .int .i64 0, .int .u64 0, .int .i64 0, .slice none 0 0, .slice none 0 0, .int .i64 0, .int .i64 0, .int .u64 0, .slice none 0 0, .int .i64 0, .int .i64 0, .slice none 0 0, .int .u64 0, .slice none 0 0, .int .u64 0, .int .u64 0]; have honey := one_cells y0; clear kf hg fr2 f3)
    | (refine wpList_store_row rfl 44 (.tmp 4) (.tmp 15) rfl rfl rfl rfl bz hi rfl honey ?_))
  have f34 : Fr Non w3 ((w3.alloc (.cells #[.int .i64 0, .int .i64 0, .int .i64 0, .int .i64 0, .slice none 0 0, .int .i64 0, .int .i64 0, .int .i64 0, .int .i64 0, .slice none 0 0, .int .i64 0, .int .i64 0, .int .u64 0, .int .i64 0, .slice none 0 0, .slice none 0 0, .int .i64 0, .int .i64 0, .int .u64 0, .slice none 0 0, .int .i64 0, .int .i64 0, .slice none 0 0, .int .u64 0, .slice none 0 0, .int .u64 0, .int .u64 0] 44)).setRow w3.heap.size y0.cells) := ((Fr.refl Non w3).alloc _).setRow (g := w3.heap.size) (fun h => absurd h (Nat.lt_irrefl _)) y0.cells
  have bo := bz.setRow (cs := y0.cells)
  have hob : w.heap.size ≤ w3.heap.size := fr3.size
  obtain ⟨ob, hobe⟩ := hid_ex w3.heap.size
  rw [hobe.out] at bo f34 hob ⊢
  generalize (w3.alloc (.cells #[.int .i64 0, .int .i64 0, .int .i64 0, .int .i64 0, .slice none 0 0, .int .i64 0, .int .i64 0, .int .i64 0, .int .i64 0, .slice none 0 0, .int .i64 0, .int .i64 0, .int .u64 0, .int .i64 0, .slice none 0 0, .slice none 0 0, .int .i64 0, .int .i64 0, .int .u64 0, .slice none 0 0, .int .i64 0, .int .i64 0, .slice none 0 0, .int .u64 0, .slice none 0 0, .int .u64 0, .int .u64 0] 44)).setRow ob y0.cells = w4 at *
  have hg4 := hg3.fr f34
  have fr4 := fr3.trans f34 (fun _ _ e => e)
  have hk4 : KindsAt w4 := hkH.out.fr fr4
  have hb1 : w.heap.size ≤ w1.heap.size := h1s
  clear bz honey hg3 fr3 f34 hobe
  go_wp2_with (fail)
  go_loopw [5] (fun v wr => ∃ (j : Nat) (y : OpL) (q : Gph), v = .int .i64 ((j : Int) + 2) ∧ j ≤ 200 ∧ Hid (y.op = sgn (chO j)) ∧ Hid (y.own wr 0) ∧ Hid (Blk wr ob 44 y.cells) ∧ Hid (GAt wr w1.heap.size q) ∧ Hid (q.gb = gb) ∧ Hid (q.cards = [cd]) ∧ Hid (q.pns = chL j) ∧ Hid (Fr Non w wr) ∧ Hid (KindsAt wr)) (fun v _ => 202 - (intOf v).toNat)
  case atStart => exact ⟨0, y0, g, rfl, by omega, hyop, hyown w4 0, bo, hg4, hgb.out, hcs.out, hpn.out, fr4, hk4⟩
  case round =>
    clear hg4 fr4 hk4 bo hyop hyown hpn hcs hgb
    obtain ⟨j, y, q, rfl, hj, hyop, hyown, hbo, hq, hqb, hqc, hqp, hfr, hkr⟩ := hrel
    by_cases hlt : j < 200
    · have hyok : y.op.ok := by rw [hyop.out]; exact sgn_ok (chO_ok j (by omega))
      have hlx := ldS_blk (P := Tryz.prog) ob 44 Tryz.underlying44 rfl (cs := y.cells) hi
      have ka := add_takes (l := chL j) (p := chN j) hqp.out hq.out hyown.out.at hyok hkr.out (by rw [hqc.out, hyop.out]; exact ch_add cd hc1.out hc2.out j hlt) (by rw [hyop.out]; exact ch_node j (by omega))
      rw [hqb.out, ← chL_succ] at ka
      replace ka := Lib.hid ka
      have hnm0 : y.op.name = (chO j).name := by rw [hyop.out, sgn_name]
      have hnmok : (chO j).name.ok := name_ok (chO_ok j (by omega))
      have hnext : Hid (erOp 1 ((j : Int) + 2) 0 (sortIds [(chO j).name]) = chO (j + 1)) := by show _ = _; rw [sort_one]; rfl
      obtain ⟨nm, hnm⟩ := hid_ex (chO j).name
      rw [hnm.out] at hnm0 hnmok hnext
      replace hnm0 := Lib.hid hnm0
      have bo := hbo.out
      have t1 : decide ((j : Int) + 2 ≤ 201) = true := by rw [decide_eq_true_iff]; omega
      have t2 : (1 : Int) ≤ (j : Int) + 2 := by omega
      have t3 : (j : Int) + 2 ≤ 2147483647 := by omega
      clear hlv hfin hbo hyop hc1 hc2 hqp
      go_upto_region 10 with (go_at_call 17; (with_reducible refine (ka.out).mono ?_); rintro _ w5 ⟨rfl, q2, hq2, hq2b, hq2c, hq2p, F5⟩)
      have bo5 := Blk.keepG bo hq.out F5 (by unfold Gty; decide)
      have hyown5 := hyown.out.keepG hq.out F5
      have hk5 := KindsAt.own hkr.out hq.out F5
      have fr5 : Fr Non w w5 := hfr.out.trans F5 (fun k hk e => by have h1 := hq.out.ge e; omega)
      have kid := Lib.hid (idn_any y nm hnm0.out w5 hyown5.at hyok)
      have hqb5 : Hid (q2.gb = gb) := hq2b.trans hqb.out
      have hqc5 : Hid (q2.cards = [cd]) := hq2c.trans hqc.out
      have hqp5 : Hid (q2.pns = chL (j + 1)) := hq2p
      clear ka bo hyown hkr hfr hqb hqc hq hq2b hq2c hq2p F5 hyown5
      go_wp2_with (first
        | (go_at_call 35; (with_reducible refine (kid.out).mono ?_); rintro _ w6 ⟨rfl, f6⟩; have bo6 := bo5.fr f6 (fun e => e); have fr6 := fr5.trans f6 (fun _ _ e => e); have hk6 := hk5.fr f6; have hq6 := hq2.fr f6; have ke := Lib.hid (erase_any 1 ((j : Int) + 2) 0 _ 1 1 (some ⟨w6.heap.size, 0, none⟩) [nm] (w6.alloc (.cells #[.int .i64 nm.b, .int .i64 nm.s, .int .u64 (nm.u : Int)] 38)) (by decide) ⟨t2, t3⟩ (by decide) rfl (Rd.blk (n := 1) (size := 3) (l := [nm].flatMap Id.cells) (Blk.new w6 38 #[.int .i64 nm.b, .int .i64 nm.s, .int .u64 (nm.u : Int)]) rfl) (by decide) (by intro z hz; obtain rfl := List.mem_singleton.1 hz; exact hnmok)); clear kid f6)
        | (go_at_call 41; go_loud (with_reducible refine (ke.out).mono ?_); rintro _ w7 ⟨y2, rfl, hy2, hy2o, f7⟩; have fa : Fr Non w6 (w6.alloc (.cells #[.int .i64 nm.b, .int .i64 nm.s, .int .u64 (nm.u : Int)] 38)) := (Fr.refl Non w6).alloc _; have f67 := fa.trans f7 (fun _ _ e => e); have bo7 := bo6.fr f67 (fun e => e); have fr7 := fr6.trans f67 (fun _ _ e => e); have hk7 := hk6.fr f67; have hq7 := hq6.fr f67; have honey := one_cells y2; have hy2n : Hid (y2.op = sgn (chO (j + 1))) := hy2.trans (congrArg sgn hnext.out); clear ke fa f67 f7 hy2 bo6 fr6 hk6 hq6)
        | (refine wpList_store_row rfl 44 (.tmp 4) (.tmp 28) rfl rfl rfl rfl bo7 hi rfl honey ?_))
      have fz : Fr (One ob) w7 (w7.setRow ob y2.cells) := (Fr.refl (One ob) w7).setRow (g := ob) (fun _ => rfl) y2.cells
      have bo8 : Hid (Blk (w7.setRow ob y2.cells) ob 44 y2.cells) := bo7.setRow (cs := y2.cells)
      have hq8 : Hid (GAt (w7.setRow ob y2.cells) w1.heap.size q2) := hq7.keepB bo7 fz
      have hy8 : Hid (y2.own (w7.setRow ob y2.cells) 0) := (hy2o.keepP fz (Types.one bo7) (by decide) (by decide) (by decide) (by decide) (by decide) (by decide) (by decide)).lower (Nat.zero_le _)
      have fr8 : Hid (Fr Non w (w7.setRow ob y2.cells)) := fr7.trans fz (fun k hk e => by have e' : k = ob := e; omega)
      have hk8 : Hid (KindsAt (w7.setRow ob y2.cells)) := hkH.out.fr fr8.out
      clear fz bo7 hq7 hy2o fr7 hk7 honey
      generalize w7.setRow ob y2.cells = w8 at *
      go_wp2_with (fail)
      go_roundw
      case rel => exact ⟨j + 1, y2, q2, by go_num, by omega, hy2n, hy8, bo8, hq8, hqb5, hqc5, hqp5, fr8, hk8⟩
      case measure => simp [intOf]; omega
    · obtain rfl : j = 200 := by omega
      have t1 : decide (((200 : Nat) : Int) + 2 ≤ 201) = false := by decide
      have hplc : place q.nodes (chO 199).name = some 199 := by rw [← plc_pns]; exact (congrArg (fun l => plc l (chO 199).name) hqp.out).trans (chL_plc (by decide))
      obtain ⟨n9, hn9, hpn9⟩ := node_at hqp.out (chL_get (n := 200) (i := 199) (by decide))
      have hop9 : n9.x.op = sgn (chO 199) := congrArg Pn.o hpn9
      have hlv9 : n9.lev = 200 := congrArg Pn.lev hpn9
      have hlen : q.nodes.length = 200 := by have h := congrArg List.length hqp.out; unfold Gph.pns at h; rw [List.length_map, chL_len] at h; exact h
      have hnm9 : (chO 199).name.ok := name_ok (chO_ok 199 (by decide))
      have hopof : q.opOf (chO 199).name = some n9.x := by unfold Gph.opOf; rw [hplc]; simp [hn9]
      have hlevel : q.level (chO 199).name = 200 := by unfold Gph.level; rw [hplc]; simp [hn9, hlv9]
      have hrow : Hid (∀ ids : List Id, ids.Perm (picks q.nodes (fun _ => true) q.nodes.length) → ids.Pairwise (fun x y => Id.less y x = false) → ids = (chL 200).map Pn.id) := fun ids hp hs => all_row hqp.out hp hs (ch_row 200)
      have hl9 : ((chL 200).map Pn.id)[199]? = some (chO 199).name := by rw [List.getElem?_map, chL_get (by decide)]; rfl
      have hll : ((chL 200).map Pn.id).length = 200 := by rw [List.length_map, chL_len]
      obtain ⟨LL, hLL⟩ := hid_ex ((chL 200).map Pn.id)
      rw [hLL.out] at hrow hl9 hll
      obtain ⟨nm, hnm⟩ := hid_ex (chO 199).name
      rw [hnm.out] at hnm9 hopof hlevel hl9
      have kall : Hid (Calls Tryz.prog 21 #[.pointer (some ⟨gb, 0, none⟩)] wr fun e w' => ∃ A c, e = .returned (.slice A 200 c) ∧ Own w' wr.heap.size 38 3 A 200 c (LL.flatMap Id.cells) ∧ Fr Non wr w') := by
        have h := gall_any w1.heap.size q wr sortsIds hq.out
        rw [hqb.out] at h
        refine Calls.mono h ?_
        rintro e w' ⟨A, c, ids, rfl, h1, h2, h3, h4⟩
        obtain rfl := hrow.out ids h1 h2
        rw [hll] at h3 ⊢
        exact ⟨A, c, rfl, h3, h4⟩
      have kop := Lib.hid (fun w' (h : Fr Non wr w') => gop_any w1.heap.size q nm w' (hq.out.fr h) hnm9)
      rw [hopof, hqb.out] at kop
      have kadd9 : Hid (∀ (y9 : OpL) (w' : World), GAt w' w1.heap.size q → KindsAt w' → y9.op = sgn (chO 199) → y9.at w' w'.heap.size → Calls Tryz.prog 17 #[.pointer (some ⟨gb, 0, none⟩), .agg y9.cells] w' fun e w'' => e = .returned (.int .i64 5) ∧ Fr Non w' w'') := by
        intro y9 w' h1 hk' h2 h3
        have k := add_leaves (x := y9) (l := chL 200) (err := 5) hqp.out h1 h3 (by rw [h2]; exact sgn_ok (chO_ok 199 (by decide))) hk' (by rw [hqc.out, h2]; exact ch_twice cd 200 199 (by decide) (by decide)) (by decide)
        rw [hqb.out] at k
        exact k
      have kadd : Hid (∀ (z : OpL) (R S : Nat) (w' : World), GAt w' w1.heap.size q → KindsAt w' → z.op = { chO 200 with r := R, s := S } → z.op.ok → z.at w' w'.heap.size → Calls Tryz.prog 17 #[.pointer (some ⟨gb, 0, none⟩), .agg z.cells] w' fun e w'' => e = .returned (.int .i64 3) ∧ Fr Non w' w'') := by
        intro z R S w' h1 hk' h2 hok' h3
        have k := add_leaves (x := z) (l := chL 200) (err := 3) hqp.out h1 h3 hok' hk' (by rw [hqc.out, h2]; exact ch_full cd R S) (by decide)
        rw [hqb.out] at k
        exact k
      have klen := Lib.hid (fun w' (h : GAt w' w1.heap.size q) => len_any w1.heap.size q w' h)
      rw [hlen, hqb.out] at klen
      have klev := Lib.hid (fun w' (h : GAt w' w1.heap.size q) => level_any w1.heap.size q nm w' h hnm9)
      rw [hlevel, hqb.out] at klev
      obtain ⟨R0, S0, hsg, _⟩ := sgn_ex (chO 200)
      have hyz : y.op = { chO 200 with r := R0, s := S0 } := hyop.out.trans hsg
      have hyok : y.op.ok := by rw [hyop.out]; exact sgn_ok (chO_ok 200 (by decide))
      have hyzok : ({ y with r := 0, s := 0 } : OpL).op.ok := by rw [resig_op]; exact { hyok with r := zero_U64, s := zero_U64 }
      have hyz0 : ({ y with r := 0, s := 0 } : OpL).op = { chO 200 with r := 0, s := 0 } := by rw [resig_op, hyz]
      replace hyz := Lib.hid hyz
      replace hyz0 := Lib.hid hyz0
      replace hsg := Lib.hid hsg
      replace hop9 := Lib.hid hop9
      obtain ⟨x9, hx9⟩ := hid_ex n9.x
      rw [hx9.out] at kop hop9
      clear hplc hn9 hpn9 hlv9 hlen hopof hlevel hrow hll hLL hnm hqp hqc hqb hc1 hc2 hyop hsg hx9
      go_upto_region 12 with (go_at_call 21; (with_reducible refine (kall.out).mono ?_); rintro _ w5 ⟨A5, c5, rfl, o5, f5⟩)
      obtain ⟨g5, rfl, _, hg5, hcell5, _, _⟩ := Own.setAt o5 (j := 599) (by decide) (.int .i64 0)
      have hids : ∀ jj, jj < 3 → ∀ u, nm.cells[jj]? = some u → w5.cell? ⟨g5, 199 * 3 + jj, none⟩ = some u := by
        intro jj hjj u hu
        obtain ⟨g6, hA6, _, _, hc6, _, _⟩ := Own.setAt o5 (j := 199 * 3 + jj) (by omega) (.int .i64 0)
        have hgg : g5 = g6 := by injection hA6 with e; injection e
        subst hgg
        exact hc6 u (by rw [flat_get (f := Id.cells) (fun _ => rfl) LL 199 jj nm hl9 hjj]; exact hu)
      have k0 : w5.cell? ⟨g5, 597, none⟩ = some (.int .i64 nm.b) := hids 0 (by decide) _ rfl
      have k1 : w5.cell? ⟨g5, 598, none⟩ = some (.int .i64 nm.s) := hids 1 (by decide) _ rfl
      have k2 : w5.cell? ⟨g5, 599, none⟩ = some (.int .u64 (nm.u : Int)) := hids 2 (by decide) _ rfl
      have ko5 := Lib.hid (kop.out w5 f5)
      unfold OpOfPost at ko5
      have bo5 := hbo.out.fr f5 (fun e => e)
      have hq5 := hq.out.fr f5
      have hk5 := hkr.out.fr f5
      have hy5 := hyown.out.non f5
      have fr5 := hfr.out.trans f5 (fun _ _ e => e)
      have o5' := o5
      clear hids hcell5 kall kop hl9 o5 f5 hbo hq hkr hyown hfr
      go_upto_region 15 with (first
        | (go_at_call 36; (with_reducible refine (ko5.out).mono ?_); rintro _ w6 ⟨y9, rfl, hy9, hy9o, f6⟩; have bo6 := bo5.fr f6 (fun e => e); have hq6 := hq5.fr f6; have hk6 := hk5.fr f6; have hy6 := hy5.non f6; have fr6 := fr5.trans f6 (fun _ _ e => e); have o6 := o5'.fr f6 (fun _ _ e => e); have j0 := f6.cell k0 (fun e => e); have j1 := f6.cell k1 (fun e => e); have j2 := f6.cell k2 (fun e => e); have bz := Blk.new w6 44 #[.int .i64 0, .int .i64 0, .int .i64 0, .int .i64 0, .slice none 0 0, .int .i64 0, .int .i64 0, .int .i64 0, .int .i64 0, .slice none 0 0, .int .i64 0, .int .i64 0, .int .u64 0, .int .i64 0, .slice none 0 0, .slice none 0 0, .int .i64 0, .int .i64 0, .int .u64 0, .slice none 0 0, .int .i64 0, .int .i64 0, .slice none 0 0, .int .u64 0, .slice none 0 0, .int .u64 0, .int .u64 0]; have honey := one_cells y9; clear ko5 bo5 hq5 hk5 hy5 fr5 o5' k0 k1 k2 f6)
        | (refine wpList_store_row rfl 44 (.tmp 7) (.tmp 40) rfl rfl rfl rfl bz hi rfl honey ?_))
      have F67 : Fr Non w6 ((w6.alloc (.cells #[.int .i64 0, .int .i64 0, .int .i64 0, .int .i64 0, .slice none 0 0, .int .i64 0, .int .i64 0, .int .i64 0, .int .i64 0, .slice none 0 0, .int .i64 0, .int .i64 0, .int .u64 0, .int .i64 0, .slice none 0 0, .slice none 0 0, .int .i64 0, .int .i64 0, .int .u64 0, .slice none 0 0, .int .i64 0, .int .i64 0, .slice none 0 0, .int .u64 0, .slice none 0 0, .int .u64 0, .int .u64 0] 44)).setRow w6.heap.size y9.cells) := ((Fr.refl Non w6).alloc _).setRow (g := w6.heap.size) (fun h => absurd h (Nat.lt_irrefl _)) y9.cells
      have bx7 := bz.setRow (cs := y9.cells)
      have hobx : ob < w6.heap.size := bo6.lt
      obtain ⟨xb, hxb⟩ := hid_ex w6.heap.size
      rw [hxb.out] at bx7 F67 hobx ⊢
      generalize (w6.alloc (.cells #[.int .i64 0, .int .i64 0, .int .i64 0, .int .i64 0, .slice none 0 0, .int .i64 0, .int .i64 0, .int .i64 0, .int .i64 0, .slice none 0 0, .int .i64 0, .int .i64 0, .int .u64 0, .int .i64 0, .slice none 0 0, .slice none 0 0, .int .i64 0, .int .i64 0, .int .u64 0, .slice none 0 0, .int .i64 0, .int .i64 0, .slice none 0 0, .int .u64 0, .slice none 0 0, .int .u64 0, .int .u64 0] 44)).setRow xb y9.cells = w7 at *
      have bo7 := bo6.fr F67 (fun e => e)
      have hq7 := hq6.fr F67
      have hk7 := hk6.fr F67
      have hy7 := hy6.non F67
      have fr7 := fr6.trans F67 (fun _ _ e => e)
      have hg5b : g5 < w6.heap.size := (o6.row g5 rfl).2
      have o7 := o6.fr F67 (fun _ _ e => e)
      replace j0 := F67.cell j0 (fun e => e)
      replace j1 := F67.cell j1 (fun e => e)
      replace j2 := F67.cell j2 (fun e => e)
      replace hy9o := hy9o.non F67
      clear bo6 hq6 hk6 hy6 fr6 bz honey F67 o6
      cases bad
      case false =>
        obtain ⟨z, hz⟩ : ∃ z, z = y := ⟨_, rfl⟩
        have hzop : Hid (z.op = { chO 200 with r := R0, s := S0 }) := by show _ = _; rw [hz]; exact hyz.out
        have hzok : z.op.ok := by rw [hz]; exact hyok
        have hz7 : z.own w7 0 := by rw [hz]; exact hy7
        replace bo7 : Blk w7 ob 44 z.cells := by rw [hz]; exact bo7
        clear hyz hyz0 hyok hyzok hz hy7 o7
        go_upto_region 17 with (fail)
        have hlz := ldS_blk (P := Tryz.prog) ob 44 Tryz.underlying44 rfl (cs := z.cells) hi
        have hl9 := ldS_blk (P := Tryz.prog) xb 44 Tryz.underlying44 rfl (cs := y9.cells) hi
        have kA := Lib.hid (kadd.out z R0 S0 w7 hq7 hk7 hzop.out hzok hz7.at)
        clear kadd
        go_wp2_with (first
          | (go_at_call 17; (with_reducible refine (kA.out).mono ?_); rintro _ wa ⟨rfl, fa⟩; have bo8 := bo7.fr fa (fun e => e); have bx8 := bx7.fr fa (fun e => e); have hq8 := hq7.fr fa; have hk8 := hk7.fr fa; have fr8 := fr7.trans fa (fun _ _ e => e); have q0 := fa.cell j0 (fun e => e); have q1 := fa.cell j1 (fun e => e); have q2 := fa.cell j2 (fun e => e); have kB := Lib.hid (kadd9.out y9 wa hq8 hk8 (hy9.trans hop9.out) (hy9o.non fa).at); clear kA kadd9 bo7 bx7 hq7 hk7 fr7 j0 j1 j2 fa)
          | (go_at_call 17; (with_reducible refine (kB.out).mono ?_); rintro _ wb ⟨rfl, fb⟩; have hq9 := hq8.fr fb; have hk9 := hk8.fr fb; have fr9 := fr8.trans fb (fun _ _ e => e); have p0 := fb.cell q0 (fun e => e); have p1 := fb.cell q1 (fun e => e); have p2 := fb.cell q2 (fun e => e); have kC := Lib.hid (klen.out wb hq9); have kD := Lib.hid (klev.out wb hq9); clear kB hq8 hk8 fr8 q0 q1 q2 fb klen klev)
          | (go_at_call 18; (with_reducible refine (kC.out).mono ?_); rintro _ _ ⟨rfl, rfl⟩)
          | (go_at_call 27; (with_reducible refine (kD.out).mono ?_); rintro _ wc ⟨rfl, fc⟩; have kE := Lib.hid (hlv.out wc (hk9.fr fc)); have frc := fr9.trans fc (fun _ _ e => e))
          | (go_at_call 19; (with_reducible refine (kE.out).mono ?_); rintro _ we ⟨rfl, fe⟩; have fre := frc.trans fe (fun _ _ e => e)))
        exact hfin.out _ fre
      case true =>
        have z25 : w7.cell? ⟨ob, 25, none⟩ = some (.int .u64 (y.r : Int)) := bo7.cell 25
        have z26 : w7.cell? ⟨ob, 26, none⟩ = some (.int .u64 (y.s : Int)) := bo7.cell 26
        have y25 := bo7.frozen 25
        have y26 := bo7.frozen 26
        have FZ : Fr (One ob) w7 ((w7.setCell ⟨ob, 25, none⟩ (.int .u64 0)).setCell ⟨ob, 26, none⟩ (.int .u64 0)) := ((Fr.refl (One ob) w7).setOne 25 _).setOne 26 _
        have hq8 := hq7.keepB bo7 FZ
        have bo8 : Blk ((w7.setCell ⟨ob, 25, none⟩ (.int .u64 0)).setCell ⟨ob, 26, none⟩ (.int .u64 0)) ob 44 ({ y with r := 0, s := 0 } : OpL).cells := (bo7.set 25 _).set 26 _
        have bx8 := bx7.fr FZ (fun e => by have e' : xb = ob := e; omega)
        have hz8 := own_sig (hy7.keepP FZ (Types.one bo7) (by decide) (by decide) (by decide) (by decide) (by decide) (by decide) (by decide)) 0 0
        have hy98 := hy9o.keepP FZ (Types.one bo7) (by decide) (by decide) (by decide) (by decide) (by decide) (by decide) (by decide)
        have fr8 : Fr Non w ((w7.setCell ⟨ob, 25, none⟩ (.int .u64 0)).setCell ⟨ob, 26, none⟩ (.int .u64 0)) := fr7.trans FZ (fun k hk e => by have e' : k = ob := e; omega)
        have hk8 := hkH.out.fr fr8
        have hne : ¬ g5 = ob := fun e => o7.ne bo7 (by decide) (by rw [← e]; rfl)
        have i0 := FZ.cell j0 hne
        have i1 := FZ.cell j1 hne
        have i2 := FZ.cell j2 hne
        go_upto_region 17 with (fail)
        clear z25 z26 y25 y26 FZ hq7 bo7 bx7 hy7 hy9o fr7 hk7 j0 j1 j2 o7 hyz hyok
        generalize (w7.setCell ⟨ob, 25, none⟩ (.int .u64 0)).setCell ⟨ob, 26, none⟩ (.int .u64 0) = w8 at *
        have hq7 := hq8
        have bx7 := bx8
        have hy9o := hy98
        have fr7 := fr8
        have hk7 := hk8
        have j0 := i0
        have j1 := i1
        have j2 := i2
        obtain ⟨z, hz⟩ : ∃ z, z = ({ y with r := 0, s := 0 } : OpL) := ⟨_, rfl⟩
        have hzop : Hid (z.op = { chO 200 with r := 0, s := 0 }) := by show _ = _; rw [hz]; exact hyz0.out
        have hzok : z.op.ok := by rw [hz]; exact hyzok
        have hz7 : z.own w8 0 := by rw [hz]; exact hz8
        have bo7 : Blk w8 ob 44 z.cells := by rw [hz]; exact bo8
        clear hyz0 hyzok hz hz8 bo8 hq8 bx8 hy98 fr8 hk8 i0 i1 i2
        have hlz := ldS_blk (P := Tryz.prog) ob 44 Tryz.underlying44 rfl (cs := z.cells) hi
        have hl9 := ldS_blk (P := Tryz.prog) xb 44 Tryz.underlying44 rfl (cs := y9.cells) hi
        have kA := Lib.hid (kadd.out z 0 0 w8 hq7 hk7 hzop.out hzok hz7.at)
        clear kadd
        go_wp2_with (first
          | (go_at_call 17; (with_reducible refine (kA.out).mono ?_); rintro _ wa ⟨rfl, fa⟩; have bo8 := bo7.fr fa (fun e => e); have bx8 := bx7.fr fa (fun e => e); have hq8 := hq7.fr fa; have hk8 := hk7.fr fa; have fr8 := fr7.trans fa (fun _ _ e => e); have q0 := fa.cell j0 (fun e => e); have q1 := fa.cell j1 (fun e => e); have q2 := fa.cell j2 (fun e => e); have kB := Lib.hid (kadd9.out y9 wa hq8 hk8 (hy9.trans hop9.out) (hy9o.non fa).at); clear kA kadd9 bo7 bx7 hq7 hk7 fr7 j0 j1 j2 fa)
          | (go_at_call 17; (with_reducible refine (kB.out).mono ?_); rintro _ wb ⟨rfl, fb⟩; have hq9 := hq8.fr fb; have hk9 := hk8.fr fb; have fr9 := fr8.trans fb (fun _ _ e => e); have p0 := fb.cell q0 (fun e => e); have p1 := fb.cell q1 (fun e => e); have p2 := fb.cell q2 (fun e => e); have kC := Lib.hid (klen.out wb hq9); have kD := Lib.hid (klev.out wb hq9); clear kB hq8 hk8 fr8 q0 q1 q2 fb klen klev)
          | (go_at_call 18; (with_reducible refine (kC.out).mono ?_); rintro _ _ ⟨rfl, rfl⟩)
          | (go_at_call 27; (with_reducible refine (kD.out).mono ?_); rintro _ wc ⟨rfl, fc⟩; have kE := Lib.hid (hlv.out wc (hk9.fr fc)); have frc := fr9.trans fc (fun _ _ e => e))
          | (go_at_call 19; (with_reducible refine (kE.out).mono ?_); rintro _ we ⟨rfl, fe⟩; have fre := frc.trans fe (fun _ _ e => e)))
        exact hfin.out _ fre
end Oq
end Go.Proofs.YtafonabghnogaaaGreatDoor
