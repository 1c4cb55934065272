/-
  The sum of bytes; a sum as a secret.
  Conditions: the bytes are no more than 2^40.
-/
import Derived.Test.YtlcomikbmbnddaaHashOf
import Derived.OwnWalkIn
namespace Go.Proofs.Ytlcomikbmbnddaa
open Go.RowKit Go.Shelf
attribute [local go_sem ↓] Go.wp_at_zero Go.wp_at_succ
attribute [local go_sem] Oper.semAt_some

/-- append in a round. -/
theorem wpListIn_app {P : Program} {ops : Array Oper} {rest : List Oper} {o : Oper} {a : Act} {Q : Exit → Act → World → Prop} {w : World} {l m' : Nat} (s x : Operand) (t : TypeId) (hgd : o.guard = none)
    (ho : o.op = .call { callee := .builtin .append, args := #[s, x], argTypes := #[t, t] })
    {base size n c : Nat} {e : TypeId} {A : Option Addr} {xs : List Value} {z : Value} {bytes m cx B : Nat} {Ax : Option Addr} {news : List Value}
    (hs : a.eval s = .slice A n c) (hx : a.eval x = .slice Ax m cx)
    (hT : SlT P t e z size bytes) (h : Own w base e size A n c xs) (hr : Rd w B size Ax m news)
    (h1 : ∀ u ∈ news, u.oneCell' = true) (hbytes : (n + m) * bytes ≤ 140737488355328) (hmax : n + m ≤ 9223372036854775807) (hbase : base ≤ w.heap.size)
    (hk : ∀ A' c' w', Own w' base e size A' (n + m) c' (xs ++ news) → Fr (fun k => rowOf A = some k) w w' → (rowOf A' = rowOf A ∨ rowOf A' = some w.heap.size) →
      wpListIn (Fence.wide.inRound l) m' P ops Q rest (a.put o.dst (.slice A' (n + m) c')) w') : wpListIn (Fence.wide.inRound l) m' P ops Q (o :: rest) a w := by
  refine wpListIn_plain hgd fun K hK => ?_
  obtain ⟨A', c', w', hrun, h2, h3, h4⟩ := run_app (P := P) (ty := o.type) (cx := cx) hT h hr h1 hbytes hmax hbase
  refine ⟨fun _ _ => trivial, ?_⟩
  rw [Fence.inRound_round, Oper.semAt_some l _ o (fun c hc => by rw [ho] at hc; cases hc)]
  unfold execOp
  simp only [ho, resolve, invoke, builtin, Sem.run_bind, Sem.run_pure, Result.andThen_ok, List.map_toArray, List.map_cons, List.map_nil, hs, hx, hrun]
  exact hK _ _ (hk A' c' w' h2 h3 h4)

/-- A slice of new numbers. -/
def NewW (w : World) (ws : List Nat) (r : Ending) (w' : World) : Prop :=
  ∃ A c, r = .returned (.slice A ws.length c) ∧ Own w' w.heap.size 22 1 A ws.length c (ws.map Wv) ∧ Fr Non w w'

set_option maxHeartbeats 2000000 in
theorem appendSeq_any (B gb n c : Nat) (A : Option Addr) (bs : List UInt8) (w : World) (hlen : Hid (bs.length = n)) (hnc : n ≤ c) (hn : n ≤ 1099511627776) (hB : B ≤ w.heap.size) (hb0 : Blk w gb 23 #[.slice A n c]) (hr : Rd w B 1 A n (bs.map Bv)) :
    Calls Try.prog 51 #[.slice none 0 0, .func (.func 52) #[] #[.pointer (some ⟨gb, 0, none⟩)]] w (NewW w (Hs.words bs)) := by
  have hgl := hb0.lt
  have hrA : 0 < n → ∀ k, rowOf A = some k → k < w.heap.size := by
    intro h0 k hk
    rcases hr.2 with h | ⟨b, off, rfl, hb, _⟩
    · omega
    · simp [rowOf] at hk; omega
  have hwl := Hs.words_len bs
  rw [hlen.out] at hwl
  have hbox := Blk.new w 26 #[.slice none 0 0]
  refine callsIn_wide.1 (callsIn_of_wp_marks (n := 3) Try.func51 rfl trivial ?_ rfl)
  simp only [Try.ntmps51, List.size_toArray, List.length_cons, List.length_nil, Nat.reduceAdd, Nat.reduceSub, Array.replicate_succ, Array.replicate_zero, List.push_toArray, List.append_toArray, List.nil_append, List.cons_append]
  refine wpIn_wide.2 ?_
  go_wp2_with (fail)
  have hws : ∀ x ∈ Hs.words bs, x < 72057594037927936 := Hs.words_lt _ bs
  obtain ⟨ws, hW⟩ := hid_ex (Hs.words bs)
  rw [hW.out] at hwl hws
  rw [hW.out]
  refine range_any (n := 3) (gf := 52) (lb := #[.pointer (some ⟨gb, 0, none⟩)]) rfl (enters_of Try.func52 (by kernel_rfl) rfl) (encs := encW) (xs := ws)
    (S := Five (w.heap.size + 3)) (Tb := fun k => k = w.heap.size ∨ w.heap.size + 8 ≤ k) (C := w.heap.size + 8) (fun _ => rfl) ?_ (by unfold Five; simp) (by simp; omega)
    (fun i W => ∃ A' c', Blk W w.heap.size 26 #[.slice A' i c'] ∧ Own W (w.heap.size + 8) 22 1 A' i c' ((ws.take i).map Wv) ∧ Fr Non w W) ?_ ?_ ?_ ?_
  · intro W1 hf hs
    have hs' : W1.heap.size = w.heap.size + 3 := by rw [hs]; simp
    have hfw : Fr Non w W1 := ((Fr.refl _ _).alloc _).trans hf (fun _ _ e => e)
    have h := words_seq B gb n c A bs hlen hnc hn (fun k => (k = w.heap.size ∨ w.heap.size + 8 ≤ k) ∨ k = (w.alloc (.cells #[.slice none 0 0] 26)).heap.size + 1) W1 (by omega) (hb0.fr hfw (fun e => e)) (hr.fr hfw (fun _ _ e => e))
      (fun h0 k hk e => by have := hrA h0 k hk; simp at e; omega) (fun k hk e => by unfold Five at hk; simp at e; omega)
    rw [hW.out, hs'] at h
    exact h
  · rintro i X Y ⟨A', c', hb, ho, hf⟩ hXY
    have hrow := ho.row
    refine ⟨A', c', hb.fr hXY ?_, ho.fr hXY (fun k hk => ?_), hf.trans hXY (fun k hk e => ?_)⟩
    · unfold Five; simp; omega
    · have := hrow k hk
      unfold Five; simp; omega
    · unfold Five at e; simp at e; unfold Non; omega
  · exact ⟨none, 0, hbox, Own.nil _ _ _ _, (Fr.refl _ _).alloc _⟩
  · intro i x W hx
    have hil : i < ws.length := (List.getElem?_eq_some_iff.1 hx).1
    have htk : ws.take (i + 1) = ws.take i ++ [x] := by
      obtain ⟨h1, rfl⟩ := List.getElem?_eq_some_iff.1 hx
      exact List.take_succ_eq_append_getElem h1
    have htk' := Lib.hid htk
    clear htk hx
    unfold encW
    simp only []
    gi_wp2
    refine ⟨trivial, ?_⟩
    rintro W2 ⟨A', c', hb, ho, hf⟩ hC
    have hcb := hb.cell 0
    have hfz := hb.frozen 0
    have hne := ho.ne hb (by decide)
    have hrow := ho.row
    have hbl := hb.lt
    gi_wp2_with (first | (gi_at_builtin; refine wpListIn_app (.tmp 8) (.tmp 10) 26 rfl rfl rfl rfl slW (ho.alloc _) (Rd.one _ _ _) (by simp [Value.oneCell']) (by omega) (by omega) (by simp; omega) ?_; intro A1 c1 w1 hown1 hf1 hat1; have hb1 := (hb.alloc _).fr hf1 (fun e => hne e); have hcb1 := hb1.cell 0; have hfz1 := hb1.frozen 0))
    have hrow1 := hown1.row
    have hown2 : Own (w1.setCell ⟨w.heap.size, 0, none⟩ (.slice A1 (i + 1) c1)) (w.heap.size + 8) 22 1 A1 (i + 1) c1 ((ws.take (i + 1)).map Wv) := by
      rw [htk'.out, List.map_append]
      exact hown1.fr ((Fr.refl (One w.heap.size) w1).setOne 0 _) (fun k hk e => by have := (hrow1 k hk).1; unfold One at e; omega)
    have hfT : Fr (fun k => k = w.heap.size ∨ w.heap.size + 8 ≤ k) W2 (w1.setCell ⟨w.heap.size, 0, none⟩ (.slice A1 (i + 1) c1)) :=
      ((((Fr.refl _ W2).alloc _).trans hf1 (fun k _ e => .inr (hrow k e).1))).setCell (fun _ => .inl rfl) _
    exact ⟨⟨A1, c1, hb1.set 0 _, hown2, hf.trans hfT (fun k hk e => by unfold Non; omega)⟩, hfT⟩
  · rintro W ⟨A', c', hb, ho, hf⟩ hD
    rw [List.take_length] at ho
    have hcb := hb.cell 0
    go_wp2
    refine ⟨by simp, .inl ⟨_, _, rfl, run_takeDeferred hD, ?_⟩⟩
    have hrow := ho.row
    have hpo : Fr (fun k => k = w.heap.size + 1) W (W.putObj (w.alloc (.cells #[.slice none 0 0] 26)).heap.size (.deferred none)) := (Fr.putOne _ _ _).mono (fun k _ e => by simpa using e)
    rw [hW.out]
    exact ⟨_, results_tmp rfl _ _ _, A', c', rfl, (ho.fr hpo (fun k hk e => by have := (hrow k hk).1; omega)).lower (by omega), hf.trans hpo (fun k hk e => by omega)⟩

theorem collect_any (B gb n c : Nat) (A : Option Addr) (bs : List UInt8) (w : World) (hlen : Hid (bs.length = n)) (hnc : n ≤ c) (hn : n ≤ 1099511627776) (hB : B ≤ w.heap.size) (hb0 : Blk w gb 23 #[.slice A n c]) (hr : Rd w B 1 A n (bs.map Bv)) :
    Calls Try.prog 45 #[.func (.func 52) #[] #[.pointer (some ⟨gb, 0, none⟩)]] w (NewW w (Hs.words bs)) := by
  go_enter Try.func45, Try.ntmps45
  go_wp2_with (fail)
  refine (appendSeq_any B gb n c A bs _ hlen hnc hn hB hb0 hr).mono ?_
  rintro _ w1 ⟨A1, c1, rfl, hown1, hf1⟩
  go_wp2
  go_ret
  exact ⟨A1, c1, rfl, hown1, hf1⟩

theorem ofBytes_any (label : List UInt8) (B n c : Nat) (A : Option Addr) (bs : List UInt8) (w : World) (hlen : Hid (bs.length = n)) (hnc : n ≤ c) (hn : n ≤ 1099511627775) (hl : label.length ≤ 1099511627776) (hB : B ≤ w.heap.size) (hr : Rd w B 1 A n (bs.map Bv)) :
    Calls Try.prog 39 #[.string (str label), .slice A n c] w (PowPost (Hs.ofBytes label bs) w) := by
  have hwl := Hs.words_len bs
  have hws : ∀ x ∈ Hs.words bs, x < 72057594037927936 := Hs.words_lt _ bs
  rw [hlen.out] at hwl
  go_enter Try.func39, Try.ntmps39
  go_wp2_with (fail)
  refine (words_any A n c _).mono ?_
  rintro _ w1 ⟨rfl, hbw, hf1, hz1⟩
  have hs1 := hf1.size
  have hz1' := Lib.hid hz1
  clear hz1
  have hr1 := hr.fr hf1 (fun _ _ e => e)
  go_wp2_with (fail)
  refine (collect_any B w.heap.size n c A bs _ hlen hnc (by omega) (by omega) hbw hr1).mono ?_
  rintro _ w2 ⟨A2, c2, rfl, hown2, hf2⟩
  have hs2 := hf2.size
  have hof : Hid (Hs.ofBytes label bs = Hs.of label (Hs.words bs ++ [n])) := by show _ = _; unfold Hs.ofBytes; rw [hlen.out]
  obtain ⟨ws, hW⟩ := hid_ex (Hs.words bs)
  rw [hW.out] at hwl hws hown2 hof
  rw [hW.out, hof.out]
  go_wp2_with (first | (at_builtin; go_loud (refine wpList_app (.tmp 8) (.tmp 12) 26 rfl rfl rfl rfl slW (hown2.alloc _) (Rd.one _ _ _) (by simp [Value.oneCell']) (by omega) (by omega) (by simp; omega) ?_); intro A3 c3 w3 hown3 hf3 hat3))
  have hown3' : Own w3 w1.heap.size 22 1 A3 (ws.length + 1) c3 ((ws ++ [n]).map Wv) := by rw [List.map_append]; exact hown3
  have hfw := ((hf1.trans hf2 (fun _ _ e => e)).alloc (.cells #[.int .u64 (n : Int)] 22)).trans hf3 (hown2.notNon (by omega))
  refine (of_any label (ws ++ [n]) A3 (ws.length + 1) c3 w3.heap.size w3 (by show _ = _; simp) hl (by omega) hown3'.rd (fun x hx => ?_)).mono ?_
  · rcases List.mem_append.1 hx with h | h
    · have := hws x h; omega
    · simp at h; omega
  · rintro _ w4 ⟨rfl, hf4⟩
    go_wp2
    go_ret
    exact ⟨by rw [hof.out]; rfl, hfw.trans hf4 (fun _ _ e => e)⟩

theorem secret_any (label : List UInt8) (l : List Nat) (A : Option Addr) (n c B : Nat) (w : World) (hn : Hid (l.length = n)) (hl : label.length ≤ 1099511627776) (hn' : n ≤ 1099511627776) (hr : Rd w B 1 A n (l.map Wv)) (hx : ∀ x ∈ l, x < 18446744073709551616) :
    Calls Try.prog 27 #[.string (str label), .slice A n c] w (PowPost (Hs.secret label l) w) := by
  have hlt := Hs.of_lt label l
  have he : Hid (Hs.secret label l = 1 + Hs.of label l % 2305843009213693949) := rfl
  obtain ⟨v, hv⟩ := hid_ex (Hs.of label l)
  rw [hv.out] at he hlt
  rw [he.out]
  go_enter Try.func27, Try.ntmps27
  go_wp2_with (fail)
  refine (of_any label l A n c B _ hn hl hn' hr hx).mono ?_
  rw [hv.out]
  rintro _ w4 ⟨rfl, hf4⟩
  go_wp2
  go_ret
  exact ⟨by simp, hf4⟩
end Go.Proofs.Ytlcomikbmbnddaa
