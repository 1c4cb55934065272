/-
  The words of bytes, as an iterator.
  Conditions: the bytes read as data; they are no more than 2^40.
-/
import Derived.Test.YtlcomikbmbnddaaHashWords
namespace Go.Proofs.Ytlcomikbmbnddaa
open Go.RowKit Go.Shelf
attribute [local go_sem ↓] Go.wp_at_zero Go.wp_at_succ
attribute [local go_sem] Oper.semAt_some

def encW (x : Nat) : Array Value := #[.int .u64 (x : Int)]
def Five (B : Nat) : Nat → Prop := fun k => B ≤ k ∧ k < B + 5

def WordsPost (s : Value) (w : World) (r : Ending) (w' : World) : Prop :=
  r = .returned (.func (.func 52) #[] #[.pointer (some ⟨w.heap.size, 0, none⟩)]) ∧ Blk w' w.heap.size 23 #[s] ∧ Fr Non w w' ∧ w'.heap.size = w.heap.size + 1
theorem words_any (A : Option Addr) (n c : Nat) (w : World) : Calls Try.prog 46 #[.slice A n c] w (WordsPost (.slice A n c) w) := by
  have hb := Blk.new w 23 #[.slice A n c]
  go_enter Try.func46, Try.ntmps46
  go_wp2
  go_ret
  exact ⟨rfl, hb, (Fr.refl _ _).alloc _, by simp⟩

theorem le_or (l : List UInt8) (x : UInt8) (hl : l.length < 7) : bits BinOp.or IntKind.u64 (Hs.le l : Int) (IntKind.u64.wrap ((x.toNat : Int) * 2 ^ (8 * l.length))) = ((Hs.le (l ++ [x]) : Nat) : Int) ∧ Hs.le (l ++ [x]) < 18446744073709551616 := by
  have h1 := Hs.le_lt l
  have hx := x.toNat_lt
  have e8 : (256 : Nat) ^ l.length = 2 ^ (8 * l.length) := by rw [show (256 : Nat) = 2 ^ 8 by decide, ← Nat.pow_mul]
  have e0 : (2 : Nat) ^ (8 * l.length) ≤ 2 ^ 48 := Nat.pow_le_pow_right (by omega) (by omega)
  have e1 : (x.toNat : Int) * 2 ^ (8 * l.length) = ((x.toNat * 2 ^ (8 * l.length) : Nat) : Int) := by
    rw [Int.natCast_mul, Int.natCast_pow]; rfl
  have hxm : x.toNat * 2 ^ (8 * l.length) ≤ 255 * 2 ^ 48 := Nat.mul_le_mul (by omega) e0
  have hxm' : 2 ^ (8 * l.length) * x.toNat ≤ 255 * 2 ^ 48 := by rw [Nat.mul_comm]; exact hxm
  rw [e8] at h1
  rw [Hs.le_snoc, e8, e1, IntWalk.u64_in _ ⟨by omega, by omega⟩, u64_or_nat _ _ (by omega) (by omega), Nat.or_comm, nat_join (8 * l.length) _ _ (by simp) h1, Nat.add_comm, Nat.mul_comm]
  exact ⟨rfl, by omega⟩

set_option maxHeartbeats 2000000 in
theorem words_seq (B gb n c : Nat) (A : Option Addr) (bs : List UInt8) (hlen : Hid (bs.length = n)) (hnc : n ≤ c) (hn : n ≤ 1099511627776) (T : Nat → Prop) (W0 : World) (hB : B ≤ W0.heap.size) (hb0 : Blk W0 gb 23 #[.slice A n c]) (hr : Rd W0 B 1 A n (bs.map Bv))
    (hTA : 0 < n → ∀ k, rowOf A = some k → ¬ T k) (hT5 : ∀ k, Five W0.heap.size k → ¬ T k) :
    SeqL Try.prog 52 #[.pointer (some ⟨gb, 0, none⟩)] encW (Hs.words bs) (Five W0.heap.size) T (W0.heap.size + 5) W0 := by
  obtain ⟨b, off, hA, hbW⟩ : ∃ b off, (n = 0 ∨ A = some ⟨b, off, none⟩) ∧ (n = 0 ∨ b < W0.heap.size) := by
    rcases hr.2 with h | ⟨b, off, h, hb, _⟩
    · exact ⟨0, 0, .inl h, .inl h⟩
    · exact ⟨b, off, .inr h, .inr (by omega)⟩
  intro l J hJ h0 hY
  show Calls _ _ #[.func (.yield l) #[] #[], .pointer (some ⟨gb, 0, none⟩)] W0 _
  have hcb := hb0.cell 0
  have hbox := Blk.new W0 67 #[.func (.yield l) #[] #[]]
  have hbl := hb0.lt
  have hcb' := (hb0.alloc (.cells #[.func (.yield l) #[] #[]] 67)).cell 0
  refine callsIn_wide.1 (callsIn_of_wp_marks (n := 3) Try.func52 rfl trivial ?_ rfl)
  simp only [Try.ntmps52, List.size_toArray, List.length_cons, List.length_nil, Nat.reduceAdd, Nat.reduceSub, Array.replicate_succ, Array.replicate_zero, List.push_toArray, List.append_toArray, List.nil_append, List.cons_append]
  refine wpIn_wide.2 ?_
  go_wp2_with (fail)
  refine (chunk_any A n c _).mono ?_
  rintro _ w1 ⟨rfl, hb1, hb2, hf1, hz1⟩
  rw [World.size_alloc] at hb1 hb2 hz1
  have hbox1 := hbox.fr hf1 (fun e => e)
  have hw1 : Fr Non W0 w1 := ((Fr.refl _ _).alloc _).trans hf1 (fun _ _ e => e)
  go_wp2_with (fail)
  have hr1 := hr.fr hw1 (fun _ _ e => e)
  have hzz : w1.heap.size = W0.heap.size + 3 := by omega
  refine range_any (n := 3) (gf := 55) (lb := #[.pointer (some ⟨W0.heap.size + 1, 0, none⟩), .pointer (some ⟨W0.heap.size + 1 + 1, 0, none⟩)]) rfl (enters_of Try.func55 (by kernel_rfl) rfl) (encs := encC b off n) (xs := List.range ((n + 6) / 7))
    (S := Non) (Tb := T) (C := w1.heap.size + 2) (fun _ => rfl) ?_ ⟨fun e => e, fun e => e⟩ ⟨hT5 _ (by unfold Five; omega), hT5 _ (by unfold Five; omega)⟩
    (fun i W => J i W ∧ Blk W W0.heap.size 67 #[.func (.yield l) #[] #[]] ∧ Rd W B 1 A n (bs.map Bv)) ?_ ?_ ?_ ?_
  · intro W1 hf hs
    rw [← hs]
    exact chunk_seq A b off n c _ _ hA hnc hn _ (fun e => e.elim (hT5 _ (by unfold Five; omega)) (fun e => by omega)) (fun e => e.elim (hT5 _ (by unfold Five; omega)) (fun e => by omega)) W1 (hb1.fr hf (fun e => e)) (hb2.fr hf (fun e => e))
  · rintro i X Y ⟨hj, hb, hrd⟩ hXY
    refine ⟨hJ i X Y hj (hXY.mono (fun k _ e => ?_)), hb.fr hXY ?_, hrd.fr hXY (fun k hk => ?_)⟩
    · rcases e with e | e | e
      · exact e.elim
      · unfold Five; omega
      · unfold Five; omega
    · rintro (e | e | e)
      · exact e
      · omega
      · omega
    · rintro (e | e | e)
      · exact e
      · omega
      · omega
  · exact ⟨hJ 0 W0 w1 h0 (hw1.of_non _), hbox1, hr1⟩
  · intro i x W hx
    have hi : i < (n + 6) / 7 := by have := (List.getElem?_eq_some_iff.1 hx).1; simpa using this
    rw [List.getElem?_range hi] at hx
    obtain rfl : i = x := by simpa using hx
    unfold encC
    simp only []
    gi_wp2
    intro W2 hj hb hrd hC
    have hnpos : 7 * i < n := by omega
    obtain ⟨rfl, hbW⟩ : A = some ⟨b, off, none⟩ ∧ b < W0.heap.size := ⟨hA.elim (fun h => by omega) id, hbW.elim (fun h => by omega) id⟩
    have hwx : (Hs.words bs)[i]? = some (Hs.le ((bs.drop (7 * i)).take 7)) := Hs.words_get i bs (by rw [hlen.out]; exact hnpos)
    obtain ⟨fn, tmps, assign, body, hy, hR⟩ := yieldAt_any (m := 2) (hY i _ W2 hwx hj (by omega))
    have hcbox := hb.cell 0
    obtain ⟨k, hk⟩ := hid_ex (min 7 (n - 7 * i))
    have hk7 : k ≤ 7 := by rw [← hk.out]; omega
    have hkn : 7 * i + k ≤ n := by rw [← hk.out]; omega
    have hk0 : 0 < k := by rw [← hk.out]; omega
    rw [hk.out]
    obtain ⟨X, hX⟩ := hid_ex ((bs.drop (7 * i)).take 7)
    have hXl : X.length = k := by rw [← hX.out, List.length_take, List.length_drop, hlen.out, ← hk.out]
    have hXget : Hid (∀ j, j < k → ∃ x : UInt8, X[j]? = some x ∧ W2.cell? ⟨b, off + 7 * i + j, none⟩ = some (.int .u8 (x.toNat : Int))) := by
      intro j hj
      obtain ⟨b', off', u, e, _, hu, hc⟩ := hrd.at (k := 7 * i + j) (by omega)
      cases e
      obtain ⟨x, hx, rfl⟩ := byte_of hu
      refine ⟨x, ?_, by rw [Nat.add_assoc]; exact hc⟩
      rw [← hX.out, List.getElem?_take_of_lt (by omega), List.getElem?_drop]
      exact hx
    rw [hX.out] at hy
    have hXl' := Lib.hid hXl
    clear hXl hwx hX hk
    gi_wp2
    gi_loopw [4, 12] (fun u v wr => ∃ j : Nat, u = .int .u64 (Hs.le (X.take j) : Int) ∧ v = .int .i64 (j : Int) ∧ j ≤ k ∧ wr = W2) (fun _ v _ => k - (intOf v).toNat)
    case atStart => exact ⟨0, rfl, rfl, Nat.zero_le _, rfl⟩
    case round =>
      obtain ⟨j, rfl, rfl, hjk, rfl⟩ := hrel
      by_cases hlt : j < k
      · obtain ⟨x, hx0, hcx⟩ := hXget.out j hlt
        have htl : (X.take j).length = j := by rw [List.length_take, hXl'.out]; omega
        have hor := le_or (X.take j) x (by omega)
        rw [htl] at hor
        have ht : X.take (j + 1) = X.take j ++ [x] := by
          obtain ⟨h1, rfl⟩ := List.getElem?_eq_some_iff.1 hx0
          exact List.take_succ_eq_append_getElem h1
        rw [← ht] at hor
        have hor1 := Lib.hid hor.1
        clear hor ht hx0 htl
        have hxw := x.toNat_lt
        gi_wp2
        go_roundw
        case rel => exact ⟨j + 1, by rw [hor1.out], by go_num, by omega, trivial⟩
        case measure => simp [intOf]; omega
      · have hjk' : j = k := by omega
        have hXk : X.take j = X := List.take_of_length_le (by rw [hXl'.out]; omega)
        rw [hXk]
        have hlX : Hs.le X < 18446744073709551616 := by
          have h1 := Hs.le_lt X
          have h2 : 256 ^ X.length ≤ 256 ^ 7 := Nat.pow_le_pow_right (by omega) (by rw [hXl'.out]; omega)
          have h4 : (256 : Nat) ^ 7 = 72057594037927936 := by decide
          omega
        unfold encW at hy
        generalize Hs.le X = v at *
        clear hXk
        gi_wp2
        refine ⟨rfl, (roundRound hR).mono ?_⟩
        clear hR hy
        rintro _ w3 ⟨rfl, hj3, hf3⟩
        gi_wp2
        exact ⟨⟨hj3, hb.fr hf3 (hT5 _ (by unfold Five; omega)), hrd.frA hf3 (hTA (by omega))⟩, hf3⟩
  · rintro W ⟨hj, hb, hrd⟩ hD
    rw [List.length_range] at hj
    go_wp2
    refine ⟨by simp, .inl ⟨_, _, rfl, run_takeDeferred hD, ?_⟩⟩
    refine ⟨_, results_none rfl _ _ _, ⟨_, rfl⟩, ?_⟩
    rw [Hs.words_length, hlen.out]
    exact hJ _ _ _ hj ((Fr.putOne _ _ _).mono (fun k _ e => by unfold Five; omega))
end Go.Proofs.Ytlcomikbmbnddaa
