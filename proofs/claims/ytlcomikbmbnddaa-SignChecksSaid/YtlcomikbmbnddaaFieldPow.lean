/-
  The field's powers: squares as an iterator, Pow.
  Conditions: the arguments are of their kind.
-/
import Derived.Test.YtlcomikbmbnddaaField
import Derived.TacticsInMore
import Derived.LoopIn
namespace Go.Proofs.Ytlcomikbmbnddaa
open Go.RowKit Go.Shelf
attribute [local go_sem ↓] Go.wp_at_zero Go.wp_at_succ

def natAt (w : World) (g : Nat) : Nat := match w.cell? ⟨g, 0, none⟩ with
  | some (.int _ n) => n.toNat
  | _ => 0
theorem natAt_blk {w : World} {g : Nat} {t : TypeId} {k : IntKind} {n : Nat} (h : Blk w g t #[.int k (n : Int)]) : natAt w g = n := by
  have := h.cell 0
  unfold natAt
  rw [this]
  simp

def encSq (x : Nat × Bool) : Array Value := #[.int .u64 (x.1 : Int), .bool x.2]

set_option maxHeartbeats 1000000 in
theorem squares_seq (a n ga gn : Nat) (ha : a < 18446744073709551616) (hn : n < 18446744073709551616) (T : Nat → Prop) (hT : ¬ T gn) (W0 : World) (hba : Blk W0 ga 22 #[.int .u64 (a : Int)]) (hbn : Blk W0 gn 22 #[.int .u64 (n : Int)]) :
    SeqL Try.prog 43 #[.pointer (some ⟨ga, 0, none⟩), .pointer (some ⟨gn, 0, none⟩)] encSq (Fd.sqs 64 (num a) n) (One gn) T W0.heap.size W0 := by
  intro l J hJ h0 hY
  obtain ⟨xs, hxs⟩ := hid_ex (Fd.sqs 64 (num a) n)
  rw [hxs.out] at hY ⊢
  show Calls _ _ #[.func (.yield l) #[] #[], .pointer (some ⟨ga, 0, none⟩), .pointer (some ⟨gn, 0, none⟩)] W0 _
  have hca := hba.cell 0
  have hla := num_lt a
  go_enter Try.func43, Try.ntmps43
  go_wp2_with (fail)
  refine (num_any a _ ha).mono ?_
  rintro _ _ ⟨rfl, rfl⟩
  obtain ⟨b0, hb0⟩ := hid_ex (num a)
  rw [hb0.out] at hxs hla
  rw [hb0.out]
  go_wp2
  go_loopw [4] (fun v wr => ∃ (i f b m : Nat), v = .int .u64 (b : Int) ∧ Hid (xs.drop i = Fd.sqs f b m) ∧ i ≤ xs.length ∧ m < 2 ^ f ∧ b < 2305843009213693951 ∧ m < 18446744073709551616 ∧ Blk wr gn 22 #[.int .u64 (m : Int)] ∧ J i wr ∧ W0.heap.size ≤ wr.heap.size) (fun _ wr => natAt wr gn)
  case atStart => exact ⟨0, 64, b0, n, rfl, by show _ = _; rw [List.drop_zero, hxs.out], Nat.zero_le _, by omega, hla, hn, hbn, h0, Nat.le_refl _⟩
  case round =>
    obtain ⟨i, f, b, m, rfl, hd, hi, hm, hb, hm64, hbm, hj, hs⟩ := hrel
    have hcm := hbm.cell 0
    by_cases hz : m = 0
    · subst hz
      go_wp2
      go_end0
      refine ⟨⟨_, rfl⟩, ?_⟩
      have hl : xs.drop i = [] := by rw [hd.out]; cases f <;> simp [Fd.sqs]
      rw [List.drop_eq_nil_iff] at hl
      rw [show xs.length = i by omega]
      exact hj
    · obtain ⟨f, rfl⟩ : ∃ f', f = f' + 1 := ⟨f - 1, by rcases f with _ | f; · simp at hm; omega
                                                       · rfl⟩
      have hd2 : xs.drop i = (b, m % 2 == 1) :: Fd.sqs f (Fd.mul b b) (m / 2) := by rw [hd.out, Fd.sqs, if_neg hz]
      have hx : xs[i]? = some (b, m % 2 == 1) := by
        have h := congrArg (fun l => l[0]?) hd2
        simpa using h
      have hi' : i < xs.length := (List.getElem?_eq_some_iff.1 hx).1
      have hd3 : Hid (xs.drop (i + 1) = Fd.sqs f (Fd.mul b b) (m / 2)) := by
        have h := congrArg List.tail hd2
        show _ = _
        simpa [List.tail_drop] using h
      obtain ⟨fn, tmps, assign, body, hy, hR⟩ := yieldAt_any (m := 2) (hY i _ wr hx hj hs)
      have hbb := Fd.mul_bd b b
      obtain ⟨b', hb'⟩ := hid_ex (Fd.mul b b)
      rw [hb'.out] at hd3 hbb
      have hand : bits .and .u64 (m : Int) 1 = ((m % 2 : Nat) : Int) := by
        have := u64_and_nat m 1 hm64 (by omega)
        rw [show (m &&& 1) = m % 2 from Nat.and_two_pow_sub_one_eq_mod m 1] at this
        exact this
      clear hd2 hx hd
      unfold encSq at hy
      have hmp : (0 : Int) < (m : Int) := by omega
      have hparity : m % 2 = 1 ∨ m % 2 = 0 := by omega
      rcases hparity with hp | hp
      all_goals
        rw [hp] at hy hand
        simp only [Nat.reduceBEq] at hy
        refine (wpIn_wide (n := 3)).1 ?_
        gi_wp2_with (first | fail)
        refine hR.mono ?_
        clear hR hy hcm
        rintro _ W1 ⟨rfl, hj1, hf1⟩
        have hbm1 := hbm.fr hf1 hT
        have hcm1 := hbm1.cell 0
        have hfz1 := hbm1.frozen 0
        have hs1 := hf1.size
        gi_wp2_with (first | (refine ⟨trivial, ?_⟩; gi_at_call 22; refine (callsIn_wide.2 (mul_any b b (by omega) (by omega) _)).mono ?_; rw [hb'.out]; rintro _ _ ⟨rfl, rfl⟩))
        have hset := hbm1.set 0 (.int .u64 ((m : Int) / 2))
        rw [show ((m : Int) / 2) = ((m / 2 : Nat) : Int) by omega] at hset ⊢
        have hjj := hJ _ _ _ hj1 ((Fr.refl (One gn) W1).setOne 0 (.int .u64 ((m / 2 : Nat) : Int)))
        go_roundw
        case rel => exact ⟨i + 1, f, b', m / 2, rfl, hd3, hi', by rw [Nat.pow_succ] at hm; omega, hbb, by omega, hset, hjj, by simp [World.setCell]; omega⟩
        case measure => rw [natAt_blk hset, natAt_blk hbm]; omega

def SquaresPost (a n : Nat) (w : World) (r : Ending) (w' : World) : Prop :=
  r = .returned (.func (.func 43) #[] #[.pointer (some ⟨w.heap.size, 0, none⟩), .pointer (some ⟨w.heap.size + 1, 0, none⟩)]) ∧ Blk w' w.heap.size 22 #[.int .u64 (a : Int)] ∧ Blk w' (w.heap.size + 1) 22 #[.int .u64 (n : Int)] ∧ Fr Non w w' ∧ w'.heap.size = w.heap.size + 2
theorem squares_any (a n : Nat) (w : World) : Calls Try.prog 35 #[.int .u64 (a : Int), .int .u64 (n : Int)] w (SquaresPost a n w) := by
  have hb := Blk.new w 22 #[.int .u64 (a : Int)]
  have hb2 := hb.alloc (.cells #[.int .u64 (n : Int)] 22)
  have hn2 := Blk.new (w.alloc (.cells #[.int .u64 (a : Int)] 22)) 22 #[.int .u64 (n : Int)]
  rw [World.size_alloc] at hn2
  go_enter Try.func35, Try.ntmps35
  go_wp2
  go_ret
  exact ⟨rfl, hb2, hn2, ((Fr.refl _ _).alloc _).alloc _, by simp⟩

end Go.Proofs.Ytlcomikbmbnddaa
