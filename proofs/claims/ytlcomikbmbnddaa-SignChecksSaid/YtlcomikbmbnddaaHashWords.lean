/-
  slices.Chunk by sevens, and the words of bytes, as iterators.
  Conditions: the bytes read as data; they are no more than 2^40.
-/
import Derived.Test.YtlcomikbmbnddaaHashTake
namespace Go.Proofs.Ytlcomikbmbnddaa
open Go.RowKit Go.Shelf
attribute [local go_sem ↓] Go.wp_at_zero Go.wp_at_succ
attribute [local go_sem] Oper.semAt_some

/-- The i-th seven of a slice of n bytes. -/
def encC (b off n : Nat) (i : Nat) : Array Value := #[.slice (some ⟨b, off + 7 * i, none⟩) (min 7 (n - 7 * i)) (min 7 (n - 7 * i))]

def ChunkPost (s : Value) (w : World) (r : Ending) (w' : World) : Prop :=
  r = .returned (.func (.func 55) #[] #[.pointer (some ⟨w.heap.size, 0, none⟩), .pointer (some ⟨w.heap.size + 1, 0, none⟩)]) ∧ Blk w' w.heap.size 23 #[s] ∧ Blk w' (w.heap.size + 1) 3 #[.int .i64 7] ∧ Fr Non w w' ∧ w'.heap.size = w.heap.size + 2
theorem chunk_any (A : Option Addr) (n c : Nat) (w : World) : Calls Try.prog 53 #[.slice A n c, .int .i64 7] w (ChunkPost (.slice A n c) w) := by
  have hb := Blk.new w 23 #[.slice A n c]
  have hb2 := hb.alloc (.cells #[.int .i64 7] 3)
  have hn2 := Blk.new (w.alloc (.cells #[.slice A n c] 23)) 3 #[.int .i64 7]
  rw [World.size_alloc] at hn2
  have c2 := hn2.cell 0
  go_enter Try.func53, Try.ntmps53
  go_wp2
  go_ret
  exact ⟨rfl, hb2, hn2, ((Fr.refl _ _).alloc _).alloc _, by simp⟩

set_option maxHeartbeats 1000000 in
theorem chunk_seq (A : Option Addr) (b off n c g1 g2 : Nat) (hA : n = 0 ∨ A = some ⟨b, off, none⟩) (hnc : n ≤ c) (hn : n ≤ 1099511627776) (T : Nat → Prop) (hT1 : ¬ T g1) (hT2 : ¬ T g2) (W0 : World) (hb1 : Blk W0 g1 23 #[.slice A n c]) (hb2 : Blk W0 g2 3 #[.int .i64 7]) :
    SeqL Try.prog 55 #[.pointer (some ⟨g1, 0, none⟩), .pointer (some ⟨g2, 0, none⟩)] (encC b off n) (List.range ((n + 6) / 7)) Non T W0.heap.size W0 := by
  intro l J hJ h0 hY
  show Calls _ _ #[.func (.yield l) #[] #[], .pointer (some ⟨g1, 0, none⟩), .pointer (some ⟨g2, 0, none⟩)] W0 _
  go_enter Try.func55, Try.ntmps55
  go_wp2
  go_loopw [4] (fun v wr => ∃ i : Nat, v = .int .i64 ((7 * i : Nat) : Int) ∧ i ≤ (n + 6) / 7 ∧ Blk wr g1 23 #[.slice A n c] ∧ Blk wr g2 3 #[.int .i64 7] ∧ J i wr ∧ W0.heap.size ≤ wr.heap.size) (fun v _ => n + 7 - (intOf v).toNat)
  case atStart => exact ⟨0, rfl, Nat.zero_le _, hb1, hb2, h0, Nat.le_refl _⟩
  case round =>
    obtain ⟨i, rfl, hi, h1, h2, hj, hs⟩ := hrel
    have c1 := h1.cell 0
    have c2 := h2.cell 0
    by_cases hlt : 7 * i < n
    · obtain rfl : A = some ⟨b, off, none⟩ := hA.elim (fun h => by omega) id
      have hx : (List.range ((n + 6) / 7))[i]? = some i := by rw [List.getElem?_range (by omega)]
      have hx' := Lib.hid hx
      clear hx
      go_wp2
      go_quiet (fail)
      have hjn : J i (wr.drewN nq) := hJ _ _ _ hj ((Fr.refl _ _).drewN _)
      obtain ⟨fn, tmps, assign, body, hy, hR⟩ := yieldAt_any (m := 2) (hY i i (wr.drewN nq) hx'.out hjn hs)
      unfold encC at hy
      obtain ⟨k, hk⟩ := hid_ex (min 7 (n - 7 * i))
      have hk7 : k ≤ 7 := by rw [← hk.out]; omega
      have hkn : 7 * i + k ≤ n := by rw [← hk.out]; omega
      have hmin : (if ((n - 7 * i : Nat) : Int) < 7 then ((n - 7 * i : Nat) : Int) else 7) = (k : Int) := by
        rw [← hk.out]
        split <;> omega
      have hk0 : ¬ k = 0 := by rw [← hk.out]; omega
      rw [hk.out] at hy
      rw [hmin]
      clear hmin hk
      have c1' : (wr.drewN nq).cell? ⟨g1, 0, none⟩ = some (.slice (some ⟨b, off, none⟩) n c) := c1
      go_step
      go_step
      refine (wpIn_wide (n := 3)).1 ?_
      gi_wp2
      refine hR.mono ?_
      clear hR hy c1'
      rintro _ w1 ⟨rfl, hj1, hf1⟩
      have h1' := (h1.drewN nq).fr hf1 hT1
      have h2' := (h2.drewN nq).fr hf1 hT2
      have c2' := h2'.cell 0
      have hs1 := hf1.size
      gi_wp2
      go_wp2
      go_roundw
      case rel => exact ⟨i + 1, by go_num, by omega, h1', h2', hj1, Nat.le_trans hs hs1⟩
      case measure => simp [intOf]; omega
    · go_wp2
      go_end0
      refine ⟨⟨_, rfl⟩, ?_⟩
      rw [List.length_range, show (n + 6) / 7 = i by omega]
      exact hj
end Go.Proofs.Ytlcomikbmbnddaa
