/-
  The state of layer 2's sum takes words in.
  Conditions: the words are small; the state's block is not among them.
-/
import Derived.Test.YtlcomikbmbnddaaHashSpec
import Derived.Test.YtlcomikbmbnddaaFieldPow2
namespace Go.Proofs.Ytlcomikbmbnddaa
open Go.RowKit Go.Shelf
attribute [local go_sem ↓] Go.wp_at_zero Go.wp_at_succ

/-- A word as a value. -/
def Wv (n : Nat) : Value := .int .u64 (n : Int)
theorem Wv_one (l : List Nat) : ∀ u ∈ l.map Wv, u.oneCell' = true := by
  intro u hu
  obtain ⟨x, _, rfl⟩ := List.mem_map.1 hu
  rfl
theorem word_of {l : List Nat} {k : Nat} {u : Value} (h : (l.map Wv)[k]? = some u) : ∃ x, l[k]? = some x ∧ u = .int .u64 (x : Int) := by
  rw [List.getElem?_map] at h
  cases hx : l[k]? with
  | none => rw [hx] at h; cases h
  | some x => rw [hx] at h; injection h with h; exact ⟨x, rfl, h.symm⟩
theorem slW : SlT Try.prog 26 22 (.int .u64 0) 1 8 := ⟨Try.underlying26, by kernel_rfl, rfl, by decide⟩
theorem Rd.frA {S : Nat → Prop} {w w' : World} {B size n : Nat} {A : Option Addr} {xs : List Value} (h : Rd w B size A n xs) (hf : Fr S w w') (hs : ∀ k, rowOf A = some k → ¬ S k) : Rd w' B size A n xs :=
  ⟨h.1, h.2.imp id fun ⟨b, off, e, hb, hc⟩ => ⟨b, off, e, hb, fun j u hu => by
    have hv := hc j u hu
    rw [World.cell?_of_block (hf.block b (World.block_lt_of_cell? w ⟨b, off + j, none⟩ hv) (hs b (by rw [e]; rfl)))]
    exact hv⟩⟩

def TakePost (g s k : Nat) (w : World) (r : Ending) (w' : World) : Prop :=
  r = .returned (.tuple #[]) ∧ Blk w' g 63 #[.int .u64 (s : Int), .int .u64 (k : Int)] ∧ Fr (One g) w w'

set_option maxHeartbeats 4000000 in
theorem take_any (B g n c : Nat) (A : Option Addr) (ws : List Nat) (s k : Nat) (w : World) (hn : Hid (ws.length = n)) (hb : Blk w g 63 #[.int .u64 (s : Int), .int .u64 (k : Int)]) (hr : Rd w B 1 A n (ws.map Wv)) (hA : rowOf A ≠ some g)
    (hw : ∀ x ∈ ws, x < 9223372036854775808) (hk : k + n ≤ 4611686018427387904) (hs : s < 9223372036854775808) :
    Calls Try.prog 47 #[.pointer (some ⟨g, 0, none⟩), .slice A n c] w (TakePost g (Hs.foldT ws k s) (k + n) w) := by
  obtain ⟨R, hR⟩ := hid_ex (Hs.foldT ws k s)
  rw [hR.out]
  go_enter Try.func47, Try.ntmps47
  go_wp2
  go_loopw [8] (fun v wr => ∃ (i s' : Nat), v = .int .i64 (i : Int) ∧ i ≤ n ∧ Blk wr g 63 #[.int .u64 (s' : Int), .int .u64 ((k + i : Nat) : Int)] ∧ Hid (Hs.foldT (ws.drop i) (k + i) s' = R) ∧ s' < 9223372036854775808 ∧ Fr (One g) w wr) (fun v _ => n - (intOf v).toNat)
  case atStart => exact ⟨0, s, rfl, Nat.zero_le _, hb, hR, hs, Fr.refl _ _⟩
  case round =>
    obtain ⟨i, s', rfl, hi, hbi, hd, hs', hf⟩ := hrel
    by_cases hlt : i < n
    · obtain ⟨b, off, u, rfl, hb', hxu, hcu⟩ := (hr.frA hf (fun q hq e => hA (by rw [hq, e]))).at hlt
      obtain ⟨x, hx0, rfl⟩ := word_of hxu
      have hxl := hw x (List.mem_of_getElem? hx0)
      have hdr : ws.drop i = x :: ws.drop (i + 1) := drop_cons hx0
      rw [hdr] at hd
      have hd' : Hid (Hs.foldT (ws.drop (i + 1)) (k + i + 1) (Hs.tk s' x (k + i + 1)) = R) := hd
      clear hd hdr hxu hx0
      have hc0 := hbi.cell 0
      have hc1 := hbi.cell 1
      have hf0 := hbi.frozen 0
      have hf1 := hbi.frozen 1
      have hneb : b ≠ g := fun e => hA (by simp [rowOf, e])
      go_wp2_with (fail)
      have hb1 := hbi.set 1 (.int .u64 ((k : Int) + (i : Int) + 1))
      have hw1 := hf.setOne 1 (.int .u64 ((k : Int) + (i : Int) + 1))
      generalize wr.setCell ⟨g, 1, none⟩ (.int .u64 ((k : Int) + (i : Int) + 1)) = w1 at *
      clear hc0 hc1 hf0 hf1 hcu
      have hb1d : Blk w1.drew g 63 #[.int .u64 (s' : Int), .int .u64 ((k : Int) + (i : Int) + 1)] := hb1
      have c0 := hb1d.cell 0
      have c1 := hb1d.cell 1
      have f0 := hb1d.frozen 0
      have lm := Fd.mul_bd 37 s'
      have lp := num_lt (x + (k + i + 1))
      have hr0 : Hid (Hs.tk s' x (k + i + 1) = Fd.pow (num (Fd.mul 37 s' + num (x + (k + i + 1)))) 17) := rfl
      obtain ⟨m, hm⟩ := hid_ex (Fd.mul 37 s')
      obtain ⟨p, hp⟩ := hid_ex (num (x + (k + i + 1)))
      rw [hm.out] at lm
      rw [hp.out] at lp
      rw [hm.out, hp.out] at hr0
      have lq := num_lt (m + p)
      obtain ⟨q, hq⟩ := hid_ex (num (m + p))
      rw [hq.out] at lq hr0
      have lr := Fd.pow_lt q 17
      obtain ⟨r, hrr⟩ := hid_ex (Fd.pow q 17)
      rw [hrr.out] at lr hr0
      rw [hr0.out] at hd'
      have hmul : Hid (∀ w, Calls Try.prog 22 #[.int .u64 37, .int .u64 (s' : Int)] w fun e w' => e = .returned (.int .u64 (m : Int)) ∧ w = w') := fun w => by rw [← hm.out]; exact mul_any 37 s' (by omega) (by omega) w
      have hnum : Hid (∀ w, Calls Try.prog 37 #[.int .u64 (IntKind.u64.wrap ((x : Int) + ((k : Int) + (i : Int) + 1)))] w fun e w' => e = .returned (.int .u64 (p : Int)) ∧ w = w') := fun w => by rw [← hp.out, IntWalk.u64_in ((x : Int) + ((k : Int) + (i : Int) + 1)) ⟨by omega, by omega⟩, show ((x : Int) + ((k : Int) + (i : Int) + 1)) = ((x + (k + i + 1) : Nat) : Int) by omega]; exact num_any _ w (by omega)
      have hadd : Hid (∀ w, Calls Try.prog 54 #[.int .u64 (m : Int), .int .u64 (p : Int)] w fun e w' => e = .returned (.int .u64 (q : Int)) ∧ w = w') := fun w => by rw [← hq.out]; exact add_any m p (by omega) (by omega) w
      have hpow : Hid (∀ w, Calls Try.prog 20 #[.int .u64 (q : Int), .int .u64 17] w (PowPost r w)) := fun w => by rw [← hrr.out]; exact pow_any q 17 w (by omega) (by omega)
      clear hm hp hq hrr hr0
      go_region_with (first
        | (go_at_call 22; (with_reducible refine (hmul.out _).mono ?_); rintro _ _ ⟨rfl, rfl⟩)
        | (go_at_call 37; (with_reducible refine (hnum.out _).mono ?_); rintro _ _ ⟨rfl, rfl⟩)
        | (go_at_call 54; (with_reducible refine (hadd.out _).mono ?_); rintro _ _ ⟨rfl, rfl⟩)
        | (go_at_call 20; (with_reducible refine (hpow.out _).mono ?_); rintro _ w2 ⟨rfl, hf2⟩; have c0' := hf2.cell c0 (fun e => e); have c1' := hf2.cell c1 (fun e => e); have hb2 := hb1d.fr hf2 (fun e => e); have f0' := hb2.frozen 0))
      all_goals
        have hb3 : Blk (w2.setCell ⟨g, 0, none⟩ (.int .u64 (r : Int))) g 63 #[.int .u64 (r : Int), .int .u64 ((k + (i + 1) : Nat) : Int)] := by
          rw [show ((k + (i + 1) : Nat) : Int) = (k : Int) + (i : Int) + 1 by omega]
          exact hb2.set 0 _
        have hf3 := (hw1.drew.trans hf2 (fun _ _ e => e.elim)).setOne 0 (.int .u64 (r : Int))
        go_wp2
        exact ⟨⟨i + 1, r, rfl, by omega, hb3, hd', by omega, hf3⟩, by simp [intOf]; omega⟩
    · go_wp2
      go_end0
      rw [show ws.drop i = [] from List.drop_eq_nil_iff.2 (by rw [hn.out]; omega)] at hd
      rw [show i = n by omega] at hbi
      have e : s' = R := hd.out
      subst e
      exact ⟨rfl, hbi, hf⟩
end Go.Proofs.Ytlcomikbmbnddaa
