/-
  SignChecks: which signatures are taken is the document's.
  Condition: none.
-/
import Derived.Test.YtlcomikbmbnddaaRef08C
import Derived.Test.YtlcomikbmbnddaaSignRange
namespace Go.Proofs.Ytlcomikbmbnddaa
open Go.RowKit Go.Shelf
attribute [local go_sem ↓] Go.wp_at_zero Go.wp_at_succ
attribute [local go_sem] Bool.not_false Bool.not_true beq_self_eq_true

/-- The four signatures' cells, and the bytes. -/
def ChkSt (g0 g1 g2 g3 : Nat) (a0 b0 a1 b1 a2 b2 a3 b3 : Nat) (B nL : Nat) (A : Option Addr) (L : List UInt8) (w0 w : World) : Prop :=
  (w.cell? ⟨g0, 0, none⟩ = some (.int .u64 (a0 : Int)) ∧ w.cell? ⟨g0, 1, none⟩ = some (.int .u64 (b0 : Int)) ∧ w.cell? ⟨g1, 0, none⟩ = some (.int .u64 (a1 : Int)) ∧ w.cell? ⟨g1, 1, none⟩ = some (.int .u64 (b1 : Int)) ∧
   w.cell? ⟨g2, 0, none⟩ = some (.int .u64 (a2 : Int)) ∧ w.cell? ⟨g2, 1, none⟩ = some (.int .u64 (b2 : Int)) ∧ w.cell? ⟨g3, 0, none⟩ = some (.int .u64 (a3 : Int)) ∧ w.cell? ⟨g3, 1, none⟩ = some (.int .u64 (b3 : Int))) ∧
  Rd w B 1 A nL (L.map Bv) ∧ B ≤ w.heap.size ∧ Fr Non w0 w

section
variable {g0 g1 g2 g3 a0 b0 a1 b1 a2 b2 a3 b3 B nL : Nat} {A : Option Addr} {L : List UInt8} {w0 w w' : World}
theorem ChkSt.fr (h : ChkSt g0 g1 g2 g3 a0 b0 a1 b1 a2 b2 a3 b3 B nL A L w0 w) (hf : Fr Non w w') : ChkSt g0 g1 g2 g3 a0 b0 a1 b1 a2 b2 a3 b3 B nL A L w0 w' := by
  obtain ⟨⟨h0, h1, h2, h3, h4, h5, h6, h7⟩, hr, hB, h8⟩ := h
  exact ⟨⟨hf.cell h0 (fun e => e), hf.cell h1 (fun e => e), hf.cell h2 (fun e => e), hf.cell h3 (fun e => e), hf.cell h4 (fun e => e), hf.cell h5 (fun e => e), hf.cell h6 (fun e => e), hf.cell h7 (fun e => e)⟩,
    hr.fr hf (fun _ _ e => e), Nat.le_trans hB hf.size, h8.trans hf (fun _ _ e => e)⟩
end

theorem ChkSt.rd {g0 g1 g2 g3 a0 b0 a1 b1 a2 b2 a3 b3 B nL : Nat} {A : Option Addr} {L : List UInt8} {w0 w : World} (h : ChkSt g0 g1 g2 g3 a0 b0 a1 b1 a2 b2 a3 b3 B nL A L w0 w) : Rd w B 1 A nL (L.map Bv) := h.2.1
theorem ChkSt.sz {g0 g1 g2 g3 a0 b0 a1 b1 a2 b2 a3 b3 B nL : Nat} {A : Option Addr} {L : List UInt8} {w0 w : World} (h : ChkSt g0 g1 g2 g3 a0 b0 a1 b1 a2 b2 a3 b3 B nL A L w0 w) : B ≤ w.heap.size := h.2.2.1
theorem ChkSt.fin {g0 g1 g2 g3 a0 b0 a1 b1 a2 b2 a3 b3 B nL : Nat} {A : Option Addr} {L : List UInt8} {w0 w : World} (h : ChkSt g0 g1 g2 g3 a0 b0 a1 b1 a2 b2 a3 b3 B nL A L w0 w) : Fr Non w0 w := h.2.2.2

theorem chk_start {g0 G a0 b0 a1 b1 a2 b2 a3 b3 nL c base : Nat} {A : Option Addr} {L : List UInt8} {w0 W : World} (h0 : Blk W g0 28 #[.int .u64 (a0 : Int), .int .u64 (b0 : Int)]) (h1 : Blk W G 28 #[.int .u64 (a1 : Int), .int .u64 (b1 : Int)])
    (h2 : Blk W (G + 1) 28 #[.int .u64 (a2 : Int), .int .u64 (b2 : Int)]) (hz : W.heap.size = G + 1 + 1) (ho : Own W base 5 1 A nL c (L.map Bv)) (hf : Fr Non w0 W) :
    ChkSt g0 G (G + 1) (G + 1 + 1) a0 b0 a1 b1 a2 b2 a3 b3 (G + 1 + 1) nL A L w0 (W.alloc (.cells #[.int .u64 (a3 : Int), .int .u64 (b3 : Int)] 28)).drew := by
  have k0 := h0.alloc (.cells #[.int .u64 (a3 : Int), .int .u64 (b3 : Int)] 28)
  have k1 := h1.alloc (.cells #[.int .u64 (a3 : Int), .int .u64 (b3 : Int)] 28)
  have k2 := h2.alloc (.cells #[.int .u64 (a3 : Int), .int .u64 (b3 : Int)] 28)
  have k3 := Blk.new W 28 #[.int .u64 (a3 : Int), .int .u64 (b3 : Int)]
  have k4 := ho.rd.alloc (.cells #[.int .u64 (a3 : Int), .int .u64 (b3 : Int)] 28)
  rw [hz] at k3 k4
  exact ⟨⟨k0.drew.cell 0, k0.drew.cell 1, k1.drew.cell 0, k1.drew.cell 1, k2.drew.cell 0, k2.drew.cell 1, k3.drew.cell 0, k3.drew.cell 1⟩, k4.drew, by show _ ≤ (W.alloc _).heap.size; simp; omega, (hf.alloc _).drew⟩

theorem both_check (pub R S : Nat) (L : List UInt8) (nL : Nat) (hl : Hid (L.length = nL)) (hL : nL ≤ 100) (hp : pub < 18446744073709551616) (hR : R < 18446744073709551616) (hS : S < 18446744073709551616) : ∃ b : Bool,
    Hid (∀ (A : Option Addr) (c B : Nat) (w : World), nL ≤ c → B ≤ w.heap.size → Rd w B 1 A nL (L.map Bv) → Calls Try.prog 18 #[.int .u64 (pub : Int), .slice A nL c, .agg #[.int .u64 (R : Int), .int .u64 (S : Int)]] w (BoolPost b w)) ∧
    Hid (∀ (A : Option Addr) (c B : Nat) (w : World), nL ≤ c → B ≤ w.heap.size → Rd w B 1 A nL (L.map Bv) → Calls Try.prog 19 #[.int .u64 (pub : Int), .slice A nL c, .agg #[.int .u64 (R : Int), .int .u64 (S : Int)]] w (BoolPost b w)) :=
  ⟨Sg.check pub L R S, fun A c B w hc hB hr => check_any pub R S B nL c A L w hp hR hS hl hc (by omega) hB hr,
   fun A c B w hc hB hr => check08_any pub R S B nL c A L w hp hR hS hl hc (by omega) hB hr⟩

theorem rem_named (R M : Nat) (hM : 0 < M) : ∃ r : Nat, r < M ∧ (R : Int).tmod M = (r : Int) ∧ (R : Int) % M = (r : Int) :=
  ⟨R % M, Nat.mod_lt _ hM, by rw [Int.tmod_eq_emod_of_nonneg (by omega)]; omega, by omega⟩

set_option maxHeartbeats 8000000 in
theorem checks_any (n : Nat) (A : Option Addr) (c : Nat) (b : List UInt8) (pub R0 S0 : Nat) (k : Int) (w : World) (hn : n < 18446744073709551616) (hr : Rd w w.heap.size 1 A b.length (b.map Bv)) (hc : b.length ≤ c) (hc' : c ≤ 9223372036854775807)
    (hpub : pub < 18446744073709551616) (hR0 : R0 < 18446744073709551616) (hS0 : S0 < 18446744073709551616) (hk0 : -9223372036854775808 ≤ k) (hk1 : k ≤ 9223372036854775807) :
    Calls Try.prog 4 #[.int .u64 (n : Int), .slice A b.length c, .int .u64 (pub : Int), .agg #[.int .u64 (R0 : Int), .int .u64 (S0 : Int)], .int .i64 k] w (BoolPost true w) := by
  have hB0 := Blk.new w 28 #[.int .u64 (R0 : Int), .int .u64 (S0 : Int)]
  have hF0 : Fr Non w (w.alloc (.cells #[.int .u64 (R0 : Int), .int .u64 (S0 : Int)] 28)) := (Fr.refl _ _).alloc _
  have hr0 := (hr.alloc (.cells #[.int .u64 (R0 : Int), .int .u64 (S0 : Int)] 28)).mono (B' := (w.alloc (.cells #[.int .u64 (R0 : Int), .int .u64 (S0 : Int)] 28)).heap.size) (by simp)
  obtain ⟨L, nL, hnL, hl0, hFew⟩ := few_named 40 A c b _ (by omega) hr0 hc hc'
  have hFew' : Hid (Calls Try.prog 10 #[.slice A b.length c, .int .i64 40] (w.alloc (.cells #[.int .u64 (R0 : Int), .int .u64 (S0 : Int)] 28)) fun r w' => ∃ A' c', r = .returned (.slice A' nL c') ∧ Own w' (w.alloc (.cells #[.int .u64 (R0 : Int), .int .u64 (S0 : Int)] 28)).heap.size 5 1 A' nL c' (L.map Bv) ∧ Fr Non (w.alloc (.cells #[.int .u64 (R0 : Int), .int .u64 (S0 : Int)] 28)) w') := hFew
  clear hFew
  obtain ⟨x, p, R, S, lx, lp, lR, lS, p0, R0', hx, hp, hR, hS, kp, ks, kc⟩ := sign_named n L nL hnL (by omega)
  have k0 := Lib.hid (fun w => secret08_any n w hn)
  rw [hx.out] at k0
  have kp8 : Hid (∀ w, Calls Try.prog 13 #[.int .u64 (x : Int)] w (PowPost p w)) := fun w => by rw [← hp.out]; exact pub08_any x w (by omega)
  have ks8 : Hid (∀ (A : Option Addr) (c B : Nat) (w : World), nL ≤ c → B ≤ w.heap.size → Rd w B 1 A nL (L.map Bv) → Calls Try.prog 15 #[.int .u64 (x : Int), .slice A nL c] w fun r w' => r = .returned (.agg #[.int .u64 (R : Int), .int .u64 (S : Int)]) ∧ Fr Non w w') := fun A c B w _ hB hr => by
    rw [← hR.out, ← hS.out]; exact sign08_any x B nL c A L w (by omega) hnL (by omega) hB hr
  have kgood := check_named p R S L nL true hnL (by omega) (by omega) (by omega) (by omega) kc
  unfold SigV at kgood
  obtain ⟨r0, lr0, q1, q2⟩ : ∃ r : Nat, r < 2305843009213693951 ∧ (R0 : Int).tmod 2305843009213693951 = (r : Int) ∧ (R0 : Int) % 2305843009213693951 = (r : Int) := rem_named R0 2305843009213693951 (by omega)
  obtain ⟨s0, ls0, q3, q4⟩ : ∃ r : Nat, r < 2305843009213693950 ∧ (S0 : Int).tmod 2305843009213693950 = (r : Int) ∧ (S0 : Int) % 2305843009213693950 = (r : Int) := rem_named S0 2305843009213693950 (by omega)
  obtain ⟨u0, lu0, q5, q6⟩ : ∃ r : Nat, r < 2305843009213693951 ∧ (pub : Int).tmod 2305843009213693951 = (r : Int) ∧ (pub : Int) % 2305843009213693951 = (r : Int) := rem_named pub 2305843009213693951 (by omega)
  have ha := Lib.hid (fun w => around_any k 4 w hk0 hk1 (by omega) (by omega))
  have hj := around_bd (n := k) (m := 4) (by omega)
  obtain ⟨j, hjj⟩ := hid_ex (around k 4)
  rw [hjj.out] at ha hj
  have hj4 : j = 0 ∨ j = 1 ∨ j = 2 ∨ j = 3 := by omega
  obtain ⟨e1, c1a, c1b⟩ := both_check pub R0 S0 L nL hnL (by omega) hpub hR0 hS0
  obtain ⟨e3, c3a, c3b⟩ := both_check u0 r0 s0 L nL hnL (by omega) (by omega) (by omega) (by omega)
  have hQ0 : ¬ (2305843009213693951 : Int) = 0 := by omega
  have hM0 : ¬ (2305843009213693950 : Int) = 0 := by omega
  obtain ⟨key, oR, oS, lkey, loR, loS, hodd⟩ : ∃ key oR oS : Nat, key < 18446744073709551616 ∧ oR < 18446744073709551616 ∧ oS < 18446744073709551616 ∧
      Hid ((j = 0 ∧ key = p ∧ oR = R0 ∧ oS = S) ∨ (j = 1 ∧ key = p ∧ oR = R ∧ oS = S0) ∨ (j = 2 ∧ key = p ∧ oR = r0 ∧ oS = S) ∨ (j = 3 ∧ key = pub ∧ oR = R ∧ oS = S)) := by
    rcases hj4 with h | h | h | h
    · exact ⟨p, R0, S, by omega, by omega, by omega, .inl ⟨h, rfl, rfl, rfl⟩⟩
    · exact ⟨p, R, S0, by omega, by omega, by omega, .inr (.inl ⟨h, rfl, rfl, rfl⟩)⟩
    · exact ⟨p, r0, S, by omega, by omega, by omega, .inr (.inr (.inl ⟨h, rfl, rfl, rfl⟩))⟩
    · exact ⟨pub, R, S, by omega, by omega, by omega, .inr (.inr (.inr ⟨h, rfl, rfl, rfl⟩))⟩
  obtain ⟨e2, c2a, c2b⟩ := both_check key oR oS L nL hnL (by omega) (by omega) (by omega) (by omega)
  clear hx hp hR hS kc hjj lkey loR loS hj hj4 lr0 ls0 lu0 lx lp lR lS p0 R0' hpub hR0 hS0 hk0 hk1 hn
  go_enter Try.func4, Try.ntmps4
  generalize (2305843009213693951 : Int) = Q at *
  generalize (2305843009213693950 : Int) = M at *
  go_wp2_with (fail)
  refine hFew'.out.mono ?_
  rintro _ w1 ⟨A1, c1, rfl, hown1, hf1⟩
  have hcap := hown1.cap
  go_wp2_with (fail)
  refine (k0.out _).mono ?_
  rintro _ _ ⟨rfl, rfl⟩
  go_wp2_with (fail)
  refine (kp8.out _).mono ?_
  rintro _ wp ⟨rfl, hfp⟩
  have hownp := hown1.fr hfp (fun _ _ e => e)
  go_wp2_with (fail)
  refine (ks8.out A1 c1 wp.heap.size wp (by omega) (Nat.le_refl _) hownp.rd).mono ?_
  rintro _ w2 ⟨rfl, hf2⟩
  have hown2 := hownp.fr hf2 (fun _ _ e => e)
  go_wp2_with (fail)
  have b0 := ((((hB0.fr hf1 (fun e => e)).fr hfp (fun e => e)).fr hf2 (fun e => e)).alloc (.cells #[.int .u64 (R : Int), .int .u64 (S : Int)] 28)).alloc (.cells #[.int .u64 (R : Int), .int .u64 (S : Int)] 28)
  have b1 := (Blk.new w2 28 #[.int .u64 (R : Int), .int .u64 (S : Int)]).alloc (.cells #[.int .u64 (R : Int), .int .u64 (S : Int)] 28)
  have b2 := Blk.new (w2.alloc (.cells #[.int .u64 (R : Int), .int .u64 (S : Int)] 28)) 28 #[.int .u64 (R : Int), .int .u64 (S : Int)]
  rw [World.size_alloc] at b2
  have r4 := ((hown2.alloc (.cells #[.int .u64 (R : Int), .int .u64 (S : Int)] 28)).alloc (.cells #[.int .u64 (R : Int), .int .u64 (S : Int)] 28)).rd
  have hf4 := ((((hF0.trans hf1 (fun _ _ e => e)).trans hfp (fun _ _ e => e)).trans hf2 (fun _ _ e => e)).alloc (.cells #[.int .u64 (R : Int), .int .u64 (S : Int)] 28)).alloc (.cells #[.int .u64 (R : Int), .int .u64 (S : Int)] 28)
  have l0 : w.heap.size < w2.heap.size := by have := hf1.size; have := hfp.size; have := hf2.size; simp only [World.size_alloc] at *; omega
  have l4 : ((w2.alloc (.cells #[.int .u64 (R : Int), .int .u64 (S : Int)] 28)).alloc (.cells #[.int .u64 (R : Int), .int .u64 (S : Int)] 28)).heap.size = w2.heap.size + 1 + 1 := by simp
  have own4 := (hown2.alloc (.cells #[.int .u64 (R : Int), .int .u64 (S : Int)] 28)).alloc (.cells #[.int .u64 (R : Int), .int .u64 (S : Int)] 28)
  have n2 : rowOf A1 ≠ some (w2.heap.size + 1) := fun e => by have := hown2.row _ e; omega
  generalize hG : w2.heap.size = G at *
  generalize (w2.alloc (.cells #[.int .u64 (R : Int), .int .u64 (S : Int)] 28)).alloc (.cells #[.int .u64 (R : Int), .int .u64 (S : Int)] 28) = w4 at *
  clear hG hB0 hF0 hr0 hFew' hf1 hfp hf2 hown1 hownp hown2
  have b2s := fun (i : Nat) (u : Value) => b2.set i u
  have b1s := fun (i : Nat) (u : Value) => b1.far (p := ⟨G + 1, i, none⟩) (by show ¬ G = G + 1; omega) u
  have b0s := fun (i : Nat) (u : Value) => b0.far (p := ⟨G + 1, i, none⟩) (by show ¬ w.heap.size = G + 1; omega) u
  have hfs := fun (i : Nat) (u : Value) => hf4.setNew (g := G + 1) (by omega) i u
  have ls : ∀ (i : Nat) (u : Value), (w4.setCell ⟨G + 1, i, none⟩ u).heap.size = G + 1 + 1 := fun i u => by simp [World.setCell, l4]
  refine (ha.out _).mono ?_
  rintro _ _ ⟨rfl, rfl⟩
  have c00 := b0.cell 0
  have c01 := b0.cell 1
  have c10 := b2.cell 0
  have c11 := b2.cell 1
  have c12 := (b0s 0 (.int .u64 (r0 : Int))).cell 0
  have c13 := (b0s 0 (.int .u64 (r0 : Int))).cell 1
  have c14 := (b0s 0 (.int .u64 (R0 : Int))).cell 0
  have c15 := (b0s 0 (.int .u64 (R0 : Int))).cell 1
  have c16 := (b0s 1 (.int .u64 (S0 : Int))).cell 0
  have c17 := (b0s 1 (.int .u64 (S0 : Int))).cell 1
  have z10 := b2.frozen 0
  have z11 := b2.frozen 1
  rcases hodd.out with ⟨rfl, k2, k3, k4⟩ | ⟨rfl, k2, k3, k4⟩ | ⟨rfl, k2, k3, k4⟩ | ⟨rfl, k2, k3, k4⟩
  all_goals (rw [k2, k3, k4] at c2a c2b; clear k2 k3 k4 hodd key oR oS)
  · go_wp2_with (fail)
    have st := chk_start (a0 := R0) (b0 := S0) (a1 := R) (b1 := S) (a2 := R0) (b2 := S) (a3 := r0) (b3 := s0) (L := L) (w0 := w) (b0s 0 (.int .u64 (R0 : Int))) (b1s 0 (.int .u64 (R0 : Int))) (b2s 0 (.int .u64 (R0 : Int))) (ls 0 (.int .u64 (R0 : Int))) (own4.setOne n2) (hfs 0 (.int .u64 (R0 : Int)))
    generalize (w4.setCell ⟨G + 1, 0, none⟩ (.int .u64 (R0 : Int))).alloc (.cells #[.int .u64 (r0 : Int), .int .u64 (s0 : Int)] 28) = w5 at *
    obtain ⟨⟨e0, e1, e2, e3, e4, e5, e6, e7⟩, -⟩ := id st
    go_region_held3 (fun w' => w'.cell? ⟨w.heap.size, 0, none⟩ = some (.int .u64 (R0 : Int)) ∧ w'.cell? ⟨w.heap.size, 1, none⟩ = some (.int .u64 (S0 : Int)) ∧ w'.cell? ⟨G, 0, none⟩ = some (.int .u64 (R : Int)) ∧ w'.cell? ⟨G, 1, none⟩ = some (.int .u64 (S : Int)) ∧ w'.cell? ⟨G + 1, 0, none⟩ = some (.int .u64 (R0 : Int)) ∧ w'.cell? ⟨G + 1, 1, none⟩ = some (.int .u64 (S : Int)) ∧ w'.cell? ⟨G + 1 + 1, 0, none⟩ = some (.int .u64 (r0 : Int)) ∧ w'.cell? ⟨G + 1 + 1, 1, none⟩ = some (.int .u64 (s0 : Int))) ((show _ ∧ _ ∧ _ ∧ _ ∧ _ ∧ _ ∧ _ ∧ _; and_intros <;> assumption)) (first
      | (go_at_call 18; (with_reducible refine (c1a.out A1 c1 _ _ hcap.1 st.sz st.rd).mono ?_); rintro _ _ ⟨rfl, hf'⟩; have st0 := st.fr hf'; clear hf'; obtain ⟨⟨e00, e01, e02, e03, e04, e05, e06, e07⟩, -⟩ := id st0)
      | (go_at_call 19; (with_reducible refine (c1b.out A1 c1 _ _ hcap.1 st0.sz st0.rd).mono ?_); rintro _ _ ⟨rfl, hf'⟩; have st1 := st0.fr hf'; clear hf'; obtain ⟨⟨e10, e11, e12, e13, e14, e15, e16, e17⟩, -⟩ := id st1)
      | (go_at_call 18; (with_reducible refine (c2a.out A1 c1 _ _ hcap.1 st1.sz st1.rd).mono ?_); rintro _ _ ⟨rfl, hf'⟩; have st2 := st1.fr hf'; clear hf'; obtain ⟨⟨e20, e21, e22, e23, e24, e25, e26, e27⟩, -⟩ := id st2)
      | (go_at_call 19; (with_reducible refine (c2b.out A1 c1 _ _ hcap.1 st2.sz st2.rd).mono ?_); rintro _ _ ⟨rfl, hf'⟩; have st3 := st2.fr hf'; clear hf'; obtain ⟨⟨e30, e31, e32, e33, e34, e35, e36, e37⟩, -⟩ := id st3)
      | (go_at_call 18; (with_reducible refine (c3a.out A1 c1 _ _ hcap.1 st3.sz st3.rd).mono ?_); rintro _ _ ⟨rfl, hf'⟩; have st4 := st3.fr hf'; clear hf'; obtain ⟨⟨e40, e41, e42, e43, e44, e45, e46, e47⟩, -⟩ := id st4)
      | (go_at_call 19; (with_reducible refine (c3b.out A1 c1 _ _ hcap.1 st4.sz st4.rd).mono ?_); rintro _ _ ⟨rfl, hf'⟩; have st5 := st4.fr hf'; clear hf'; obtain ⟨⟨e50, e51, e52, e53, e54, e55, e56, e57⟩, -⟩ := id st5)
      | (go_at_call 18; (with_reducible refine (kgood.out A1 c1 _ _ hcap.1 st5.sz st5.rd).mono ?_); rintro _ _ ⟨rfl, hf'⟩; have st6 := st5.fr hf'; clear hf'; obtain ⟨⟨e60, e61, e62, e63, e64, e65, e66, e67⟩, -⟩ := id st6)
      | (go_at_call 16; (with_reducible refine (lives08_any _).mono ?_); rintro _ _ ⟨rfl, hf'⟩; have st7 := st6.fr hf'; clear hf'; obtain ⟨⟨e70, e71, e72, e73, e74, e75, e76, e77⟩, -⟩ := id st7))
    go_wp2
    go_ret
    refine ⟨?_, st7.fin⟩
    first | rfl | simp
  · go_wp2_with (fail)
    have st := chk_start (a0 := R0) (b0 := S0) (a1 := R) (b1 := S) (a2 := R) (b2 := S0) (a3 := r0) (b3 := s0) (L := L) (w0 := w) (b0s 1 (.int .u64 (S0 : Int))) (b1s 1 (.int .u64 (S0 : Int))) (b2s 1 (.int .u64 (S0 : Int))) (ls 1 (.int .u64 (S0 : Int))) (own4.setOne n2) (hfs 1 (.int .u64 (S0 : Int)))
    generalize (w4.setCell ⟨G + 1, 1, none⟩ (.int .u64 (S0 : Int))).alloc (.cells #[.int .u64 (r0 : Int), .int .u64 (s0 : Int)] 28) = w5 at *
    obtain ⟨⟨e0, e1, e2, e3, e4, e5, e6, e7⟩, -⟩ := id st
    go_region_held3 (fun w' => w'.cell? ⟨w.heap.size, 0, none⟩ = some (.int .u64 (R0 : Int)) ∧ w'.cell? ⟨w.heap.size, 1, none⟩ = some (.int .u64 (S0 : Int)) ∧ w'.cell? ⟨G, 0, none⟩ = some (.int .u64 (R : Int)) ∧ w'.cell? ⟨G, 1, none⟩ = some (.int .u64 (S : Int)) ∧ w'.cell? ⟨G + 1, 0, none⟩ = some (.int .u64 (R : Int)) ∧ w'.cell? ⟨G + 1, 1, none⟩ = some (.int .u64 (S0 : Int)) ∧ w'.cell? ⟨G + 1 + 1, 0, none⟩ = some (.int .u64 (r0 : Int)) ∧ w'.cell? ⟨G + 1 + 1, 1, none⟩ = some (.int .u64 (s0 : Int))) ((show _ ∧ _ ∧ _ ∧ _ ∧ _ ∧ _ ∧ _ ∧ _; and_intros <;> assumption)) (first
      | (go_at_call 18; (with_reducible refine (c1a.out A1 c1 _ _ hcap.1 st.sz st.rd).mono ?_); rintro _ _ ⟨rfl, hf'⟩; have st0 := st.fr hf'; clear hf'; obtain ⟨⟨e00, e01, e02, e03, e04, e05, e06, e07⟩, -⟩ := id st0)
      | (go_at_call 19; (with_reducible refine (c1b.out A1 c1 _ _ hcap.1 st0.sz st0.rd).mono ?_); rintro _ _ ⟨rfl, hf'⟩; have st1 := st0.fr hf'; clear hf'; obtain ⟨⟨e10, e11, e12, e13, e14, e15, e16, e17⟩, -⟩ := id st1)
      | (go_at_call 18; (with_reducible refine (c2a.out A1 c1 _ _ hcap.1 st1.sz st1.rd).mono ?_); rintro _ _ ⟨rfl, hf'⟩; have st2 := st1.fr hf'; clear hf'; obtain ⟨⟨e20, e21, e22, e23, e24, e25, e26, e27⟩, -⟩ := id st2)
      | (go_at_call 19; (with_reducible refine (c2b.out A1 c1 _ _ hcap.1 st2.sz st2.rd).mono ?_); rintro _ _ ⟨rfl, hf'⟩; have st3 := st2.fr hf'; clear hf'; obtain ⟨⟨e30, e31, e32, e33, e34, e35, e36, e37⟩, -⟩ := id st3)
      | (go_at_call 18; (with_reducible refine (c3a.out A1 c1 _ _ hcap.1 st3.sz st3.rd).mono ?_); rintro _ _ ⟨rfl, hf'⟩; have st4 := st3.fr hf'; clear hf'; obtain ⟨⟨e40, e41, e42, e43, e44, e45, e46, e47⟩, -⟩ := id st4)
      | (go_at_call 19; (with_reducible refine (c3b.out A1 c1 _ _ hcap.1 st4.sz st4.rd).mono ?_); rintro _ _ ⟨rfl, hf'⟩; have st5 := st4.fr hf'; clear hf'; obtain ⟨⟨e50, e51, e52, e53, e54, e55, e56, e57⟩, -⟩ := id st5)
      | (go_at_call 18; (with_reducible refine (kgood.out A1 c1 _ _ hcap.1 st5.sz st5.rd).mono ?_); rintro _ _ ⟨rfl, hf'⟩; have st6 := st5.fr hf'; clear hf'; obtain ⟨⟨e60, e61, e62, e63, e64, e65, e66, e67⟩, -⟩ := id st6)
      | (go_at_call 16; (with_reducible refine (lives08_any _).mono ?_); rintro _ _ ⟨rfl, hf'⟩; have st7 := st6.fr hf'; clear hf'; obtain ⟨⟨e70, e71, e72, e73, e74, e75, e76, e77⟩, -⟩ := id st7))
    go_wp2
    go_ret
    refine ⟨?_, st7.fin⟩
    first | rfl | simp
  · go_wp2_with (fail)
    have st := chk_start (a0 := R0) (b0 := S0) (a1 := R) (b1 := S) (a2 := r0) (b2 := S) (a3 := r0) (b3 := s0) (L := L) (w0 := w) (b0s 0 (.int .u64 (r0 : Int))) (b1s 0 (.int .u64 (r0 : Int))) (b2s 0 (.int .u64 (r0 : Int))) (ls 0 (.int .u64 (r0 : Int))) (own4.setOne n2) (hfs 0 (.int .u64 (r0 : Int)))
    generalize (w4.setCell ⟨G + 1, 0, none⟩ (.int .u64 (r0 : Int))).alloc (.cells #[.int .u64 (r0 : Int), .int .u64 (s0 : Int)] 28) = w5 at *
    obtain ⟨⟨e0, e1, e2, e3, e4, e5, e6, e7⟩, -⟩ := id st
    go_region_held3 (fun w' => w'.cell? ⟨w.heap.size, 0, none⟩ = some (.int .u64 (R0 : Int)) ∧ w'.cell? ⟨w.heap.size, 1, none⟩ = some (.int .u64 (S0 : Int)) ∧ w'.cell? ⟨G, 0, none⟩ = some (.int .u64 (R : Int)) ∧ w'.cell? ⟨G, 1, none⟩ = some (.int .u64 (S : Int)) ∧ w'.cell? ⟨G + 1, 0, none⟩ = some (.int .u64 (r0 : Int)) ∧ w'.cell? ⟨G + 1, 1, none⟩ = some (.int .u64 (S : Int)) ∧ w'.cell? ⟨G + 1 + 1, 0, none⟩ = some (.int .u64 (r0 : Int)) ∧ w'.cell? ⟨G + 1 + 1, 1, none⟩ = some (.int .u64 (s0 : Int))) ((show _ ∧ _ ∧ _ ∧ _ ∧ _ ∧ _ ∧ _ ∧ _; and_intros <;> assumption)) (first
      | (go_at_call 18; (with_reducible refine (c1a.out A1 c1 _ _ hcap.1 st.sz st.rd).mono ?_); rintro _ _ ⟨rfl, hf'⟩; have st0 := st.fr hf'; clear hf'; obtain ⟨⟨e00, e01, e02, e03, e04, e05, e06, e07⟩, -⟩ := id st0)
      | (go_at_call 19; (with_reducible refine (c1b.out A1 c1 _ _ hcap.1 st0.sz st0.rd).mono ?_); rintro _ _ ⟨rfl, hf'⟩; have st1 := st0.fr hf'; clear hf'; obtain ⟨⟨e10, e11, e12, e13, e14, e15, e16, e17⟩, -⟩ := id st1)
      | (go_at_call 18; (with_reducible refine (c2a.out A1 c1 _ _ hcap.1 st1.sz st1.rd).mono ?_); rintro _ _ ⟨rfl, hf'⟩; have st2 := st1.fr hf'; clear hf'; obtain ⟨⟨e20, e21, e22, e23, e24, e25, e26, e27⟩, -⟩ := id st2)
      | (go_at_call 19; (with_reducible refine (c2b.out A1 c1 _ _ hcap.1 st2.sz st2.rd).mono ?_); rintro _ _ ⟨rfl, hf'⟩; have st3 := st2.fr hf'; clear hf'; obtain ⟨⟨e30, e31, e32, e33, e34, e35, e36, e37⟩, -⟩ := id st3)
      | (go_at_call 18; (with_reducible refine (c3a.out A1 c1 _ _ hcap.1 st3.sz st3.rd).mono ?_); rintro _ _ ⟨rfl, hf'⟩; have st4 := st3.fr hf'; clear hf'; obtain ⟨⟨e40, e41, e42, e43, e44, e45, e46, e47⟩, -⟩ := id st4)
      | (go_at_call 19; (with_reducible refine (c3b.out A1 c1 _ _ hcap.1 st4.sz st4.rd).mono ?_); rintro _ _ ⟨rfl, hf'⟩; have st5 := st4.fr hf'; clear hf'; obtain ⟨⟨e50, e51, e52, e53, e54, e55, e56, e57⟩, -⟩ := id st5)
      | (go_at_call 18; (with_reducible refine (kgood.out A1 c1 _ _ hcap.1 st5.sz st5.rd).mono ?_); rintro _ _ ⟨rfl, hf'⟩; have st6 := st5.fr hf'; clear hf'; obtain ⟨⟨e60, e61, e62, e63, e64, e65, e66, e67⟩, -⟩ := id st6)
      | (go_at_call 16; (with_reducible refine (lives08_any _).mono ?_); rintro _ _ ⟨rfl, hf'⟩; have st7 := st6.fr hf'; clear hf'; obtain ⟨⟨e70, e71, e72, e73, e74, e75, e76, e77⟩, -⟩ := id st7))
    go_wp2
    go_ret
    refine ⟨?_, st7.fin⟩
    first | rfl | simp
  · go_wp2_with (fail)
    have st := chk_start (a0 := R0) (b0 := S0) (a1 := R) (b1 := S) (a2 := R) (b2 := S) (a3 := r0) (b3 := s0) (L := L) (w0 := w) b0 b1 b2 l4 own4 hf4
    generalize w4.alloc (.cells #[.int .u64 (r0 : Int), .int .u64 (s0 : Int)] 28) = w5 at *
    obtain ⟨⟨e0, e1, e2, e3, e4, e5, e6, e7⟩, -⟩ := id st
    go_region_held3 (fun w' => w'.cell? ⟨w.heap.size, 0, none⟩ = some (.int .u64 (R0 : Int)) ∧ w'.cell? ⟨w.heap.size, 1, none⟩ = some (.int .u64 (S0 : Int)) ∧ w'.cell? ⟨G, 0, none⟩ = some (.int .u64 (R : Int)) ∧ w'.cell? ⟨G, 1, none⟩ = some (.int .u64 (S : Int)) ∧ w'.cell? ⟨G + 1, 0, none⟩ = some (.int .u64 (R : Int)) ∧ w'.cell? ⟨G + 1, 1, none⟩ = some (.int .u64 (S : Int)) ∧ w'.cell? ⟨G + 1 + 1, 0, none⟩ = some (.int .u64 (r0 : Int)) ∧ w'.cell? ⟨G + 1 + 1, 1, none⟩ = some (.int .u64 (s0 : Int))) ((show _ ∧ _ ∧ _ ∧ _ ∧ _ ∧ _ ∧ _ ∧ _; and_intros <;> assumption)) (first
      | (go_at_call 18; (with_reducible refine (c1a.out A1 c1 _ _ hcap.1 st.sz st.rd).mono ?_); rintro _ _ ⟨rfl, hf'⟩; have st0 := st.fr hf'; clear hf'; obtain ⟨⟨e00, e01, e02, e03, e04, e05, e06, e07⟩, -⟩ := id st0)
      | (go_at_call 19; (with_reducible refine (c1b.out A1 c1 _ _ hcap.1 st0.sz st0.rd).mono ?_); rintro _ _ ⟨rfl, hf'⟩; have st1 := st0.fr hf'; clear hf'; obtain ⟨⟨e10, e11, e12, e13, e14, e15, e16, e17⟩, -⟩ := id st1)
      | (go_at_call 18; (with_reducible refine (c2a.out A1 c1 _ _ hcap.1 st1.sz st1.rd).mono ?_); rintro _ _ ⟨rfl, hf'⟩; have st2 := st1.fr hf'; clear hf'; obtain ⟨⟨e20, e21, e22, e23, e24, e25, e26, e27⟩, -⟩ := id st2)
      | (go_at_call 19; (with_reducible refine (c2b.out A1 c1 _ _ hcap.1 st2.sz st2.rd).mono ?_); rintro _ _ ⟨rfl, hf'⟩; have st3 := st2.fr hf'; clear hf'; obtain ⟨⟨e30, e31, e32, e33, e34, e35, e36, e37⟩, -⟩ := id st3)
      | (go_at_call 18; (with_reducible refine (c3a.out A1 c1 _ _ hcap.1 st3.sz st3.rd).mono ?_); rintro _ _ ⟨rfl, hf'⟩; have st4 := st3.fr hf'; clear hf'; obtain ⟨⟨e40, e41, e42, e43, e44, e45, e46, e47⟩, -⟩ := id st4)
      | (go_at_call 19; (with_reducible refine (c3b.out A1 c1 _ _ hcap.1 st4.sz st4.rd).mono ?_); rintro _ _ ⟨rfl, hf'⟩; have st5 := st4.fr hf'; clear hf'; obtain ⟨⟨e50, e51, e52, e53, e54, e55, e56, e57⟩, -⟩ := id st5)
      | (go_at_call 18; (with_reducible refine (kgood.out A1 c1 _ _ hcap.1 st5.sz st5.rd).mono ?_); rintro _ _ ⟨rfl, hf'⟩; have st6 := st5.fr hf'; clear hf'; obtain ⟨⟨e60, e61, e62, e63, e64, e65, e66, e67⟩, -⟩ := id st6)
      | (go_at_call 16; (with_reducible refine (lives08_any _).mono ?_); rintro _ _ ⟨rfl, hf'⟩; have st7 := st6.fr hf'; clear hf'; obtain ⟨⟨e70, e71, e72, e73, e74, e75, e76, e77⟩, -⟩ := id st7))
    go_wp2
    go_ret
    refine ⟨?_, st7.fin⟩
    first | rfl | simp
end Go.Proofs.Ytlcomikbmbnddaa
