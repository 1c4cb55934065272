/-
  Writing of package pack: what each method of Out does, for every Out.
  Condition: the Out lies in a block of its own, and so do its bytes, from block B on; they are fewer than 2^40.
-/
import Derived.Test.YtahcddlgghipjaaGreatDoorProg
import Derived.Test.YtahcddlgghipjaaGreatDoorBase
import Derived.Test.YtahcddlgghipjaaGreatDoorCommon
import Derived.Test.YtahcddlgghipjaaGreatDoorPackSpec
namespace Go.Proofs.YtahcddlgghipjaaGreatDoor
open Go.RowKit

/-- Block g is an Out in which these bytes are written. -/
def OutAt (w : World) (B g : Nat) (A : Option Addr) (c : Nat) (bs : List UInt8) : Prop :=
  Blk w g 116 #[.slice A bs.length c] ∧ Own w B 5 1 A bs.length c (bs.map Bv) ∧ B ≤ g

section
variable {S : Nat → Prop} {w w' : World} {B g c : Nat} {A : Option Addr} {bs : List UInt8}
theorem OutAt.mk' {n : Nat} {xs : List Value} (hb : Blk w g 116 #[.slice A n c]) (ho : Own w B 5 1 A n c xs) (hB : B ≤ g) (hx : xs = bs.map Bv) : OutAt w B g A c bs := by
  subst hx
  have hl := ho.len
  simp at hl
  subst hl
  exact ⟨hb, ho, hB⟩
theorem OutAt.ne (h : OutAt w B g A c bs) : rowOf A ≠ some g := h.2.1.ne h.1 (by decide)
theorem OutAt.fr (h : OutAt w B g A c bs) (hf : Fr S w w') (hg : ¬ S g) (hs : ∀ k, rowOf A = some k → ¬ S k) : OutAt w' B g A c bs :=
  ⟨h.1.fr hf hg, h.2.1.fr hf hs, h.2.2⟩
theorem OutAt.alloc (h : OutAt w B g A c bs) (o : Obj) : OutAt (w.alloc o) B g A c bs :=
  h.fr (S := Non) ((Fr.refl _ _).alloc o) (fun hh => hh) (fun _ _ hh => hh)
theorem OutAt.drewN (h : OutAt w B g A c bs) (n : Nat) : OutAt (w.drewN n) B g A c bs := h
theorem OutAt.lt (h : OutAt w B g A c bs) : g < w.heap.size := h.1.lt
theorem OutAt.le (h : OutAt w B g A c bs) : B ≤ g := h.2.2
theorem OutAt.not (h : OutAt w B g A c bs) {B' : Nat} (hB : B' ≤ B) : ∀ k, k < B' → ¬ RS g A k := RS.not h.2.1 hB (Nat.le_trans hB h.2.2)
/-- A block of another type is not touched. -/
theorem OutAt.far (h : OutAt w B g A c bs) {g' : Nat} {t : TypeId} {cs : Array Value} (hb : Blk w g' t cs) (h1 : t ≠ 116) (h2 : t ≠ 5) : ¬ RS g A g' := by
  rintro (e | e)
  · exact (hb.ne h.1 h1) e
  · exact h.2.1.ne hb (Ne.symm h2) e
end

def OutPost (B g : Nat) (A : Option Addr) (bs : List UInt8) (w : World) (r : Ending) (w' : World) : Prop :=
  r = .returned (.tuple #[]) ∧ ∃ A' c', OutAt w' B g A' c' bs ∧ OStep g w A w' A'

theorem u8_more (m : Nat) : bits BinOp.or IntKind.u8 ((m : Int) % 256) 128 = ((m % 128 + 128 : Nat) : Int) := by
  have e1 : (m : Int) % 256 = ((m % 256 : Nat) : Int) := by omega
  rw [e1, show (128 : Int) = ((128 : Nat) : Int) from rfl, u8_or_nat _ _ (by omega) (by omega)]
  congr 1
  have h1 : m % 256 = m % 128 + (m / 128 % 2) * 128 := by omega
  rcases Nat.mod_two_eq_zero_or_one (m / 128) with h | h
  · rw [h1, h, Nat.zero_mul, Nat.add_zero, Nat.or_comm, nat_join 7 _ _ (by omega) (by omega)]
    omega
  · rw [h1, h, Nat.one_mul]
    have h2 : m % 128 + 128 = 128 ||| m % 128 := by rw [nat_join 7 _ _ (by omega) (by omega)]; omega
    rw [h2, Nat.or_assoc, Nat.or_comm (m % 128) 128, ← Nat.or_assoc, Nat.or_self]

set_option maxRecDepth 100000 in
set_option maxHeartbeats 1000000 in
theorem outNum_any (B g : Nat) (A0 : Option Addr) (c0 : Nat) (bs : List UInt8) (n : Nat) (w : World) (ho : OutAt w B g A0 c0 bs) (hn : n < 18446744073709551616) (hl : bs.length ≤ 1099511627776) :
    Calls Tryz.prog 72 #[.pointer (some ⟨g, 0, none⟩), .int .u64 (n : Int)] w (OutPost B g A0 (bs ++ Pk.num n) w) := by
  go_enter Tryz.func72, Tryz.ntmps72
  go_wp2
  go_loopw [1] (fun v wr => ∃ (m f : Nat) (L : List UInt8) (A : Option Addr) (c : Nat), v = .int .u64 (m : Int) ∧ m < 2 * 128 ^ f ∧ Hid (bs ++ Pk.num n = L ++ Pk.numF (f + 1) m) ∧ L.length + f ≤ bs.length + 9 ∧ m < 18446744073709551616 ∧ OutAt wr B g A c L ∧ OStep g w A0 wr A) (fun v _ => (intOf v).toNat)
  case atStart => exact ⟨n, 9, bs, A0, c0, rfl, by simpa using hn, rfl, by omega, hn, ho, OStep.refl _ _ _⟩
  case round =>
    obtain ⟨m, f, L, A, c, rfl, hm, hpre, hlen, hm64, ho', hf⟩ := hrel
    have hne := ho'.ne
    obtain ⟨hb, hown, hB⟩ := ho'
    have h0 := hb.cell 0
    have f0 := hb.frozen 0
    have hg := hb.lt
    have hBs : B ≤ wr.heap.size := by omega
    by_cases hlt : m < 128
    · go_wp2_with (first | (at_builtin; go_loud (refine wpList_app (.tmp 24) (.tmp 27) 28 rfl rfl rfl rfl slB (hown.alloc _) (Rd.one _ _ _) (by simp [Value.oneCell']) (by omega) (by omega) (by simp; omega) ?_); intro A1 c1 w1 hown1 hf1 hat1; have hb1 := (hb.alloc (.cells #[.int .u8 (m : Int)] 5)).fr hf1 hne; have h1 := hb1.cell 0; have q1 := hb1.frozen 0))
      go_end0
      refine ⟨rfl, A1, c1, OutAt.mk' (hb1.set 0 (.slice A1 (L.length + 1) c1)) (hown1.setOne (hown1.ne hb1 (by decide))) hB ?_, ((hf.alloc (.cells #[.int .u8 (m : Int)] 5)).app hf1 hat1).set 0 _⟩
      rw [hpre.out]
      simp [Pk.numF, hlt, Bv]
      omega
    · have hmore := Lib.hid (u8_more m)
      go_wp2_with (first | (at_builtin; go_loud (refine wpList_app (.tmp 10) (.tmp 14) 28 rfl rfl rfl rfl slB (hown.alloc _) (Rd.one _ _ _) (by simp [Value.oneCell']) (by omega) (by omega) (by simp; omega) ?_); intro A1 c1 w1 hown1 hf1 hat1; have hb1 := (hb.alloc (.cells #[.int .u8 (bits BinOp.or IntKind.u8 ((m : Int) % 256) 128)] 5)).fr hf1 hne; have h1 := hb1.cell 0; have q1 := hb1.frozen 0))
      go_roundw
      case rel =>
        have hf0 : f ≠ 0 := by rintro rfl; omega
        obtain ⟨f', rfl⟩ : ∃ f', f = f' + 1 := ⟨f - 1, by omega⟩
        refine ⟨m / 128, f', L ++ [UInt8.ofNat (m % 128 + 128)], A1, c1, by go_num, ?_, ?_, ?_, by omega, OutAt.mk' (hb1.set 0 (.slice A1 (L.length + 1) c1)) (hown1.setOne (hown1.ne hb1 (by decide))) hB ?_,
          ((hf.alloc (.cells #[.int .u8 (bits BinOp.or IntKind.u8 ((m : Int) % 256) 128)] 5)).app hf1 hat1).set 0 _⟩
        · rw [Nat.div_lt_iff_lt_mul (by omega)]; rw [Nat.pow_succ] at hm; omega
        · show _ = _
          rw [hpre.out]
          conv => lhs; unfold Pk.numF
          rw [if_neg hlt]
          simp
        · simp; omega
        · rw [hmore.out]
          have := Pk.tn (m % 128 + 128) (by omega)
          simp [Bv]
          omega
      case measure => simp [intOf]; omega

theorem fold_bits (n : Int) (h0 : -9223372036854775808 ≤ n) (h1 : n ≤ 9223372036854775807) :
    bits BinOp.xor IntKind.u64 (IntKind.u64.wrap (IntKind.u64.wrap n * 2)) (IntKind.u64.wrap (n / 9223372036854775808)) = (Pk.fold n : Int) := by
  unfold Pk.fold
  by_cases hn : n < 0
  · rw [if_pos hn]
    obtain ⟨k, hk⟩ : ∃ k : Nat, n = -((k : Int) + 1) := ⟨(-n - 1).toNat, by omega⟩
    subst hk
    have e1 : IntKind.u64.wrap (IntKind.u64.wrap (-((k : Int) + 1)) * 2) = ((18446744073709551614 - 2 * k : Nat) : Int) := by rw [IntKind.wrap_u64, IntKind.wrap_u64]; omega
    have e2 : IntKind.u64.wrap (-((k : Int) + 1) / 9223372036854775808) = ((18446744073709551615 : Nat) : Int) := by rw [IntKind.wrap_u64]; omega
    rw [e1, e2, u64_xor_nat _ _ (by omega) (by omega)]
    have e3 : (18446744073709551614 - 2 * k) ^^^ 18446744073709551615 = 2 * k + 1 := by
      have h := BitVec.toNat_not (x := BitVec.ofNat 64 (18446744073709551614 - 2 * k))
      rw [← BitVec.xor_allOnes, BitVec.toNat_xor, BitVec.toNat_allOnes, BitVec.toNat_ofNat, Nat.mod_eq_of_lt (by omega)] at h
      rw [show (18446744073709551615 : Nat) = 2 ^ 64 - 1 from rfl, h]
      omega
    rw [e3]
    omega
  · rw [if_neg hn]
    have e1 : IntKind.u64.wrap (IntKind.u64.wrap n * 2) = (((2 * n).toNat : Nat) : Int) := by rw [IntKind.wrap_u64, IntKind.wrap_u64]; omega
    have e2 : IntKind.u64.wrap (n / 9223372036854775808) = ((0 : Nat) : Int) := by rw [IntKind.wrap_u64]; omega
    rw [e1, e2, u64_xor_nat _ _ (by omega) (by omega), Nat.xor_zero]

theorem fold_any (n : Int) (w : World) (h0 : -9223372036854775808 ≤ n) (h1 : n ≤ 9223372036854775807) :
    Calls Tryz.prog 114 #[.int .i64 n] w fun e w' => e = .returned (.int .u64 (Pk.fold n : Int)) ∧ w = w' := by
  have hx := Lib.hid (fold_bits n h0 h1)
  go_enter Tryz.func114, Tryz.ntmps114
  go_wp2
  go_ret
  exact ⟨congrArg (fun z => Ending.returned (.int .u64 z)) hx.out, rfl⟩

theorem outInt_any (B g : Nat) (A : Option Addr) (c : Nat) (bs : List UInt8) (n : Int) (w : World) (ho : OutAt w B g A c bs) (h0 : -9223372036854775808 ≤ n) (h1 : n ≤ 9223372036854775807) (hl : bs.length ≤ 1099511627776) :
    Calls Tryz.prog 96 #[.pointer (some ⟨g, 0, none⟩), .int .i64 n] w (OutPost B g A (bs ++ Pk.int n) w) := by
  go_enter Tryz.func96, Tryz.ntmps96
  go_wp2_with (fail)
  refine (fold_any n _ h0 h1).mono ?_
  rintro _ w1 ⟨rfl, rfl⟩
  go_wp2_with (fail)
  refine (outNum_any B g A c bs (Pk.fold n) _ ho (Pk.fold_lt h0 h1) hl).mono ?_
  rintro _ w1 ⟨rfl, A1, c1, ho1, hf1⟩
  go_wp2
  go_end0
  exact ⟨rfl, A1, c1, ho1, hf1⟩

theorem outIdent_any (B g : Nat) (A : Option Addr) (c : Nat) (bs : List UInt8) (b s : Int) (u : Nat) (w : World) (ho : OutAt w B g A c bs) (b0 : -9223372036854775808 ≤ b) (b1 : b ≤ 9223372036854775807)
    (s0 : -9223372036854775808 ≤ s) (s1 : s ≤ 9223372036854775807) (hu : u < 18446744073709551616) (hl : bs.length ≤ 1099511627700) :
    Calls Tryz.prog 99 #[.pointer (some ⟨g, 0, none⟩), .agg #[.int .i64 b, .int .i64 s, .int .u64 (u : Int)]] w (OutPost B g A (bs ++ Pk.ident b s u) w) := by
  have hb0 := Blk.new w 27 #[.int .i64 b, .int .i64 s, .int .u64 (u : Int)]
  have ho0 := ho.alloc (.cells #[.int .i64 b, .int .i64 s, .int .u64 (u : Int)] 27)
  have l1 := Pk.int_len b
  have l2 := Pk.int_len s
  go_enter Tryz.func99, Tryz.ntmps99
  go_wp2_with (fail)
  refine (outInt_any B g A c bs b _ ho0 b0 b1 (by omega)).mono ?_
  rintro _ w1 ⟨rfl, A1, c1, ho1, hf1⟩
  have hb1 := hb0.fr hf1.fr (ho0.far hb0 (by decide) (by decide))
  have h1 := hb1.cell 1
  go_wp2_with (fail)
  refine (outInt_any B g A1 c1 _ s _ ho1 s0 s1 (by simp; omega)).mono ?_
  rintro _ w2 ⟨rfl, A2, c2, ho2, hf2⟩
  have hb2 := hb1.fr hf2.fr (ho1.far hb1 (by decide) (by decide))
  have h2 := hb2.cell 2
  go_wp2_with (fail)
  refine (outNum_any B g A2 c2 _ u _ ho2 hu (by simp; omega)).mono ?_
  rintro _ w3 ⟨rfl, A3, c3, ho3, hf3⟩
  go_wp2
  go_end0
  refine ⟨rfl, A3, c3, ?_, (((OStep.refl g w A).alloc _).trans hf1).trans (hf2.trans hf3)⟩
  simpa [Pk.ident] using ho3

theorem outText_any (B g : Nat) (A : Option Addr) (c : Nat) (bs l : List UInt8) (w : World) (ho : OutAt w B g A c bs) (hl : bs.length + l.length ≤ 1099511627700) :
    Calls Tryz.prog 103 #[.pointer (some ⟨g, 0, none⟩), .string (str l)] w (OutPost B g A (bs ++ Pk.text l) w) := by
  have hs := str_size l
  have hil := Pk.int_len (l.length : Int)
  go_enter Tryz.func103, Tryz.ntmps103
  go_wp2_with (fail)
  refine (outInt_any B g A c bs _ _ ho (by omega) (by omega) (by omega)).mono ?_
  rintro _ w1 ⟨rfl, A1, c1, ho1, hf1⟩
  clear hs
  generalize hL : bs ++ Pk.int (l.length : Int) = L at ho1
  have hL' := Lib.hid hL
  have hll : L.length ≤ bs.length + 10 := by rw [← hL]; simp; omega
  clear hL
  have hne := ho1.ne
  obtain ⟨hb, hown, hB⟩ := ho1
  have h0 := hb.cell 0
  have f0 := hb.frozen 0
  have hBs : B ≤ w1.heap.size := Nat.le_trans hB (Nat.le_of_lt hb.lt)
  go_wp2_with (first | (at_builtin; go_loud (refine wpList_app_str (.tmp 12) (.tmp 13) 28 9 rfl rfl rfl rfl slB Tryz.underlying9 hown (by omega) (by omega) ?_); intro A2 c2 w2 hown2 hf2 hat2; have hb2 := hb.fr hf2 hne; have h2 := hb2.cell 0; have q2 := hb2.frozen 0))
  go_end0
  refine ⟨rfl, A2, c2, OutAt.mk' (hb2.set 0 _) (hown2.setOne (hown2.ne hb2 (by decide))) hB ?_, (hf1.app hf2 hat2).set 0 _⟩
  rw [← List.map_append, ← hL'.out]
  simp [Pk.text]

theorem outBytes_any (B g : Nat) (A : Option Addr) (c : Nat) (bs : List UInt8) (w : World) (ho : OutAt w B g A c bs) (hl : bs.length ≤ 1099511627776) :
    Calls Tryz.prog 73 #[.pointer (some ⟨g, 0, none⟩)] w (NewB w bs) := by
  obtain ⟨hb, hown, hB⟩ := ho
  have h0 := hb.cell 0
  have hnil := Own.nil w w.heap.size 5 1
  go_enter Tryz.func73, Tryz.ntmps73
  go_wp2_with (first | (at_builtin; go_loud (refine wpList_app (.const (.slice none 0 0)) (.tmp 6) 28 rfl rfl rfl rfl slB hnil hown.rd (Bv_one _) (by omega) (by omega) (Nat.le_refl _) ?_); intro A2 c2 w2 hown2 hf2 hat2))
  go_ret
  rw [Nat.zero_add, List.nil_append] at hown2
  exact ⟨A2, c2, by rw [← Nat.zero_add bs.length]; rfl, hown2, hf2.mono (fun k _ hk => by cases hk)⟩
end Go.Proofs.YtahcddlgghipjaaGreatDoor
