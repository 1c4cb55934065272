/-
  Layer 4, PackOwns: what was handed in may be changed, and what was answered too.
  Condition: none.
-/
import Derived.Test.YtkppihpdhildjaaPackPut
import Derived.Test.YtkppihpdhildjaaRef04R3
import Derived.Test.YtkppihpdhildjaaOpenAny
namespace Go.Proofs.Ytkppihpdhildjaa
open Go.RowKit
attribute [local go_sem ↓] Go.wp_at_zero Go.wp_at_succ

set_option maxRecDepth 100000 in
set_option maxHeartbeats 4000000 in
theorem owns_any (A : Option Addr) (c : Nat) (b : List UInt8) (by_ : UInt8) (w : World) (hr : Rd w w.heap.size 1 A b.length (b.map Bv)) (hc : b.length ≤ c) (hc' : c ≤ 9223372036854775807) :
    Calls Try.prog 5 #[.slice A b.length c, .int .u8 (by_.toNat : Int)] w (LivesPost w) := by
  have hby := by_.toNat_lt
  go_enter Try.func5, Try.ntmps5
  go_wp2_with (fail)
  refine (few_any A c b 20 w hr hc hc' (by omega)).mono ?_
  rintro _ w1 ⟨A1, c1, rfl, hown1, hf1⟩
  have hs1 := hf1.size
  have hl0 : (b.take 20).length ≤ 20 := List.length_take_le _ _
  obtain ⟨L0, hL0⟩ := hid_ex (b.take 20)
  rw [hL0.out] at hown1 hl0
  rw [hL0.out]
  generalize hn1 : L0.length = n1 at *
  have hcap1 := hown1.cap
  go_wp2_with (first | (at_builtin; go_loud (refine wpList_app (.tmp 13) (.tmp 14) 24 rfl rfl rfl rfl slB (hown1.alloc _) (Rd.one _ _ _) (by simp [Value.oneCell']) (by omega) (by omega) (by simp; omega) ?_); intro A2 c2 w2 hown2 hf2 hat2) | fail)
  have hs2 := hf2.size
  simp at hs2
  obtain ⟨F, hF⟩ := hid_ex (L0 ++ [2])
  have hFl : F.length = n1 + 1 := by rw [← hF.out, List.length_append, hn1]; rfl
  rw [show L0.map Bv ++ [Value.int IntKind.u8 2] = F.map Bv by rw [← hF.out, List.map_append]; rfl] at hown2
  clear hF hL0
  have hcap2 := hown2.cap
  have hrow2 := hown2.row
  have hwf2 : Fr Non w w2 := (hf1.alloc (.cells #[.int .u8 2] 5)).trans hf2 (hown1.notNon (Nat.le_refl _))
  generalize hm : n1 + 1 = m at *
  have hm0 : 0 < m := by omega
  have hm21 : m ≤ 21 := by omega
  have hrF2 : Rd w2 w2.heap.size 1 A2 F.length (F.map Bv) := by rw [hFl]; exact hown2.rd
  have hFew := few_any A2 c2 F 30 w2 hrF2 (by omega) (by omega) (by omega)
  rw [List.take_of_length_le (show F.length ≤ 30 by omega)] at hFew
  have hFl' := Lib.hid hFl
  rw [hFl] at hFew
  clear hFl hn1
  refine hFew.mono ?_
  clear hFew
  rintro _ w3 ⟨A3, c3, rfl, hown3, hf3⟩
  rw [hFl'.out] at hown3
  rw [hFl'.out]
  have hs3 := hf3.size
  have hrow3 := hown3.row
  have hcap3 := hown3.cap
  have hown2a := hown2.fr hf3 (fun _ _ e => e)
  go_wp2_with (fail)
  refine (opened_any w3.heap.size m c2 A2 F w3 hFl' hown2a.rd (by omega)).mono ?_
  rintro _ w4 ⟨g, A4, c4, rfl, hin4, hown4, hf4, hg4, hrg4, hF62⟩
  have hs4 := hf4.size
  have hrow4 := hown4.row
  have hgl := hin4.lt
  have hown2b := hown2a.fr hf4 (fun _ _ e => e)
  have hown3b := hown3.fr hf4 (fun _ _ e => e)
  obtain ⟨k2, cur2, x2, rfl, hk2, hk20, hk2b⟩ := hown2b.head hm0
  have hk2w := hrow2 k2 rfl
  have hc20 := hk2.cell 0
  rw [hk20] at hc20
  have hfz2 := hk2.frozen 0
  have hx2 := x2.toNat_lt
  unfold Bv at hc20
  go_wp2_with (fail)
  go_wp2
  obtain ⟨u, hu⟩ := hid_ex (Value.int IntKind.u8 (bits BinOp.xor IntKind.u8 (x2.toNat : Int) (by_.toNat : Int)))
  rw [hu.out]
  clear hu hc20
  have hfS := (Fr.refl (One k2) w4).setOne 0 u
  have hin5 := (inAt_of (hin4.fr hfS (by unfold One; omega)) (hown4.fr hfS (fun k hk => by have := hrow4 k hk; unfold One; omega)) hrg4 hF62).alloc (.cells #[.slice A3 m c3, .int .i64 0, .int .i64 0] 44)
  have hsz5 : (w4.setCell ⟨k2, 0, none⟩ u).heap.size = w4.heap.size := by simp [World.setCell]
  have hown35 := (hown3b.fr hfS (fun k hk => by have := hrow3 k hk; unfold One; omega)).alloc (.cells #[.slice A3 m c3, .int .i64 0, .int .i64 0] 44)
  have hi5 : IAt ((w4.setCell ⟨k2, 0, none⟩ u).alloc (.cells #[.slice A3 m c3, .int .i64 0, .int .i64 0] 44)) w3.heap.size w4.heap.size F 0 0 := by
    have hb := Blk.new (w4.setCell ⟨k2, 0, none⟩ u) 44 #[.slice A3 m c3, .int .i64 0, .int .i64 0]
    rw [hsz5] at hb
    refine ⟨A3, c3, ?_, ?_, hs4, Nat.zero_le _, hF62.out, ?_⟩
    · rw [hFl'.out]; exact hb
    · rw [hFl'.out]; exact hown35.rdAt (fun k hk => (hrow3 k hk).2)
    · rw [hFl'.out]; exact hcap3.1
  have hf5 : Fr Non w ((w4.setCell ⟨k2, 0, none⟩ u).alloc (.cells #[.slice A3 m c3, .int .i64 0, .int .i64 0] 44)) :=
    ((((hwf2.trans hf3 (fun _ _ e => e)).trans hf4 (fun _ _ e => e))).trans hfS (fun i hi e => by unfold One at e; omega)).alloc _
  have hsz5' : ((w4.setCell ⟨k2, 0, none⟩ u).alloc (.cells #[.slice A3 m c3, .int .i64 0, .int .i64 0] 44)).heap.size = w4.heap.size + 1 := by
    rw [← hsz5]; simp
  obtain ⟨v, a', e', hx⟩ := hid_ex3 (Pk.rdInt F 0 0)
  generalize (w4.setCell ⟨k2, 0, none⟩ u).alloc (.cells #[.slice A3 m c3, .int .i64 0, .int .i64 0] 44) = w5 at *
  have hin5d : InAt w5.drew g g F 0 0 := hin5
  have hi5d : IAt w5.drew w3.heap.size w4.heap.size F 0 0 := hi5
  refine wp_region_any (by kernel_rfl) ?_
  change wpAny _ _ _ _ _ _ _ (World.drew _)
  refine wpAny_take (i := 0) (v := ?_) rfl (by kernel_rfl) (by kernel_rfl) (by kernel_rfl) (fun _ _ _ h => h) (Or.inl ⟨by rfl, by intro w; go_simp; try with_reducible rfl⟩) ?_
  refine wpAny_take (i := 2) (v := ?_) rfl (by kernel_rfl) (by kernel_rfl) (by kernel_rfl) (fun _ _ _ h => h) (Or.inl ⟨by rfl, by intro w; go_simp; try with_reducible rfl⟩) ?_
  refine wpAny_only 1 (by kernel_rfl) rfl (by rfl) (fun K hK => ?_)
  go_simp
  go_wp2_with (go_at_call 20; go_loud (with_reducible refine (inInt_any g g F 0 0 v a' e' _ hin5d hx).mono ?_); rintro _ w6 ⟨rfl, hin6, hf6⟩; have hi6 := hi5d.fr hf6 (fun k hk => One.not (by omega) hk) (by unfold One; omega))
  (first | (refine hK _ _ ?_; clear hK K) | skip)
  refine wpAny_only 3 (by kernel_rfl) rfl (by rfl) (fun K hK => ?_)
  go_simp
  go_wp2_with (go_at_call 21; go_loud (with_reducible refine (iInt_any w3.heap.size w4.heap.size F 0 0 v a' e' _ hi6 hx).mono ?_); rintro _ w7 ⟨rfl, hi7, hf7⟩; have hin7 := hin6.fr hf7 (fun k hk => One.not (by omega) hk) (by unfold One; omega); obtain ⟨A7, c7, ib7, ir7, _, ia7, _⟩ := hi7; have d0 := ib7.cell 0; have d1 := ib7.cell 1; have d2 := ib7.cell 2)
  (first | (refine hK _ _ ?_; clear hK K) | skip)
  refine wpAny_take (i := 4) (v := ?_) rfl (by kernel_rfl) (by kernel_rfl) (by kernel_rfl) (fun _ _ _ h => h) (Or.inl ⟨by rfl, by intro w; go_simp; try with_reducible rfl⟩) ?_
  refine wpAny_take (i := 5) (v := ?_) rfl (by kernel_rfl) (by kernel_rfl) (by kernel_rfl) (fun _ _ _ h => h) (Or.inl ⟨by rfl, by intro w; go_simp; try with_reducible rfl⟩) ?_
  refine wpAny_tail 6 _ (by kernel_rfl) (by rfl) (by rfl) (by kernel_rfl) ?_
  go_simp
  repeat (go_big_quiet_step ((go_at_call 22; exact Calls.quiet_of_same (inErr_quiet g g F a' e' _ (hin7.drewN _)))))
  refine wpQuiet_nil ?_
  (first | (intro _ hw'; obtain ⟨nq, hw''⟩ := hw'; subst hw'') | intro nq)
  have hown37 := (((hown35.drew.fr hf6 (fun k hk => by have := hrow3 k hk; unfold One; omega)).fr hf7 (fun k hk => by have := hrow3 k hk; unfold One; omega)).drewN nq).alloc (.cells #[.slice none 0 0] 26)
  have hf8 := (((hf5.drew.trans hf6 (fun i hi e => by have := hwf2.size; unfold One at e; omega)).trans hf7 (fun i hi e => by have := hwf2.size; unfold One at e; omega)).drewN nq).alloc (.cells #[.slice none 0 0] 26)
  have q3 := run_str 24 5 9 Try.underlying24 Try.underlying5 Try.underlying9 _ _ _ _ c3 _ hown37.rd
  have ho8 : OutAt ((w7.drewN nq).alloc (.cells #[.slice none 0 0] 26)) w7.heap.size w7.heap.size none 0 [] := ⟨Blk.new (w7.drewN nq) _ _, Own.nil _ _ _ _, Nat.le_refl _⟩
  have hs7 := hf7.size
  have hs6 := hf6.size
  simp at hs6
  have hF21 : F.length ≤ 21 := by rw [hFl'.out]; exact hm21
  go_wp2_with (fail)
  refine (outText_any w7.heap.size w7.heap.size none 0 [] F _ ho8 (by simp; omega)).mono ?_
  rintro _ w9 ⟨rfl, A9, c9, ho9, hst9⟩
  have hs9 := hst9.fr.size
  simp at hs9
  have hf9 := hf8.trans hst9.fr (fun k hk e => by
    have := hwf2.size
    rcases e with e | e
    · omega
    · simp [rowOf] at e)
  have hown39 := hown37.fr hst9.fr (fun k hk e => by
    have := hrow3 k hk
    rcases e with e | e
    · omega
    · simp [rowOf] at e)
  obtain ⟨T, hT⟩ := hid_ex (Pk.text F)
  have hT1 : 0 < T.length ∧ T.length ≤ 31 := by
    have h1 := Pk.text_len F
    have h2 : F.length ≤ (Pk.text F).length := by unfold Pk.text; rw [List.length_append]; omega
    have h3 := hFl'.out
    rw [← hT.out]; omega
  rw [List.nil_append, hT.out] at ho9
  obtain ⟨h10, h131⟩ := hT1
  have hT1' := Lib.hid h10
  clear h10
  go_wp2_with (fail)
  refine (outBytes_any _ _ _ _ _ _ ho9 (by omega)).mono ?_
  rintro _ w10 ⟨A10, c10, rfl, hown10, hf10⟩
  have hs10 := hf10.size
  have ho10 := ho9.fr hf10 (fun e => e) (fun _ _ e => e)
  have hown310 := hown39.fr hf10 (fun _ _ e => e)
  go_wp2_with (fail)
  refine (outBytes_any _ _ _ _ _ _ ho10 (by omega)).mono ?_
  rintro _ w11 ⟨A11, c11, rfl, hown11, hf11⟩
  have hs11 := hf11.size
  have ho11 := ho10.fr hf11 (fun e => e) (fun _ _ e => e)
  have hown311 := hown310.fr hf11 (fun _ _ e => e)
  have hown1011 := hown10.fr hf11 (fun _ _ e => e)
  have hfw11 := (hf9.trans hf10 (fun _ _ e => e)).trans hf11 (fun _ _ e => e)
  have hrow10 := hown10.row
  obtain ⟨k10, cur10, x10, rfl, hk10, hk100, hk10b⟩ := hown1011.head hT1'.out
  have hk10w := hrow10 k10 rfl
  have hc100 := hk10.cell 0
  rw [hk100] at hc100
  have hfz10 := hk10.frozen 0
  have hx10 := x10.toNat_lt
  have hcap10 := hown10.cap
  unfold Bv at hc100
  have hpos : (0 : Int) < (T.length : Int) := by have := hT1'.out; omega
  go_wp2_with (fail)
  obtain ⟨u2, hu2⟩ := hid_ex (Value.int IntKind.u8 (bits BinOp.xor IntKind.u8 (bits BinOp.xor IntKind.u8 (x10.toNat : Int) (by_.toNat : Int)) 1))
  rw [hu2.out]
  clear hu2 hc100
  have hfS2 := (Fr.refl (One k10) w11).setOne 0 u2
  have hrow9 := ho11.2.1.row
  have hrow9' := ho9.2.1.row
  have hrow11 := hown11.row
  have ho12 := ho11.fr hfS2 (by have := ho9.lt; unfold One; omega) (fun k hk => by have := hrow9' k hk; unfold One; omega)
  have hown312 := hown311.fr hfS2 (fun k hk => by have := hrow3 k hk; unfold One; omega)
  have hown1112 := hown11.fr hfS2 (fun k hk => by have := hrow11 k hk; unfold One; omega)
  have hf12 := hfw11.trans hfS2 (fun i hi e => by have := hwf2.size; unfold One at e; omega)
  generalize w11.setCell ⟨k10, 0, none⟩ u2 = w12 at *
  have ho12d : OutAt w12.drew w7.heap.size w7.heap.size A9 c9 T := ho12
  have hown312d : Own w12.drew w2.heap.size 5 1 A3 m c3 (F.map Bv) := hown312
  have hown1112d : Own w12.drew w10.heap.size 5 1 A11 T.length c11 (T.map Bv) := hown1112
  have hText : Hid (∀ w, Calls Try.prog 24 #[.string (str F)] w (NewB w T)) := fun w => by have h := text04_any F w (by omega); rwa [hT.out] at h
  have qa := run_str 24 5 9 Try.underlying24 Try.underlying5 Try.underlying9 _ _ _ _ c3 _ hown312d.rd
  have qb := run_str 24 5 9 Try.underlying24 Try.underlying5 Try.underlying9 _ _ _ _ c11 _ hown1112d.rd
  go_region_with (first
    | (go_at_call 24; (with_reducible refine (hText.out _).mono ?_); rintro _ w13 ⟨A13, c13, rfl, hown13, hf13⟩; have qa1 := run_str 24 5 9 Try.underlying24 Try.underlying5 Try.underlying9 _ _ _ _ c3 _ (hown312d.fr hf13 (fun _ _ e => e)).rd; have qb1 := run_str 24 5 9 Try.underlying24 Try.underlying5 Try.underlying9 _ _ _ _ c11 _ (hown1112d.fr hf13 (fun _ _ e => e)).rd; have qc1 := run_str 24 5 9 Try.underlying24 Try.underlying5 Try.underlying9 _ _ _ _ c13 _ hown13.rd)
    | (go_at_call 14; (with_reducible refine (outBytes_any _ _ _ _ _ _ (ho12d.fr hf13 (fun e => e) (fun _ _ e => e)) (by omega)).mono ?_); rintro _ w14 ⟨A14, c14, rfl, hown14, hf14⟩; have qa2 := run_str 24 5 9 Try.underlying24 Try.underlying5 Try.underlying9 _ _ _ _ c3 _ ((hown312d.fr hf13 (fun _ _ e => e)).fr hf14 (fun _ _ e => e)).rd; have qb2 := run_str 24 5 9 Try.underlying24 Try.underlying5 Try.underlying9 _ _ _ _ c11 _ ((hown1112d.fr hf13 (fun _ _ e => e)).fr hf14 (fun _ _ e => e)).rd; have qc2 := run_str 24 5 9 Try.underlying24 Try.underlying5 Try.underlying9 _ _ _ _ c14 _ hown14.rd)
    | (go_at_call 15; (with_reducible refine (lives_any _).mono ?_); rintro _ w15 ⟨rfl, hf15⟩; have qa3 := run_str 24 5 9 Try.underlying24 Try.underlying5 Try.underlying9 _ _ _ _ c3 _ (((hown312d.fr hf13 (fun _ _ e => e)).fr hf14 (fun _ _ e => e)).fr hf15 (fun _ _ e => e)).rd; have qb3 := run_str 24 5 9 Try.underlying24 Try.underlying5 Try.underlying9 _ _ _ _ c11 _ (((hown1112d.fr hf13 (fun _ _ e => e)).fr hf14 (fun _ _ e => e)).fr hf15 (fun _ _ e => e)).rd))
  all_goals
    go_wp2
    go_ret
    exact ⟨rfl, ((hf12.drew.trans hf13 (fun _ _ e => e)).trans hf14 (fun _ _ e => e)).trans hf15 (fun _ _ e => e)⟩
end Go.Proofs.Ytkppihpdhildjaa
