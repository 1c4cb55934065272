/-
  The references' generator of operations (huddleref11.Op), its history.
  Conditions: as every slice has.
-/
import Derived.Test.YtahcddlgghipjaaGreatDoorGen4
namespace Go.Proofs.YtahcddlgghipjaaGreatDoor
open Go.RowKit
attribute [local go_sem ↓] Go.wp_at_zero Go.wp_at_succ
namespace Oq
attribute [local go_sem] Bool.not_false Bool.not_true

set_option maxRecDepth 100000 in
set_option maxHeartbeats 40000000 in
/-- What is left behind the history, and that it is enough. -/
def genB : PSigma (fun P : Prop => PLift P → genA.1) := PSigma.mk _ (by
  intro hP
  conv => whnf
  intro w w1 L g b s go kk bb ss wc n c A hres fr1 hsz hg hb hs hbb hss hcut u5 u6 u7 u8 u9 u11 u12 u13 u14 u15 u16 u17 u18 u19 u20 u21 u22 u23 u24 u25 u26 u27 u28 u29 u30 u31 u32 u33 u34 u35 u36 u37 u38 u39 u40 u41 u42 u43 u44 u45 u46 u47 u48 u49 u50 u51 u52 u53 u54 u55 u56 u57 u58 u59 u60 u61 u62 u63 u64 u65 u66 u67 u68 u69 u70 u71 u72 u73 u74 u75 u76 u77 u78 u80 u81 u82 u83 u84 u85 u86 u87 u88 u89 u90 u91 u92 u93 u94 u95 u96 u97 u98 u99 u100 u101 u102 u103 u104 u105 u106 u107 u108 u109 u110 u111 u112 u113 u114 u115 u116 u117 u118 u119 u120 u121 u122 u123 u124 u125 u126 u127 u128 u129 u130 u131 u132 u133 u134 u135 u136 u137 u138 u139 u140 u141 u142 u143 u144 u145 u146 u147 u148 u149 u150 u151 u152 u153 u154 u155 u156 u157 u158 u159 u160 u161 u162 u163 u164 u165 u166 u167 u168 u169 u170 u171 u172 u173 u174 u175 u176 u177 u178 u179 u180 u181 u182 u183 u184 u185 u186 u187 u188 u189 u190 u191 u192 u193 u194 u195 u196 u197 u198 u199 u200 u201 u202 u203 u204 u205 u206 u207 u208 u209 u210 u211 u212 u213 u214 u215 u216 u217 u218 u219 u220 u221 u222 u223 u224 u225 u226 u227 u228 u229 u230 u231 u232 u233 u234 u235 u236 u237 u238 u239 u240 u241 u242 u243 u244 u245 u246 u247 u248 u249 u250 u251 u252 u253 u254 u255 u256 u257 u258 u259 u260 u261 u262 u263 u264 u265 u266 u267 u268 u269 u270 u271
  obtain ⟨i, x, gs, hi400, xb, xs, xk, xhA, xhC, xh, xchk, xr, xs0⟩ := hcut
  generalize wc = W6 at *
  have Xb := Lib.hid xb
  have Xs := Lib.hid xs
  have Xh := Lib.hid (And.intro xhA (And.intro xhC xh))
  have Xc := Lib.hid xchk
  have Xr := Lib.hid (And.intro xr xs0)
  clear xb xs xk xhA xhC xh xchk xr xs0
  have lk : W6.cell? ⟨go, 2, none⟩ = some (.int .i64 x.kind) := gs.blk.cell 2
  go_upto_region 64 with (fail)
  rename_i K hK K2 hK2
  go_cut [251] (fun s wc => W6 = wc ∧ s = .bool (x.kind == 2 || x.kind == 13))
  case first =>
    clear hP
    as_aux_lemma =>
    by_cases k2 : x.kind = 2
    · have f2 := beq_t k2
      clear k2
      go_wp2_with (fail)
      go_meet
      exact ⟨rfl, by rw [f2]; rfl⟩
    · have f2 := beq_f k2
      clear k2
      by_cases k3 : x.kind = 13
      · have f3 := beq_t k3
        clear k3
        go_wp2_with (fail)
        go_meet
        exact ⟨rfl, by rw [f2, f3]; rfl⟩
      · have f3 := beq_f k3
        clear k3
        go_wp2_with (fail)
        go_meet
        exact ⟨rfl, by rw [f2, f3]; rfl⟩
  case rest =>
  obtain ⟨rfl, rfl⟩ := hcut
  clear lk
  go_upto_if 251 with (fail)
  go_cut [] (fun wc => P4 w1 wc g g go L bb ss)
  case first =>
    clear hP
    by_cases hh : (x.kind == 2 || x.kind == 13) = true
    · rw [hh]
      have hk2 : Hid (x.op.kind = 2 ∨ x.op.kind = 13) := by
        show x.kind = 2 ∨ x.kind = 13
        rw [Bool.or_eq_true, beq_iff_eq, beq_iff_eq] at hh
        exact hh
      clear hh
      as_aux_lemma =>
      go_wp2_with (fail)
      refine (next_e g g L i 3 _ gs.tk (by omega) (by omega) (by omega)).mono ?_
      rintro _ w4 ⟨v, v0, v1, rfl, tk4, f4⟩
      have gs4 := gs.one f4 tk4
      have gs4' : Gs w1 w4 g g go L (i + 1) { x with histA := none, histC := 0, hist := [] } := by
        have e : { x with histA := none, histC := 0, hist := [] } = x := by
          obtain ⟨e1, e2, e3⟩ := Xh.out
          cases x
          simp at e1 e2 e3
          subst e1 e2 e3
          rfl
        rw [e]
        exact gs4
      clear tk4 f4 gs gs4
      obtain ⟨M, rfl⟩ := Int.eq_ofNat_of_zero_le v0
      go_wp2_with (fail)
      go_loopw [10] (fun v wr => ∃ (m j : Nat) (A : Option Addr) (c : Nat) (hs : List SlL), v = .int .i64 (m : Int) ∧ hs.length + m ≤ M ∧ j + 20 * m ≤ i + 1 + 20 * M ∧ Gs w1 wr g g go L j { x with histA := A, histC := c, hist := hs } ∧ Own wr g 58 4 A hs.length c (hs.flatMap SlL.cells) ∧ Hid (∀ y ∈ hs, y.f.named = true ∧ y.y.length ≤ 208)) (fun v _ => (intOf v).toNat)
      case atStart => exact ⟨M, i + 1, none, 0, [], rfl, by simp, by omega, gs4', Own.nil _ _ _ _, (fun x hx => by cases hx)⟩
      case round =>
        obtain ⟨m, j, A, c, hs', rfl, hm, hjm, gsr, own, hhs⟩ := hrel
        as_aux_lemma =>
        by_cases hm0 : m = 0
        · subst hm0
          go_wp2_with (fail)
          go_meet
          exact ⟨j, _, gsr, Xb.out, Xs.out, chk_hist (o := x.op) (l := hs'.map SlL.sl) Xc.out hk2.out (by rw [List.length_map]; omega) (fun y hy => by obtain ⟨z, hz, rfl⟩ := List.mem_map.1 hy; exact hhs.out z hz), Xr.out.1, Xr.out.2⟩
        · obtain ⟨m, rfl⟩ : ∃ j, m = j + 1 := ⟨m - 1, by omega⟩
          go_upto_block 10 with (fail)
          go_cut [] (fun wc => ∃ (j' : Nat) (A : Option Addr) (c : Nat) (hs'' : List SlL), Gs w1 wc g g go L j' { x with histA := A, histC := c, hist := hs'' } ∧ Own wc g 58 4 A hs''.length c (hs''.flatMap SlL.cells) ∧ j' ≤ j + 20 ∧ hs''.length = hs'.length + 1 ∧ Hid (∀ y ∈ hs'', y.f.named = true ∧ y.y.length ≤ 208))
          case first =>
            as_aux_lemma =>
            go_upto_region 68 with (fail)
            have gsd := gsr.drew
            have ownd : Own wr.drew g 58 4 A hs'.length c (hs'.flatMap SlL.cells) := own
            have hbt := gsr.tk
            obtain ⟨_, _, hbt, _⟩ := hbt
            have nrow : ∀ j, rowOf A = some j → ¬ One g j := fun j hj e => own.ne hbt (by decide) (by rw [hj]; exact congrArg some e)
            have z0 : wr.drew.cell? ⟨go, 24, none⟩ = some (.slice A hs'.length c) := gsr.blk.cell 24
            have h48 : (hs'.length + 1) * 48 ≤ 140737488355328 := by omega
            have h33 : hs'.length + 1 ≤ 9223372036854775807 := by omega
            have hj1 : j ≤ 900000 := by omega
            have hj2 : j + 3 ≤ 1000000 := by omega
            have hj3 : j + 3 + 1 ≤ 900000 := by omega
            go_region_law (first
              | (go_simp; go_at_call 14; (with_reducible refine (name_any g g L j _ gsd.tk hj1).mono ?_); rintro _ w5 ⟨y, yg, rfl, tk5, f5⟩; have gs5 := gsd.one f5 tk5; have own5 := ownd.fr f5 nrow; have z1 : w5.cell? ⟨go, 24, none⟩ = some (.slice A hs'.length c) := gs5.blk.cell 24; clear f5 tk5)
              | (go_simp; go_at_call 13; (with_reducible refine (next_e g g L (j + 3) 5 _ gs5.tk hj2 (by decide) (by decide)).mono ?_); rintro _ w6 ⟨v2, p2, q2, rfl, tk6, f6⟩; obtain ⟨nb, hnb⟩ : ∃ n : Nat, 8 + v2 = (n : Int) := ⟨(8 + v2).toNat, (by omega)⟩; have hnb2 : nb ≤ 12 := (by omega); have hnb3 : nb ≤ 1000 := (by omega); have e1 : IntKind.i64.wrap (8 + v2) = (nb : Int) := (by rw [hnb]; exact IntWalk.i64_in _ (by omega)); clear hnb; have gs6 := gs5.one f6 tk6; have own6 := own5.fr f6 nrow; have z2 : w6.cell? ⟨go, 24, none⟩ = some (.slice A hs'.length c) := gs6.blk.cell 24; clear f6 tk6)
              | (go_simp; go_at_call 18; (with_reducible refine (tbytes_any g g L (j + 3 + 1) nb _ gs6.tk hnb3 hj3).mono ?_); rintro _ w7 ⟨bs, A7, c7, rfl, rfl, own7, tk7, f7⟩; clear e1; have gs7 := gs6.one f7 tk7; have ownp := own6.fr f7 nrow; have z3 : w7.cell? ⟨go, 24, none⟩ = some (.slice A hs'.length c) := gs7.blk.cell 24; have z4 := cell_alloc z3 (.cells #[.int .i64 y.b, .int .i64 y.s, .int .u64 (y.u : Int), .slice A7 bs.length c7] 58); have hrdN := Rd.blk (n := 1) (size := 4) (Blk.new w7 58 #[.int .i64 y.b, .int .i64 y.s, .int .u64 (y.u : Int), .slice A7 bs.length c7]) rfl; have hone : ∀ u ∈ [Value.int .i64 y.b, Value.int .i64 y.s, Value.int .u64 (y.u : Int), Value.slice A7 bs.length c7], u.oneCell' = true := (by simp [Value.oneCell']); have hbase : g ≤ (w7.alloc (.cells #[.int .i64 y.b, .int .i64 y.s, .int .u64 (y.u : Int), .slice A7 bs.length c7] 58)).heap.size := (by rw [World.size_alloc]; exact Nat.le_of_lt (Nat.lt_succ_of_lt tk7.lt)); clear tk7)
              | (refine step_app (base := g) (.tmp 259) (.tmp 268) 31 (by rfl) (by rfl) (by rfl) (by rfl) slSl (ownp.alloc (.cells #[.int .i64 y.b, .int .i64 y.s, .int .u64 (y.u : Int), .slice A7 bs.length c7] 58)) hrdN hone h48 h33 hbase ?_; intro A8 c8 w8 own8 fr8 hat8; have hb8 := (gs7.alloc (.cells #[.int .i64 y.b, .int .i64 y.s, .int .u64 (y.u : Int), .slice A7 bs.length c7] 58)).blk.fr fr8 (fun e => ownp.ne gs7.blk (by decide) e); have z8 : w8.cell? ⟨go, 24, none⟩ = some _ := hb8.cell 24; have q8 := hb8.frozen 24))
            all_goals
              as_aux_lemma =>
              go_wp2_with (fail)
              go_meet
              have own8' : Own w8 g 58 4 A8 (hs'.length + 1) c8 ((hs' ++ [(⟨y, A7, c7, bs⟩ : SlL)]).flatMap SlL.cells) := by
                rw [List.flatMap_append, List.flatMap_cons, List.flatMap_nil, List.append_nil]
                exact own8
              have hlen : (hs' ++ [(⟨y, A7, c7, bs⟩ : SlL)]).length = hs'.length + 1 := by simp
              have hg6 := gs6.tk.lt
              have gs8 := (gs7.alloc (.cells #[.int .i64 y.b, .int .i64 y.s, .int .u64 (y.u : Int), .slice A7 bs.length c7] 58)).hist_app (ownp.alloc _) fr8 (hs' ++ [(⟨y, A7, c7, bs⟩ : SlL)]) A8 (hs'.length + 1) c8 hlen own8' (by
                intro z hz
                rcases List.mem_append.1 hz with hz | hz
                · exact (gs7.alloc _).own.seals z hz
                · rw [List.mem_singleton.1 hz]
                  exact ((RowAt.of_own own7).lower (Nat.le_of_lt hg6)).keepT ((Fr.refl Non w7).alloc _) (fun _ _ _ _ e => e))
              refine ⟨j + 3 + 1 + bs.length, A8, c8, _, gs8, ?_, by omega, hlen, ?_⟩
              · rw [hlen]
                exact own8'.setOne (own8.ne hb8 (by decide))
              · intro z hz
                rcases List.mem_append.1 hz with hz | hz
                · exact hhs.out z hz
                · rw [List.mem_singleton.1 hz]
                  exact ⟨yg.named, by show bs.length ≤ 208; omega⟩
          case rest =>
            obtain ⟨j', A', c', hs'', gs', own', hj, hpl, hpg⟩ := hcut
            go_wp2_with (fail)
            go_roundw
            case rel => exact ⟨m, j', A', c', hs'', by go_num, by omega, by omega, gs', own', hpg⟩
            case measure => first | (simp [intOf]; done) | (simp [intOf]; omega)
    · have hh' : (x.kind == 2 || x.kind == 13) = false := Bool.not_eq_true _ ▸ hh
      rw [hh']
      clear hh hh'
      go_wp2_with (fail)
      go_meet
      exact ⟨i, x, gs, Xb.out, Xs.out, Xc.out, Xr.out.1, Xr.out.2⟩
  case rest =>
  refine hK _ _ ?_
  clear hK K gs Xh Xc Xr Xb Xs hi400
  revert u5 u6 u7 u8 u9 u10 u11 u12 u13 u14 u15 u16 u17 u18 u19 u20 u21 u22 u23 u24 u25 u26 u27 u28 u29 u30 u31 u32 u33 u34 u35 u36 u37 u38 u39 u40 u41 u42 u43 u44 u45 u46 u47 u48 u49 u50 u51 u52 u53 u54 u55 u56 u57 u58 u59 u60 u61 u62 u63 u64 u65 u66 u67 u68 u69 u70 u71 u72 u73 u74 u75 u76 u77 u78 u80 u81 u82 u83 u84 u85 u86 u87 u88 u89 u90 u91 u92 u93 u94 u95 u96 u97 u98 u99 u100 u101 u102 u103 u104 u105 u106 u107 u108 u109 u110 u111 u112 u113 u114 u115 u116 u117 u118 u119 u120 u121 u122 u123 u124 u125 u126 u127 u128 u129 u130 u131 u132 u133 u134 u135 u136 u137 u138 u139 u140 u141 u142 u143 u144 u145 u146 u147 u148 u149 u150 u151 u152 u153 u154 u155 u156 u157 u158 u159 u160 u161 u162 u163 u164 u165 u166 u167 u168 u169 u170 u171 u172 u173 u174 u175 u176 u177 u178 u179 u180 u181 u182 u183 u184 u185 u186 u187 u188 u189 u190 u191 u192 u193 u194 u195 u196 u197 u198 u199 u200 u201 u202 u203 u204 u205 u206 u207 u208 u209 u210 u211 u212 u213 u214 u215 u216 u217 u218 u219 u220 u221 u222 u223 u224 u225 u226 u227 u228 u229 u230 u231 u232 u233 u234 u235 u236 u237 u238 u239 u240 u241 u242 u243 u244 u245 u246 u247 u248 u249 u250 u251 u252 u253 u254 u255 u256 u257 u258 u259 u260 u261 u262 u263 u264 u265 u266 u267 u268 u269 u270 u271
  revert A n c hcut hbb hss hg hb hs hres fr1 hsz
  revert w w1 wc g go L kk bb ss b s
  exact hP.down)
end Oq
end Go.Proofs.YtahcddlgghipjaaGreatDoor
