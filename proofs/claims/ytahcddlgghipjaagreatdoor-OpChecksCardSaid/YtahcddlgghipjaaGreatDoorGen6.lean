/-
  The references' generator of operations (huddleref11.Op), its end.
  Conditions: as every slice has.
-/
import Derived.Test.YtahcddlgghipjaaGreatDoorGen5
namespace Go.Proofs.YtahcddlgghipjaaGreatDoor
open Go.RowKit
attribute [local go_sem ↓] Go.wp_at_zero Go.wp_at_succ
namespace Oq
attribute [local go_sem] Bool.not_false Bool.not_true

set_option maxRecDepth 100000 in
set_option maxHeartbeats 40000000 in
theorem gen_last : genB.1 := by
  conv => whnf
  intro w w1 L g b s go kk bb ss wc n c A hres fr1 hsz hg hb hs hbb hss hcut u5 u6 u7 u8 u9 u10 u11 u12 u13 u14 u15 u16 u17 u18 u19 u20 u21 u22 u23 u24 u25 u26 u27 u28 u29 u30 u31 u32 u33 u34 u35 u36 u37 u38 u39 u40 u41 u42 u43 u44 u45 u46 u47 u48 u49 u50 u51 u52 u53 u54 u55 u56 u57 u58 u59 u60 u61 u62 u63 u64 u65 u66 u67 u68 u69 u70 u71 u72 u73 u74 u75 u76 u77 u78 u80 u81 u82 u83 u84 u85 u86 u87 u88 u89 u90 u91 u92 u93 u94 u95 u96 u97 u98 u99 u100 u101 u102 u103 u104 u105 u106 u107 u108 u109 u110 u111 u112 u113 u114 u115 u116 u117 u118 u119 u120 u121 u122 u123 u124 u125 u126 u127 u128 u129 u130 u131 u132 u133 u134 u135 u136 u137 u138 u139 u140 u141 u142 u143 u144 u145 u146 u147 u148 u149 u150 u151 u152 u153 u154 u155 u156 u157 u158 u159 u160 u161 u162 u163 u164 u165 u166 u167 u168 u169 u170 u171 u172 u173 u174 u175 u176 u177 u178 u179 u180 u181 u182 u183 u184 u185 u186 u187 u188 u189 u190 u191 u192 u193 u194 u195 u196 u197 u198 u199 u200 u201 u202 u203 u204 u205 u206 u207 u208 u209 u210 u211 u212 u213 u214 u215 u216 u217 u218 u219 u220 u221 u222 u223 u224 u225 u226 u227 u228 u229 u230 u231 u232 u233 u234 u235 u236 u237 u238 u239 u240 u241 u242 u243 u244 u245 u246 u247 u248 u249 u250 u251 u252 u253 u254 u255 u256 u257 u258 u259 u260 u261 u262 u263 u264 u265 u266 u267 u268 u269 u270 u271
  have hi : (Tryz.prog.info? 35).map (·.size) = some 27 := by kernel_rfl
  obtain ⟨i, x, gs, xb, xs, xchk, xr, xs0⟩ := hcut
  generalize wc = W7 at *
  have hres7 := hres.fr gs.fr (fun e => e)
  have hone : x.cells.all (·.oneCell') = true := by unfold OpL.cells; simp [Value.oneCell']
  have fin : Hid (∀ wz, Fr (One w.heap.size) W7 wz → GenPost L w (.returned (.agg x.cells)) wz) := by
    intro wz hf
    have hlo := gs.lo
    have hw := fr1.size
    refine ⟨x, rfl, ?_, ?_, xchk, xr, xs0, ((gs.own.keep hf ((Types.one hres7).mono (fun t e => .inl e))).lower (by omega)), (fr1.trans gs.fr (fun _ _ e => e)).trans hf (fun k hk e => absurd hk (by have e' : k = w.heap.size := e; omega))⟩
    · rw [xb, hb.out, hbb.out]
    · rw [xs, hs.out, hss.out]
  clear xb xs xchk xr xs0 hb hbb hs hss
  have blk7 := gs.blk
  clear gs
  as_aux_lemma =>
  have tok1 : True := trivial
  go_wp2_with (first
    | (have _t := tok1; refine wpList_load_row rfl 35 (.tmp 4) rfl rfl blk7 Tryz.underlying35 rfl hi ?_; clear tok1 _t)
    | (refine wpList_store_row rfl 35 (.tmp 2) (.tmp 271) rfl rfl rfl rfl hres7 hi rfl hone ?_; have hfz := (Fr.refl (One w.heap.size) W7).setRow (g := w.heap.size) (fun _ => rfl) x.cells; have hz2 := hres7.setRow (cs := x.cells); generalize W7.setRow w.heap.size x.cells = wz at hfz hz2 ⊢; (repeat (first | go_values | go_skip | go_guarded | go_step)); exact ret_blk (t := 35) rfl rfl hz2 rfl Tryz.underlying35 (by kernel_rfl) rfl (fin.out wz hfz)))
theorem gen_any (B0 n c : Nat) (A : Option Addr) (l : List Int) (w : World) (hn : Hid (l.length = n)) (hr : Rd w B0 1 A n (l.map Iv)) (hc : n ≤ c) (hc' : c ≤ 9223372036854775807) (hok : Hid (∀ x ∈ l, I64 x)) :
    Calls Tryz.prog 4 #[.slice A n c] w (GenPost (l.take 60) w) :=
  genA.2 ⟨genB.2 ⟨gen_last⟩⟩ B0 n c A l w hn hr hc hc' hok
end Oq
end Go.Proofs.YtahcddlgghipjaaGreatDoor
