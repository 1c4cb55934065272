/-
  op.Get: what it answers, of whatever bytes (fewer than 2^40).
-/
import Derived.Test.YtahcddlgghipjaaGreatDoorOpGetPost
import Derived.Deep.DeepCutAuto
namespace Go.Proofs.YtahcddlgghipjaaGreatDoor
open Go.RowKit
attribute [local go_sem ↓] Go.wp_at_zero Go.wp_at_succ
namespace Oq
attribute [local go_sem] run_store_func
attribute [local go_sem ↓] loadAt_op storeAt_op storeAt_int storeAt_u64 storeAt_ident storeAt_sig storeAt_bytes storeAt_u64s storeAt_ints storeAt_boxes

def GG (g go : Nat) : Nat → Prop := fun k => k = g ∨ k = go
theorem OpBlk.of {w : World} {g : Nat} {cs : Array Value} (h : Blk w g 35 cs) (hs : cs.size = 27) : OpBlk w g := ⟨cs, h, hs⟩
theorem InAt.set {w : World} {B g : Nat} {bs : List UInt8} {a : Nat} {e : Int} (h : InAt w B g bs a e) {go : Nat} (hg : g < go) (i : Nat) (u : Value) : InAt (w.setCell ⟨go, i, none⟩ u) B g bs a e := by
  have hB : B ≤ g := by obtain ⟨_, _, _, _, h, _⟩ := h; exact h
  exact h.fr ((Fr.refl (One go) w).setOne i u) (fun k hk e => by have e' : k = go := e; omega) (fun e => by have e' : g = go := e; omega)
theorem GG.set {a w : World} {g go : Nat} (h : Fr (GG g go) a w) (i : Nat) (u : Value) : Fr (GG g go) a (w.setCell ⟨go, i, none⟩ u) := h.setCell (p := ⟨go, i, none⟩) (fun _ => .inr rfl) u
theorem GG.one {a w w' : World} {g go : Nat} (h : Fr (GG g go) a w) (k : Fr (One g) w w') : Fr (GG g go) a w' := h.trans k (fun _ _ e => .inl e)
theorem GG.alloc {a w : World} {g go : Nat} (h : Fr (GG g go) a w) (o : Obj) : Fr (GG g go) a (w.alloc o) := Fr.alloc h o

theorem cell_set1 {w : World} {r j g i : Nat} {u v : Value} (h : w.cell? ⟨g, i, none⟩ = some v) (hne : r ≠ g) : (w.setCell ⟨r, j, none⟩ u).cell? ⟨g, i, none⟩ = some v := by
  rw [World.cell?_setCell_far _ _ _ _ (by exact hne)]
  exact h

theorem rowGG {w w' : World} {base size n c g go : Nat} {t : TypeId} {A : Option Addr} {xs : List Value} {cs : Array Value} {bs : List UInt8} {B a : Nat} {e : Int} (h : RowAt w base t size A n c xs) (hf : Fr (GG g go) w w') (ho : Blk w go 35 cs) (hin : InAt w B g bs a e) (h1 : t ≠ 35) (h2 : t ≠ 111) : RowAt w' base t size A n c xs := by
  refine h.fr hf (fun h0 k hk e => ?_)
  obtain ⟨_, _, hb, _⟩ := hin
  rcases e with e | e
  · exact h.ne hb h2 h0 k hk e
  · exact h.ne ho h1 h0 k hk e

set_option maxRecDepth 100000 in
set_option maxHeartbeats 8000000 in
theorem opGet_any (B n c : Nat) (A : Option Addr) (bs : List UInt8) (w : World) (hn : Hid (bs.length = n)) (hr : Rd w B 1 A n (bs.map Bv)) (hl : n ≤ 1099511627776) :
    Calls Tryz.prog 28 #[.slice A n c] w (GetPost bs w) := by
  obtain ⟨v1, a1, e1, h1⟩ := hid_ex3 (Pk.rdInt bs 0 0)
  obtain ⟨v2, a2, e2, h2⟩ := hid_ex3 (Pk.rdInt bs a1 e1)
  obtain ⟨v3, a3, e3, h3⟩ := hid_ex3 (Pk.rdInt bs a2 e2)
  obtain ⟨v4, a4, e4, h4⟩ := hid_ex3 (Pk.rdInt bs a3 e3)
  obtain ⟨l5, a5, e5, h5⟩ := hid_ex3 (lstR rdId bs a4 e4)
  obtain ⟨v6, a6, e6, h6⟩ := hid_ex3 (Pk.rdInt bs a5 e5)
  obtain ⟨v7, a7, e7, h7⟩ := hid_ex3 (Pk.rdInt bs a6 e6)
  obtain ⟨v8, a8, e8, h8⟩ := hid_ex3 (Pk.rdInt bs a7 e7)
  obtain ⟨v9, a9, e9, h9⟩ := hid_ex3 (Pk.rdInt bs a8 e8)
  obtain ⟨l10, a10, e10, h10⟩ := hid_ex3 (lstR rdNd bs a9 e9)
  obtain ⟨i11, a11, e11, h11⟩ := hid_ex3 (rdId bs a10 e10)
  obtain ⟨v12, a12, e12, h12⟩ := hid_ex3 (Pk.rdInt bs a11 e11)
  obtain ⟨s13, a13, e13, h13⟩ := hid_ex3 (Pk.rdText bs a12 e12)
  obtain ⟨l14, a14, e14, h14⟩ := hid_ex3 (lstR Pk.rd bs a13 e13)
  obtain ⟨i15, a15, e15, h15⟩ := hid_ex3 (rdId bs a14 e14)
  obtain ⟨l16, a16, e16, h16⟩ := hid_ex3 (lstR Pk.rdInt bs a15 e15)
  obtain ⟨v17, a17, e17, h17⟩ := hid_ex3 (Pk.rdInt bs a16 e16)
  obtain ⟨v18, a18, e18, h18⟩ := hid_ex3 (Pk.rdInt bs a17 e17)
  obtain ⟨l19, a19, e19, h19⟩ := hid_ex3 (lstR rdBx bs a18 e18)
  obtain ⟨v20, a20, e20, h20⟩ := hid_ex3 (Pk.rd bs a19 e19)
  obtain ⟨l21, a21, e21, h21⟩ := hid_ex3 (lstR rdSl bs a20 e20)
  obtain ⟨v22, a22, e22, h22⟩ := hid_ex3 (Pk.rd bs a21 e21)
  obtain ⟨v23, a23, e23, h23⟩ := hid_ex3 (Pk.rd bs a22 e22)
  have hlen : bs.length ≤ 1099511627776 := by rw [hn.out]; exact hl
  go_enter Tryz.func28, Tryz.ntmps28
  go_wp2_with (fail)
  refine (opened_any B n c A bs _ hn (hr.alloc _) hl).mono ?_
  rintro _ w1 ⟨g, A1, c1, rfl, hb1, hown1, hf1, hg1, hg2, hl1⟩
  have hin1 := inAt_of hb1 hown1 hg2 hl1
  have hlg := hb1.lt
  have hlr : w.heap.size < g := by rw [World.size_alloc] at hg1; omega
  have hres1 := (Blk.new w 35 #[.int .i64 0, .int .i64 0, .int .i64 0, .int .i64 0, .slice none 0 0, .int .i64 0, .int .i64 0, .int .i64 0, .int .i64 0, .slice none 0 0, .int .i64 0, .int .i64 0, .int .u64 0, .int .i64 0, .slice none 0 0, .slice none 0 0, .int .i64 0, .int .i64 0, .int .u64 0, .slice none 0 0, .int .i64 0, .int .i64 0, .slice none 0 0, .int .u64 0, .slice none 0 0, .int .u64 0, .int .u64 0]).fr hf1 (fun e => e)
  have f01 : Fr Non w w1 := ((Fr.refl Non w).alloc (.cells #[.int .i64 0, .int .i64 0, .int .i64 0, .int .i64 0, .slice none 0 0, .int .i64 0, .int .i64 0, .int .i64 0, .int .i64 0, .slice none 0 0, .int .i64 0, .int .i64 0, .int .u64 0, .int .i64 0, .slice none 0 0, .slice none 0 0, .int .i64 0, .int .i64 0, .int .u64 0, .slice none 0 0, .int .i64 0, .int .i64 0, .slice none 0 0, .int .u64 0, .slice none 0 0, .int .u64 0, .int .u64 0] 35)).trans hf1 (fun _ _ e => e)
  clear hb1 hown1 hf1 hg1 hg2
  go_upto_region 5 with (fail)
  have hp5 := (((Blk.new w1 86 #[.pointer (some ⟨g, 0, none⟩)]).alloc (.cells #[.func (.func 56) #[] #[.pointer (some ⟨w1.heap.size, 0, none⟩)]] 89)).alloc (.cells #[.func (.func 58) #[] #[.pointer (some ⟨w1.heap.size, 0, none⟩)]] 91)).alloc (.cells #[.int .i64 0, .int .i64 0, .int .i64 0, .int .i64 0, .slice none 0 0, .int .i64 0, .int .i64 0, .int .i64 0, .int .i64 0, .slice none 0 0, .int .i64 0, .int .i64 0, .int .u64 0, .int .i64 0, .slice none 0 0, .slice none 0 0, .int .i64 0, .int .i64 0, .int .u64 0, .slice none 0 0, .int .i64 0, .int .i64 0, .slice none 0 0, .int .u64 0, .slice none 0 0, .int .u64 0, .int .u64 0] 35)
  have hb5 := ((Blk.new (w1.alloc (.cells #[.pointer (some ⟨g, 0, none⟩)] 86)) 89 #[.func (.func 56) #[] #[.pointer (some ⟨w1.heap.size, 0, none⟩)]]).alloc (.cells #[.func (.func 58) #[] #[.pointer (some ⟨w1.heap.size, 0, none⟩)]] 91)).alloc (.cells #[.int .i64 0, .int .i64 0, .int .i64 0, .int .i64 0, .slice none 0 0, .int .i64 0, .int .i64 0, .int .i64 0, .int .i64 0, .slice none 0 0, .int .i64 0, .int .i64 0, .int .u64 0, .int .i64 0, .slice none 0 0, .slice none 0 0, .int .i64 0, .int .i64 0, .int .u64 0, .slice none 0 0, .int .i64 0, .int .i64 0, .slice none 0 0, .int .u64 0, .slice none 0 0, .int .u64 0, .int .u64 0] 35)
  have hc5 := (Blk.new ((w1.alloc (.cells #[.pointer (some ⟨g, 0, none⟩)] 86)).alloc (.cells #[.func (.func 56) #[] #[.pointer (some ⟨w1.heap.size, 0, none⟩)]] 89)) 91 #[.func (.func 58) #[] #[.pointer (some ⟨w1.heap.size, 0, none⟩)]]).alloc (.cells #[.int .i64 0, .int .i64 0, .int .i64 0, .int .i64 0, .slice none 0 0, .int .i64 0, .int .i64 0, .int .i64 0, .int .i64 0, .slice none 0 0, .int .i64 0, .int .i64 0, .int .u64 0, .int .i64 0, .slice none 0 0, .slice none 0 0, .int .i64 0, .int .i64 0, .int .u64 0, .slice none 0 0, .int .i64 0, .int .i64 0, .slice none 0 0, .int .u64 0, .slice none 0 0, .int .u64 0, .int .u64 0] 35)
  have ho5 := Blk.new (((w1.alloc (.cells #[.pointer (some ⟨g, 0, none⟩)] 86)).alloc (.cells #[.func (.func 56) #[] #[.pointer (some ⟨w1.heap.size, 0, none⟩)]] 89)).alloc (.cells #[.func (.func 58) #[] #[.pointer (some ⟨w1.heap.size, 0, none⟩)]] 91)) 35 #[.int .i64 0, .int .i64 0, .int .i64 0, .int .i64 0, .slice none 0 0, .int .i64 0, .int .i64 0, .int .i64 0, .int .i64 0, .slice none 0 0, .int .i64 0, .int .i64 0, .int .u64 0, .int .i64 0, .slice none 0 0, .slice none 0 0, .int .i64 0, .int .i64 0, .int .u64 0, .slice none 0 0, .int .i64 0, .int .i64 0, .slice none 0 0, .int .u64 0, .slice none 0 0, .int .u64 0, .int .u64 0]
  have hin5 := (((hin1.alloc (.cells #[.pointer (some ⟨g, 0, none⟩)] 86)).alloc (.cells #[.func (.func 56) #[] #[.pointer (some ⟨w1.heap.size, 0, none⟩)]] 89)).alloc (.cells #[.func (.func 58) #[] #[.pointer (some ⟨w1.heap.size, 0, none⟩)]] 91)).alloc (.cells #[.int .i64 0, .int .i64 0, .int .i64 0, .int .i64 0, .slice none 0 0, .int .i64 0, .int .i64 0, .int .i64 0, .int .i64 0, .slice none 0 0, .int .i64 0, .int .i64 0, .int .u64 0, .int .i64 0, .slice none 0 0, .slice none 0 0, .int .i64 0, .int .i64 0, .int .u64 0, .slice none 0 0, .int .i64 0, .int .i64 0, .slice none 0 0, .int .u64 0, .slice none 0 0, .int .u64 0, .int .u64 0] 35)
  have hres5 := (((hres1.alloc (.cells #[.pointer (some ⟨g, 0, none⟩)] 86)).alloc (.cells #[.func (.func 56) #[] #[.pointer (some ⟨w1.heap.size, 0, none⟩)]] 89)).alloc (.cells #[.func (.func 58) #[] #[.pointer (some ⟨w1.heap.size, 0, none⟩)]] 91)).alloc (.cells #[.int .i64 0, .int .i64 0, .int .i64 0, .int .i64 0, .slice none 0 0, .int .i64 0, .int .i64 0, .int .i64 0, .int .i64 0, .slice none 0 0, .int .i64 0, .int .i64 0, .int .u64 0, .int .i64 0, .slice none 0 0, .slice none 0 0, .int .i64 0, .int .i64 0, .int .u64 0, .slice none 0 0, .int .i64 0, .int .i64 0, .slice none 0 0, .int .u64 0, .slice none 0 0, .int .u64 0, .int .u64 0] 35)
  have f05 := (((f01.alloc (.cells #[.pointer (some ⟨g, 0, none⟩)] 86)).alloc (.cells #[.func (.func 56) #[] #[.pointer (some ⟨w1.heap.size, 0, none⟩)]] 89)).alloc (.cells #[.func (.func 58) #[] #[.pointer (some ⟨w1.heap.size, 0, none⟩)]] 91)).alloc (.cells #[.int .i64 0, .int .i64 0, .int .i64 0, .int .i64 0, .slice none 0 0, .int .i64 0, .int .i64 0, .int .i64 0, .int .i64 0, .slice none 0 0, .int .i64 0, .int .i64 0, .int .u64 0, .int .i64 0, .slice none 0 0, .slice none 0 0, .int .i64 0, .int .i64 0, .int .u64 0, .slice none 0 0, .int .i64 0, .int .i64 0, .slice none 0 0, .int .u64 0, .slice none 0 0, .int .u64 0, .int .u64 0] 35)
  simp only [World.size_alloc] at hb5 hc5 ho5
  generalize (((w1.alloc (.cells #[.pointer (some ⟨g, 0, none⟩)] 86)).alloc (.cells #[.func (.func 56) #[] #[.pointer (some ⟨w1.heap.size, 0, none⟩)]] 89)).alloc (.cells #[.func (.func 58) #[] #[.pointer (some ⟨w1.heap.size, 0, none⟩)]] 91)).alloc (.cells #[.int .i64 0, .int .i64 0, .int .i64 0, .int .i64 0, .slice none 0 0, .int .i64 0, .int .i64 0, .int .i64 0, .int .i64 0, .slice none 0 0, .int .i64 0, .int .i64 0, .int .u64 0, .int .i64 0, .slice none 0 0, .slice none 0 0, .int .i64 0, .int .i64 0, .int .u64 0, .slice none 0 0, .int .i64 0, .int .i64 0, .slice none 0 0, .int .u64 0, .slice none 0 0, .int .u64 0, .int .u64 0] 35) = w5 at *
  clear hin1 hres1 f01
  generalize w1.heap.size = gp at *
  generalize hgb : gp + 1 = gb at *
  generalize hgc : gb + 1 = gc at *
  generalize hgo : gc + 1 = go at *
  have lgp : g < gp := hlg
  have lgo : g < go := by omega
  have ngo : go ≠ g := by omega
  have nGo : ¬ One g go := ngo
  have nGp : ¬ GG g go gp := by rintro (e | e) <;> omega
  have nGb : ¬ GG g go gb := by rintro (e | e) <;> omega
  have nGc : ¬ GG g go gc := by rintro (e | e) <;> omega
  have nGr : ¬ GG g go w.heap.size := by rintro (e | e) <;> omega
  have ngp : go ≠ gp := by omega
  have ngb : go ≠ gb := by omega
  have ngc : go ≠ gc := by omega
  have st5 := Fr.refl (GG g go) w5
  clear hgb hgc hgo
  have F5 := GG.alloc (Fr.refl (GG g go) w5) (.cells #[.pointer (some ⟨go, 0, none⟩), .pointer (some ⟨go, 1, none⟩), .pointer (some ⟨go, 2, none⟩), .pointer (some ⟨go, 3, none⟩)] 92)
  have hq6 := Blk.new w5 92 #[.pointer (some ⟨go, 0, none⟩), .pointer (some ⟨go, 1, none⟩), .pointer (some ⟨go, 2, none⟩), .pointer (some ⟨go, 3, none⟩)]
  have st6 := GG.alloc st5 (.cells #[.pointer (some ⟨go, 0, none⟩), .pointer (some ⟨go, 1, none⟩), .pointer (some ⟨go, 2, none⟩), .pointer (some ⟨go, 3, none⟩)] 92)
  have ho6 := ho5.alloc (.cells #[.pointer (some ⟨go, 0, none⟩), .pointer (some ⟨go, 1, none⟩), .pointer (some ⟨go, 2, none⟩), .pointer (some ⟨go, 3, none⟩)] 92)
  have hin6 := hin5.alloc (.cells #[.pointer (some ⟨go, 0, none⟩), .pointer (some ⟨go, 1, none⟩), .pointer (some ⟨go, 2, none⟩), .pointer (some ⟨go, 3, none⟩)] 92)
  have lq6 : go < w5.heap.size := ho5.lt
  have nq6 : ¬ GG g go (w5.heap.size) := by rintro (e | e) <;> omega
  have fq6 := Fr.refl (GG g go) (w5.alloc (.cells #[.pointer (some ⟨go, 0, none⟩), .pointer (some ⟨go, 1, none⟩), .pointer (some ⟨go, 2, none⟩), .pointer (some ⟨go, 3, none⟩)] 92))
  go_wp2
  refine wp_loop_rounds 5 ?_
  rw [rounds_succ]
  have cp := (hp5.fr st6 nGp).cell 0
  have cq := hq6.cell 0
  go_wp2_with (fail)
  refine (inInt_any g g bs 0 0 v1 a1 e1 _ hin6 h1).mono ?_
  rintro _ x1 ⟨rfl, hin', hf'⟩
  clear cp cq
  have fq6_1 := GG.set (GG.one fq6 hf') 0 (.int .i64 v1)
  have F6 : Fr (GG g go) _ _ := hf'.mono (fun _ _ e => .inl e)
  have st7 := GG.one st6 hf'
  have ho7 := ho6.fr hf' nGo
  have hin7 := hin'
  clear hin6 hin' hf'
  have ob := OpBlk.of ho7 rfl
  have hs := st_int go 0 (by omega) v1
  go_wp2
  clear ob hs
  have F7 := GG.set (Fr.refl (GG g go) x1) 0 (.int .i64 v1)
  have st8 := GG.set st7 0 (.int .i64 v1)
  have ho8 : Blk _ go 35 #[.int .i64 v1, .int .i64 0, .int .i64 0, .int .i64 0, .slice none 0 0, .int .i64 0, .int .i64 0, .int .i64 0, .int .i64 0, .slice none 0 0, .int .i64 0, .int .i64 0, .int .u64 0, .int .i64 0, .slice none 0 0, .slice none 0 0, .int .i64 0, .int .i64 0, .int .u64 0, .slice none 0 0, .int .i64 0, .int .i64 0, .slice none 0 0, .int .u64 0, .slice none 0 0, .int .u64 0, .int .u64 0] := ho7.set 0 (.int .i64 v1)
  have hin8 := InAt.set hin7 lgo 0 (.int .i64 v1)
  clear ho7 hin7
  rw [rounds_succ]
  have cp := (hp5.fr st8 nGp).cell 0
  have cq := (hq6.fr fq6_1 nq6).cell 1
  go_wp2_with (fail)
  refine (inInt_any g g bs a1 e1 v2 a2 e2 _ hin8 h2).mono ?_
  rintro _ x2 ⟨rfl, hin', hf'⟩
  clear cp cq
  have fq6_2 := GG.set (GG.one fq6_1 hf') 1 (.int .i64 v2)
  have F8 : Fr (GG g go) _ _ := hf'.mono (fun _ _ e => .inl e)
  have st9 := GG.one st8 hf'
  have ho9 := ho8.fr hf' nGo
  have hin9 := hin'
  clear hin8 hin' hf'
  have ob := OpBlk.of ho9 rfl
  have hs := st_int go 1 (by omega) v2
  go_wp2
  clear ob hs
  have F9 := GG.set (Fr.refl (GG g go) x2) 1 (.int .i64 v2)
  have st10 := GG.set st9 1 (.int .i64 v2)
  have ho10 : Blk _ go 35 #[.int .i64 v1, .int .i64 v2, .int .i64 0, .int .i64 0, .slice none 0 0, .int .i64 0, .int .i64 0, .int .i64 0, .int .i64 0, .slice none 0 0, .int .i64 0, .int .i64 0, .int .u64 0, .int .i64 0, .slice none 0 0, .slice none 0 0, .int .i64 0, .int .i64 0, .int .u64 0, .slice none 0 0, .int .i64 0, .int .i64 0, .slice none 0 0, .int .u64 0, .slice none 0 0, .int .u64 0, .int .u64 0] := ho9.set 1 (.int .i64 v2)
  have hin10 := InAt.set hin9 lgo 1 (.int .i64 v2)
  clear ho9 hin9
  rw [rounds_succ]
  have cp := (hp5.fr st10 nGp).cell 0
  have cq := (hq6.fr fq6_2 nq6).cell 2
  go_wp2_with (fail)
  refine (inInt_any g g bs a2 e2 v3 a3 e3 _ hin10 h3).mono ?_
  rintro _ x3 ⟨rfl, hin', hf'⟩
  clear cp cq
  have fq6_3 := GG.set (GG.one fq6_2 hf') 2 (.int .i64 v3)
  have F10 : Fr (GG g go) _ _ := hf'.mono (fun _ _ e => .inl e)
  have st11 := GG.one st10 hf'
  have ho11 := ho10.fr hf' nGo
  have hin11 := hin'
  clear hin10 hin' hf'
  have ob := OpBlk.of ho11 rfl
  have hs := st_int go 2 (by omega) v3
  go_wp2
  clear ob hs
  have F11 := GG.set (Fr.refl (GG g go) x3) 2 (.int .i64 v3)
  have st12 := GG.set st11 2 (.int .i64 v3)
  have ho12 : Blk _ go 35 #[.int .i64 v1, .int .i64 v2, .int .i64 v3, .int .i64 0, .slice none 0 0, .int .i64 0, .int .i64 0, .int .i64 0, .int .i64 0, .slice none 0 0, .int .i64 0, .int .i64 0, .int .u64 0, .int .i64 0, .slice none 0 0, .slice none 0 0, .int .i64 0, .int .i64 0, .int .u64 0, .slice none 0 0, .int .i64 0, .int .i64 0, .slice none 0 0, .int .u64 0, .slice none 0 0, .int .u64 0, .int .u64 0] := ho11.set 2 (.int .i64 v3)
  have hin12 := InAt.set hin11 lgo 2 (.int .i64 v3)
  clear ho11 hin11
  rw [rounds_succ]
  have cp := (hp5.fr st12 nGp).cell 0
  have cq := (hq6.fr fq6_3 nq6).cell 3
  go_wp2_with (fail)
  refine (inInt_any g g bs a3 e3 v4 a4 e4 _ hin12 h4).mono ?_
  rintro _ x4 ⟨rfl, hin', hf'⟩
  clear cp cq
  have fq6_4 := GG.set (GG.one fq6_3 hf') 3 (.int .i64 v4)
  have F12 : Fr (GG g go) _ _ := hf'.mono (fun _ _ e => .inl e)
  have st13 := GG.one st12 hf'
  have ho13 := ho12.fr hf' nGo
  have hin13 := hin'
  clear hin12 hin' hf'
  have ob := OpBlk.of ho13 rfl
  have hs := st_int go 3 (by omega) v4
  go_wp2
  clear ob hs
  have F13 := GG.set (Fr.refl (GG g go) x4) 3 (.int .i64 v4)
  have st14 := GG.set st13 3 (.int .i64 v4)
  have ho14 : Blk _ go 35 #[.int .i64 v1, .int .i64 v2, .int .i64 v3, .int .i64 v4, .slice none 0 0, .int .i64 0, .int .i64 0, .int .i64 0, .int .i64 0, .slice none 0 0, .int .i64 0, .int .i64 0, .int .u64 0, .int .i64 0, .slice none 0 0, .slice none 0 0, .int .i64 0, .int .i64 0, .int .u64 0, .slice none 0 0, .int .i64 0, .int .i64 0, .slice none 0 0, .int .u64 0, .slice none 0 0, .int .u64 0, .int .u64 0] := ho13.set 3 (.int .i64 v4)
  have hin14 := InAt.set hin13 lgo 3 (.int .i64 v4)
  clear ho13 hin13
  rw [rounds_succ]
  have cp := (hp5.fr st14 nGp).cell 0
  go_wp2_with (fail)
  refine (getId_any g g bs a4 e4 l5 a5 e5 _ hin14 h5).mono ?_
  rintro _ x5 ⟨B5, d5, rfl, hown', hin', hf'⟩
  have row5 := (RowAt.of_own hown').lower (base' := w.heap.size) (Nat.le_trans f05.size st14.size)
  clear cp hown'
  have F14 : Fr (GG g go) _ _ := hf'.mono (fun _ _ e => .inl e)
  have st15 := GG.one st14 hf'
  have ho15 := ho14.fr hf' nGo
  have hin15 := hin'
  clear hin14 hin' hf'
  have keep5 := Lib.hid (fun (w' : World) (hf : Fr (GG g go) _ w') => rowGG row5 hf ho15 hin15 (by decide) (by decide))
  clear row5
  have r4 := ho15.cell 4
  have q4 := ho15.frozen 4
  have cp := (hp5.fr (GG.set st15 4 (.slice B5 l5.length d5)) nGp).cell 0
  go_wp2
  clear r4 q4 cp
  have F15 := GG.set (Fr.refl (GG g go) x5) 4 (.slice B5 l5.length d5)
  have st16 := GG.set st15 4 (.slice B5 l5.length d5)
  have ho16 : Blk _ go 35 #[.int .i64 v1, .int .i64 v2, .int .i64 v3, .int .i64 v4, .slice B5 l5.length d5, .int .i64 0, .int .i64 0, .int .i64 0, .int .i64 0, .slice none 0 0, .int .i64 0, .int .i64 0, .int .u64 0, .int .i64 0, .slice none 0 0, .slice none 0 0, .int .i64 0, .int .i64 0, .int .u64 0, .slice none 0 0, .int .i64 0, .int .i64 0, .slice none 0 0, .int .u64 0, .slice none 0 0, .int .u64 0, .int .u64 0] := ho15.set 4 (.slice B5 l5.length d5)
  have hin16 := InAt.set hin15 lgo 4 (.slice B5 l5.length d5)
  clear ho15 hin15
  have F16 := GG.alloc (Fr.refl (GG g go) (x5.setCell ⟨go, 4, none⟩ (.slice B5 l5.length d5))) (.cells #[.pointer (some ⟨go, 5, none⟩), .pointer (some ⟨go, 6, none⟩), .pointer (some ⟨go, 7, none⟩), .pointer (some ⟨go, 8, none⟩)] 92)
  have hq17 := Blk.new (x5.setCell ⟨go, 4, none⟩ (.slice B5 l5.length d5)) 92 #[.pointer (some ⟨go, 5, none⟩), .pointer (some ⟨go, 6, none⟩), .pointer (some ⟨go, 7, none⟩), .pointer (some ⟨go, 8, none⟩)]
  have st17 := GG.alloc st16 (.cells #[.pointer (some ⟨go, 5, none⟩), .pointer (some ⟨go, 6, none⟩), .pointer (some ⟨go, 7, none⟩), .pointer (some ⟨go, 8, none⟩)] 92)
  have ho17 := ho16.alloc (.cells #[.pointer (some ⟨go, 5, none⟩), .pointer (some ⟨go, 6, none⟩), .pointer (some ⟨go, 7, none⟩), .pointer (some ⟨go, 8, none⟩)] 92)
  have hin17 := hin16.alloc (.cells #[.pointer (some ⟨go, 5, none⟩), .pointer (some ⟨go, 6, none⟩), .pointer (some ⟨go, 7, none⟩), .pointer (some ⟨go, 8, none⟩)] 92)
  have lq17 : go < (x5.setCell ⟨go, 4, none⟩ (.slice B5 l5.length d5)).heap.size := ho16.lt
  rw [show (x5.setCell ⟨go, 4, none⟩ (.slice B5 l5.length d5)).heap.size = x5.heap.size by simp [World.setCell]] at hq17 lq17
  have nq17 : ¬ GG g go (x5.heap.size) := by rintro (e | e) <;> omega
  have fq17 := Fr.refl (GG g go) ((x5.setCell ⟨go, 4, none⟩ (.slice B5 l5.length d5)).alloc (.cells #[.pointer (some ⟨go, 5, none⟩), .pointer (some ⟨go, 6, none⟩), .pointer (some ⟨go, 7, none⟩), .pointer (some ⟨go, 8, none⟩)] 92))
  go_wp2
  refine wp_loop_rounds 5 ?_
  rw [rounds_succ]
  have cp := (hp5.fr st17 nGp).cell 0
  have cq := hq17.cell 0
  go_wp2_with (fail)
  refine (inInt_any g g bs a5 e5 v6 a6 e6 _ hin17 h6).mono ?_
  rintro _ x6 ⟨rfl, hin', hf'⟩
  clear cp cq
  have fq17_1 := GG.set (GG.one fq17 hf') 5 (.int .i64 v6)
  have F17 : Fr (GG g go) _ _ := hf'.mono (fun _ _ e => .inl e)
  have st18 := GG.one st17 hf'
  have ho18 := ho17.fr hf' nGo
  have hin18 := hin'
  clear hin17 hin' hf'
  have ob := OpBlk.of ho18 rfl
  have hs := st_int go 5 (by omega) v6
  go_wp2
  clear ob hs
  have F18 := GG.set (Fr.refl (GG g go) x6) 5 (.int .i64 v6)
  have st19 := GG.set st18 5 (.int .i64 v6)
  have ho19 : Blk _ go 35 #[.int .i64 v1, .int .i64 v2, .int .i64 v3, .int .i64 v4, .slice B5 l5.length d5, .int .i64 v6, .int .i64 0, .int .i64 0, .int .i64 0, .slice none 0 0, .int .i64 0, .int .i64 0, .int .u64 0, .int .i64 0, .slice none 0 0, .slice none 0 0, .int .i64 0, .int .i64 0, .int .u64 0, .slice none 0 0, .int .i64 0, .int .i64 0, .slice none 0 0, .int .u64 0, .slice none 0 0, .int .u64 0, .int .u64 0] := ho18.set 5 (.int .i64 v6)
  have hin19 := InAt.set hin18 lgo 5 (.int .i64 v6)
  clear ho18 hin18
  rw [rounds_succ]
  have cp := (hp5.fr st19 nGp).cell 0
  have cq := (hq17.fr fq17_1 nq17).cell 1
  go_wp2_with (fail)
  refine (inInt_any g g bs a6 e6 v7 a7 e7 _ hin19 h7).mono ?_
  rintro _ x7 ⟨rfl, hin', hf'⟩
  clear cp cq
  have fq17_2 := GG.set (GG.one fq17_1 hf') 6 (.int .i64 v7)
  have F19 : Fr (GG g go) _ _ := hf'.mono (fun _ _ e => .inl e)
  have st20 := GG.one st19 hf'
  have ho20 := ho19.fr hf' nGo
  have hin20 := hin'
  clear hin19 hin' hf'
  have ob := OpBlk.of ho20 rfl
  have hs := st_int go 6 (by omega) v7
  go_wp2
  clear ob hs
  have F20 := GG.set (Fr.refl (GG g go) x7) 6 (.int .i64 v7)
  have st21 := GG.set st20 6 (.int .i64 v7)
  have ho21 : Blk _ go 35 #[.int .i64 v1, .int .i64 v2, .int .i64 v3, .int .i64 v4, .slice B5 l5.length d5, .int .i64 v6, .int .i64 v7, .int .i64 0, .int .i64 0, .slice none 0 0, .int .i64 0, .int .i64 0, .int .u64 0, .int .i64 0, .slice none 0 0, .slice none 0 0, .int .i64 0, .int .i64 0, .int .u64 0, .slice none 0 0, .int .i64 0, .int .i64 0, .slice none 0 0, .int .u64 0, .slice none 0 0, .int .u64 0, .int .u64 0] := ho20.set 6 (.int .i64 v7)
  have hin21 := InAt.set hin20 lgo 6 (.int .i64 v7)
  clear ho20 hin20
  rw [rounds_succ]
  have cp := (hp5.fr st21 nGp).cell 0
  have cq := (hq17.fr fq17_2 nq17).cell 2
  go_wp2_with (fail)
  refine (inInt_any g g bs a7 e7 v8 a8 e8 _ hin21 h8).mono ?_
  rintro _ x8 ⟨rfl, hin', hf'⟩
  clear cp cq
  have fq17_3 := GG.set (GG.one fq17_2 hf') 7 (.int .i64 v8)
  have F21 : Fr (GG g go) _ _ := hf'.mono (fun _ _ e => .inl e)
  have st22 := GG.one st21 hf'
  have ho22 := ho21.fr hf' nGo
  have hin22 := hin'
  clear hin21 hin' hf'
  have ob := OpBlk.of ho22 rfl
  have hs := st_int go 7 (by omega) v8
  go_wp2
  clear ob hs
  have F22 := GG.set (Fr.refl (GG g go) x8) 7 (.int .i64 v8)
  have st23 := GG.set st22 7 (.int .i64 v8)
  have ho23 : Blk _ go 35 #[.int .i64 v1, .int .i64 v2, .int .i64 v3, .int .i64 v4, .slice B5 l5.length d5, .int .i64 v6, .int .i64 v7, .int .i64 v8, .int .i64 0, .slice none 0 0, .int .i64 0, .int .i64 0, .int .u64 0, .int .i64 0, .slice none 0 0, .slice none 0 0, .int .i64 0, .int .i64 0, .int .u64 0, .slice none 0 0, .int .i64 0, .int .i64 0, .slice none 0 0, .int .u64 0, .slice none 0 0, .int .u64 0, .int .u64 0] := ho22.set 7 (.int .i64 v8)
  have hin23 := InAt.set hin22 lgo 7 (.int .i64 v8)
  clear ho22 hin22
  rw [rounds_succ]
  have cp := (hp5.fr st23 nGp).cell 0
  have cq := (hq17.fr fq17_3 nq17).cell 3
  go_wp2_with (fail)
  refine (inInt_any g g bs a8 e8 v9 a9 e9 _ hin23 h9).mono ?_
  rintro _ x9 ⟨rfl, hin', hf'⟩
  clear cp cq
  have fq17_4 := GG.set (GG.one fq17_3 hf') 8 (.int .i64 v9)
  have F23 : Fr (GG g go) _ _ := hf'.mono (fun _ _ e => .inl e)
  have st24 := GG.one st23 hf'
  have ho24 := ho23.fr hf' nGo
  have hin24 := hin'
  clear hin23 hin' hf'
  have ob := OpBlk.of ho24 rfl
  have hs := st_int go 8 (by omega) v9
  go_wp2
  clear ob hs
  have F24 := GG.set (Fr.refl (GG g go) x9) 8 (.int .i64 v9)
  have st25 := GG.set st24 8 (.int .i64 v9)
  have ho25 : Blk _ go 35 #[.int .i64 v1, .int .i64 v2, .int .i64 v3, .int .i64 v4, .slice B5 l5.length d5, .int .i64 v6, .int .i64 v7, .int .i64 v8, .int .i64 v9, .slice none 0 0, .int .i64 0, .int .i64 0, .int .u64 0, .int .i64 0, .slice none 0 0, .slice none 0 0, .int .i64 0, .int .i64 0, .int .u64 0, .slice none 0 0, .int .i64 0, .int .i64 0, .slice none 0 0, .int .u64 0, .slice none 0 0, .int .u64 0, .int .u64 0] := ho24.set 8 (.int .i64 v9)
  have hin25 := InAt.set hin24 lgo 8 (.int .i64 v9)
  clear ho24 hin24
  rw [rounds_succ]
  have cp := (hp5.fr st25 nGp).cell 0
  have cc := (hc5.fr st25 nGc).cell 0
  go_wp2_with (fail)
  refine (getNd_any g g gp gc bs a9 e9 l10 a10 e10 _ hin25 h10 (hp5.fr st25 nGp) (hc5.fr st25 nGc)).mono ?_
  rintro _ x10 ⟨B10, d10, ls10, hls10, rfl, hown', hrw10, hin', hf'⟩
  have hls10' := Lib.hid hls10
  clear hls10
  have hrw10' := Lib.hid hrw10
  clear hrw10
  have row10 := (RowAt.of_own hown').lower (base' := w.heap.size) (Nat.le_trans f05.size st25.size)
  clear cp hown' cc
  have F25 : Fr (GG g go) _ _ := hf'.mono (fun _ _ e => .inl e)
  have st26 := GG.one st25 hf'
  have ho26 := ho25.fr hf' nGo
  have hin26 := hin'
  clear hin25 hin' hf'
  have keep10 := Lib.hid (fun (w' : World) (hf : Fr (GG g go) _ w') => rowGG row10 hf ho26 hin26 (by decide) (by decide))
  clear row10
  have keeps10 := Lib.hid (fun (w' : World) (hf : Fr (GG g go) _ w') y hy => rowGG ((hrw10'.out y hy).lower (base' := w.heap.size) (Nat.le_trans f05.size st25.size)) hf ho26 hin26 (by decide) (by decide))
  clear hrw10'
  have r9 := ho26.cell 9
  have q9 := ho26.frozen 9
  go_upto_region 17 with (fail)
  clear r9 q9
  have F26 := GG.set (Fr.refl (GG g go) x10) 9 (.slice B10 ls10.length d10)
  have st27 := GG.set st26 9 (.slice B10 ls10.length d10)
  have ho27 : Blk _ go 35 #[.int .i64 v1, .int .i64 v2, .int .i64 v3, .int .i64 v4, .slice B5 l5.length d5, .int .i64 v6, .int .i64 v7, .int .i64 v8, .int .i64 v9, .slice B10 ls10.length d10, .int .i64 0, .int .i64 0, .int .u64 0, .int .i64 0, .slice none 0 0, .slice none 0 0, .int .i64 0, .int .i64 0, .int .u64 0, .slice none 0 0, .int .i64 0, .int .i64 0, .slice none 0 0, .int .u64 0, .slice none 0 0, .int .u64 0, .int .u64 0] := ho26.set 9 (.slice B10 ls10.length d10)
  have hin27 := InAt.set hin26 lgo 9 (.slice B10 ls10.length d10)
  clear ho26 hin26
  generalize (x10.setCell ⟨go, 9, none⟩ (.slice B10 ls10.length d10)) = y17 at *
  have hind : InAt y17.drew g g bs a10 e10 := hin27.drewN 1
  have std : Fr (GG g go) w5 y17.drew := st27.drew
  have hod := ho27.drew
  have obd := OpBlk.of hod rfl
  have Fdy17 : Fr (GG g go) y17 y17.drew := (Fr.refl _ _).drew
  have pd : y17.drew.cell? ⟨gp, 0, none⟩ = some (.pointer (some ⟨g, 0, none⟩)) := (hp5.fr std nGp).cell 0
  have bd : y17.drew.cell? ⟨gb, 0, none⟩ = some (.func (.func 56) #[] #[.pointer (some ⟨gp, 0, none⟩)]) := (hb5.fr std nGb).cell 0
  have cd : y17.drew.cell? ⟨gc, 0, none⟩ = some (.func (.func 58) #[] #[.pointer (some ⟨gp, 0, none⟩)]) := (hc5.fr std nGc).cell 0
  have hi11 : Hid (Pk.rdIdent bs a10 e10 = ((i11.b, i11.s, i11.u), a11, e11)) := rdId_eq h11.out
  have hs10 := st_ident10 go i11.b i11.s (i11.u : Int)
  have hs13 := st_int go 13 (by omega) v12
  have hs14 := fun A c => st_bytes go 14 (by omega) A s13.length c
  go_region_held3 (fun w' => w'.cell? ⟨gp, 0, none⟩ = some (.pointer (some ⟨g, 0, none⟩)) ∧ w'.cell? ⟨gb, 0, none⟩ = some (.func (.func 56) #[] #[.pointer (some ⟨gp, 0, none⟩)]) ∧ w'.cell? ⟨gc, 0, none⟩ = some (.func (.func 58) #[] #[.pointer (some ⟨gp, 0, none⟩)]) ∧ OpBlk w' go) ((first | with_reducible exact ⟨pd, bd, cd, obd⟩ | with_reducible exact ⟨p11, b11, c11, ob11⟩ | with_reducible exact ⟨p12, b12, c12, ob12⟩ | with_reducible exact ⟨p13, b13, c13, ob13⟩ | with_reducible exact ⟨(cell_set1 (cell_set1 (cell_set1 p13 ngp) ngp) ngp), (cell_set1 (cell_set1 (cell_set1 b13 ngb) ngb) ngb), (cell_set1 (cell_set1 (cell_set1 c13 ngc) ngc) ngc), (OpBlk.set (OpBlk.set (OpBlk.set ob13 _ _) _ _) _ _)⟩ | with_reducible exact ⟨(cell_set1 (cell_set1 (cell_set1 (cell_set1 p13 ngp) ngp) ngp) ngp), (cell_set1 (cell_set1 (cell_set1 (cell_set1 b13 ngb) ngb) ngb) ngb), (cell_set1 (cell_set1 (cell_set1 (cell_set1 c13 ngc) ngc) ngc) ngc), (OpBlk.set (OpBlk.set (OpBlk.set (OpBlk.set ob13 _ _) _ _) _ _) _ _)⟩ | with_reducible exact ⟨(cell_set1 (cell_set1 (cell_set1 (cell_set1 (cell_set1 p13 ngp) ngp) ngp) ngp) ngp), (cell_set1 (cell_set1 (cell_set1 (cell_set1 (cell_set1 b13 ngb) ngb) ngb) ngb) ngb), (cell_set1 (cell_set1 (cell_set1 (cell_set1 (cell_set1 c13 ngc) ngc) ngc) ngc) ngc), (OpBlk.set (OpBlk.set (OpBlk.set (OpBlk.set (OpBlk.set ob13 _ _) _ _) _ _) _ _) _ _)⟩)) (first
    | (go_at_call 62; (with_reducible refine (inIdent_any g g bs a10 e10 i11.b i11.s i11.u a11 e11 _ hind hi11).mono ?_); rintro _ x11 ⟨rfl, hin'11, hf'⟩; have F11x := hf'.mono (S' := GG g go) (fun _ _ e => .inl e); have sx11 := GG.one std hf'; have p11 : x11.cell? ⟨gp, 0, none⟩ = some (.pointer (some ⟨g, 0, none⟩)) := (hp5.fr sx11 nGp).cell 0; have b11 : x11.cell? ⟨gb, 0, none⟩ = some (.func (.func 56) #[] #[.pointer (some ⟨gp, 0, none⟩)]) := (hb5.fr sx11 nGb).cell 0; have c11 : x11.cell? ⟨gc, 0, none⟩ = some (.func (.func 58) #[] #[.pointer (some ⟨gp, 0, none⟩)]) := (hc5.fr sx11 nGc).cell 0; have oo11 := hod.fr hf' nGo; have ob11 := OpBlk.of oo11 rfl; clear hf')
    | (go_at_call 60; (with_reducible refine (inInt_any g g bs a11 e11 v12 a12 e12 _ hin'11 h12).mono ?_); rintro _ x12 ⟨rfl, hin'12, hf'⟩; have F12x := hf'.mono (S' := GG g go) (fun _ _ e => .inl e); have sx12 := GG.one sx11 hf'; have p12 : x12.cell? ⟨gp, 0, none⟩ = some (.pointer (some ⟨g, 0, none⟩)) := (hp5.fr sx12 nGp).cell 0; have b12 : x12.cell? ⟨gb, 0, none⟩ = some (.func (.func 56) #[] #[.pointer (some ⟨gp, 0, none⟩)]) := (hb5.fr sx12 nGb).cell 0; have c12 : x12.cell? ⟨gc, 0, none⟩ = some (.func (.func 58) #[] #[.pointer (some ⟨gp, 0, none⟩)]) := (hc5.fr sx12 nGc).cell 0; have oo12 := oo11.fr hf' nGo; have ob12 := OpBlk.of oo12 rfl; clear hf')
    | (go_at_call 56; (with_reducible refine (gbytes_any g g gp bs a12 e12 s13 a13 e13 _ hin'12 (hp5.fr sx12 nGp) hlen h13).mono ?_); rintro _ x13 ⟨B13, d13, rfl, row13, hin'13, hf'⟩; have F13x := hf'.mono (S' := GG g go) (fun _ _ e => .inl e); have sx13 := GG.one sx12 hf'; have p13 : x13.cell? ⟨gp, 0, none⟩ = some (.pointer (some ⟨g, 0, none⟩)) := (hp5.fr sx13 nGp).cell 0; have b13 : x13.cell? ⟨gb, 0, none⟩ = some (.func (.func 56) #[] #[.pointer (some ⟨gp, 0, none⟩)]) := (hb5.fr sx13 nGb).cell 0; have c13 : x13.cell? ⟨gc, 0, none⟩ = some (.func (.func 58) #[] #[.pointer (some ⟨gp, 0, none⟩)]) := (hc5.fr sx13 nGc).cell 0; have oo13 := oo12.fr hf' nGo; have ob13 := OpBlk.of oo13 rfl; clear hf'))
  have rw13 := row13.lower (base' := w.heap.size) (Nat.le_trans f05.size sx12.size)
  have keep13 := Lib.hid (fun (w' : World) (hf : Fr (GG g go) _ w') => rowGG rw13 hf oo13 hin'13 (by decide) (by decide))
  clear rw13
  have st28 := sx13
  have ho28 := oo13
  have hin28 := hin'13
  have F28 := GG.set (Fr.refl (GG g go) x13) 10 (.int .i64 i11.b)
  have st29 := GG.set st28 10 (.int .i64 i11.b)
  have ho29 : Blk _ go 35 #[.int .i64 v1, .int .i64 v2, .int .i64 v3, .int .i64 v4, .slice B5 l5.length d5, .int .i64 v6, .int .i64 v7, .int .i64 v8, .int .i64 v9, .slice B10 ls10.length d10, .int .i64 i11.b, .int .i64 0, .int .u64 0, .int .i64 0, .slice none 0 0, .slice none 0 0, .int .i64 0, .int .i64 0, .int .u64 0, .slice none 0 0, .int .i64 0, .int .i64 0, .slice none 0 0, .int .u64 0, .slice none 0 0, .int .u64 0, .int .u64 0] := ho28.set 10 (.int .i64 i11.b)
  have hin29 := InAt.set hin28 lgo 10 (.int .i64 i11.b)
  clear ho28 hin28
  have F29 := GG.set (Fr.refl (GG g go) (x13.setCell ⟨go, 10, none⟩ (.int .i64 i11.b))) 11 (.int .i64 i11.s)
  have st30 := GG.set st29 11 (.int .i64 i11.s)
  have ho30 : Blk _ go 35 #[.int .i64 v1, .int .i64 v2, .int .i64 v3, .int .i64 v4, .slice B5 l5.length d5, .int .i64 v6, .int .i64 v7, .int .i64 v8, .int .i64 v9, .slice B10 ls10.length d10, .int .i64 i11.b, .int .i64 i11.s, .int .u64 0, .int .i64 0, .slice none 0 0, .slice none 0 0, .int .i64 0, .int .i64 0, .int .u64 0, .slice none 0 0, .int .i64 0, .int .i64 0, .slice none 0 0, .int .u64 0, .slice none 0 0, .int .u64 0, .int .u64 0] := ho29.set 11 (.int .i64 i11.s)
  have hin30 := InAt.set hin29 lgo 11 (.int .i64 i11.s)
  clear ho29 hin29
  have F30 := GG.set (Fr.refl (GG g go) ((x13.setCell ⟨go, 10, none⟩ (.int .i64 i11.b)).setCell ⟨go, 11, none⟩ (.int .i64 i11.s))) 12 (.int .u64 (i11.u : Int))
  have st31 := GG.set st30 12 (.int .u64 (i11.u : Int))
  have ho31 : Blk _ go 35 #[.int .i64 v1, .int .i64 v2, .int .i64 v3, .int .i64 v4, .slice B5 l5.length d5, .int .i64 v6, .int .i64 v7, .int .i64 v8, .int .i64 v9, .slice B10 ls10.length d10, .int .i64 i11.b, .int .i64 i11.s, .int .u64 (i11.u : Int), .int .i64 0, .slice none 0 0, .slice none 0 0, .int .i64 0, .int .i64 0, .int .u64 0, .slice none 0 0, .int .i64 0, .int .i64 0, .slice none 0 0, .int .u64 0, .slice none 0 0, .int .u64 0, .int .u64 0] := ho30.set 12 (.int .u64 (i11.u : Int))
  have hin31 := InAt.set hin30 lgo 12 (.int .u64 (i11.u : Int))
  clear ho30 hin30
  have F31 := GG.set (Fr.refl (GG g go) (((x13.setCell ⟨go, 10, none⟩ (.int .i64 i11.b)).setCell ⟨go, 11, none⟩ (.int .i64 i11.s)).setCell ⟨go, 12, none⟩ (.int .u64 (i11.u : Int)))) 13 (.int .i64 v12)
  have st32 := GG.set st31 13 (.int .i64 v12)
  have ho32 : Blk _ go 35 #[.int .i64 v1, .int .i64 v2, .int .i64 v3, .int .i64 v4, .slice B5 l5.length d5, .int .i64 v6, .int .i64 v7, .int .i64 v8, .int .i64 v9, .slice B10 ls10.length d10, .int .i64 i11.b, .int .i64 i11.s, .int .u64 (i11.u : Int), .int .i64 v12, .slice none 0 0, .slice none 0 0, .int .i64 0, .int .i64 0, .int .u64 0, .slice none 0 0, .int .i64 0, .int .i64 0, .slice none 0 0, .int .u64 0, .slice none 0 0, .int .u64 0, .int .u64 0] := ho31.set 13 (.int .i64 v12)
  have hin32 := InAt.set hin31 lgo 13 (.int .i64 v12)
  clear ho31 hin31
  have F32 := GG.set (Fr.refl (GG g go) ((((x13.setCell ⟨go, 10, none⟩ (.int .i64 i11.b)).setCell ⟨go, 11, none⟩ (.int .i64 i11.s)).setCell ⟨go, 12, none⟩ (.int .u64 (i11.u : Int))).setCell ⟨go, 13, none⟩ (.int .i64 v12))) 14 (.slice B13 s13.length d13)
  have st33 := GG.set st32 14 (.slice B13 s13.length d13)
  have ho33 : Blk _ go 35 #[.int .i64 v1, .int .i64 v2, .int .i64 v3, .int .i64 v4, .slice B5 l5.length d5, .int .i64 v6, .int .i64 v7, .int .i64 v8, .int .i64 v9, .slice B10 ls10.length d10, .int .i64 i11.b, .int .i64 i11.s, .int .u64 (i11.u : Int), .int .i64 v12, .slice B13 s13.length d13, .slice none 0 0, .int .i64 0, .int .i64 0, .int .u64 0, .slice none 0 0, .int .i64 0, .int .i64 0, .slice none 0 0, .int .u64 0, .slice none 0 0, .int .u64 0, .int .u64 0] := ho32.set 14 (.slice B13 s13.length d13)
  have hin33 := InAt.set hin32 lgo 14 (.slice B13 s13.length d13)
  clear ho32 hin32
  clear hind std hod obd pd bd cd p11 b11 c11 ob11 p12 b12 c12 ob12 p13 b13 c13 ob13 hi11 hs10 hs13 hs14
  go_upto_region 18 with (fail)
  generalize (((((x13.setCell ⟨go, 10, none⟩ (.int .i64 i11.b)).setCell ⟨go, 11, none⟩ (.int .i64 i11.s)).setCell ⟨go, 12, none⟩ (.int .u64 (i11.u : Int))).setCell ⟨go, 13, none⟩ (.int .i64 v12)).setCell ⟨go, 14, none⟩ (.slice B13 s13.length d13)) = y18 at *
  have hind : InAt y18.drew g g bs a13 e13 := hin33.drewN 1
  have std : Fr (GG g go) w5 y18.drew := st33.drew
  have hod := ho33.drew
  have obd := OpBlk.of hod rfl
  have Fdy18 : Fr (GG g go) y18 y18.drew := (Fr.refl _ _).drew
  have pd : y18.drew.cell? ⟨gp, 0, none⟩ = some (.pointer (some ⟨g, 0, none⟩)) := (hp5.fr std nGp).cell 0
  have bd : y18.drew.cell? ⟨gb, 0, none⟩ = some (.func (.func 56) #[] #[.pointer (some ⟨gp, 0, none⟩)]) := (hb5.fr std nGb).cell 0
  have cd : y18.drew.cell? ⟨gc, 0, none⟩ = some (.func (.func 58) #[] #[.pointer (some ⟨gp, 0, none⟩)]) := (hc5.fr std nGc).cell 0
  have hi15 : Hid (Pk.rdIdent bs a14 e14 = ((i15.b, i15.s, i15.u), a15, e15)) := rdId_eq h15.out
  have hs15 := fun A c => st_u64s go 15 (by omega) A l14.length c
  have hs16 := st_ident16 go i15.b i15.s (i15.u : Int)
  have hs19 := fun A c => st_ints go 19 (by omega) A l16.length c
  go_cut [] (fun wc => ∃ (B14 : Option Addr) (d14 : Nat) (B16 : Option Addr) (d16 : Nat), InAt wc g g bs a16 e16 ∧ Blk wc go 35 #[.int .i64 v1, .int .i64 v2, .int .i64 v3, .int .i64 v4, .slice B5 l5.length d5, .int .i64 v6, .int .i64 v7, .int .i64 v8, .int .i64 v9, .slice B10 ls10.length d10, .int .i64 i11.b, .int .i64 i11.s, .int .u64 (i11.u : Int), .int .i64 v12, .slice B13 s13.length d13, .slice B14 l14.length d14, .int .i64 i15.b, .int .i64 i15.s, .int .u64 (i15.u : Int), .slice B16 l16.length d16, .int .i64 0, .int .i64 0, .slice none 0 0, .int .u64 0, .slice none 0 0, .int .u64 0, .int .u64 0] ∧ Fr (GG g go) w5 wc ∧ Fr (GG g go) y18 wc ∧ RowAt wc w.heap.size 25 1 B14 l14.length d14 (l14.map Uv) ∧ RowAt wc w.heap.size 3 1 B16 l16.length d16 (l16.map Iv))
  case first =>
    go_region_held3 (fun w' => w'.cell? ⟨gp, 0, none⟩ = some (.pointer (some ⟨g, 0, none⟩)) ∧ w'.cell? ⟨gb, 0, none⟩ = some (.func (.func 56) #[] #[.pointer (some ⟨gp, 0, none⟩)]) ∧ w'.cell? ⟨gc, 0, none⟩ = some (.func (.func 58) #[] #[.pointer (some ⟨gp, 0, none⟩)]) ∧ OpBlk w' go) ((first | with_reducible exact ⟨pd, bd, cd, obd⟩ | with_reducible exact ⟨p14, b14, c14, ob14⟩ | with_reducible exact ⟨p15, b15, c15, ob15⟩ | with_reducible exact ⟨p16, b16, c16, ob16⟩ | with_reducible exact ⟨(cell_set1 p16 ngp), (cell_set1 b16 ngb), (cell_set1 c16 ngc), (OpBlk.set ob16 _ _)⟩ | with_reducible exact ⟨(cell_set1 (cell_set1 (cell_set1 (cell_set1 p16 ngp) ngp) ngp) ngp), (cell_set1 (cell_set1 (cell_set1 (cell_set1 b16 ngb) ngb) ngb) ngb), (cell_set1 (cell_set1 (cell_set1 (cell_set1 c16 ngc) ngc) ngc) ngc), (OpBlk.set (OpBlk.set (OpBlk.set (OpBlk.set ob16 _ _) _ _) _ _) _ _)⟩ | with_reducible exact ⟨(cell_set1 (cell_set1 (cell_set1 (cell_set1 (cell_set1 p16 ngp) ngp) ngp) ngp) ngp), (cell_set1 (cell_set1 (cell_set1 (cell_set1 (cell_set1 b16 ngb) ngb) ngb) ngb) ngb), (cell_set1 (cell_set1 (cell_set1 (cell_set1 (cell_set1 c16 ngc) ngc) ngc) ngc) ngc), (OpBlk.set (OpBlk.set (OpBlk.set (OpBlk.set (OpBlk.set ob16 _ _) _ _) _ _) _ _) _ _)⟩)) (first
      | (go_at_call 66; (with_reducible refine (getNum_any g g bs a13 e13 l14 a14 e14 _ hind h14).mono ?_); rintro _ x14 ⟨B14, d14, rfl, own14, hin'14, hf'⟩; have F14x := hf'.mono (S' := GG g go) (fun _ _ e => .inl e); have sx14 := GG.one std hf'; have p14 : x14.cell? ⟨gp, 0, none⟩ = some (.pointer (some ⟨g, 0, none⟩)) := (hp5.fr sx14 nGp).cell 0; have b14 : x14.cell? ⟨gb, 0, none⟩ = some (.func (.func 56) #[] #[.pointer (some ⟨gp, 0, none⟩)]) := (hb5.fr sx14 nGb).cell 0; have c14 : x14.cell? ⟨gc, 0, none⟩ = some (.func (.func 58) #[] #[.pointer (some ⟨gp, 0, none⟩)]) := (hc5.fr sx14 nGc).cell 0; have oo14 := hod.fr hf' nGo; have ob14 := OpBlk.of oo14 rfl; clear hf')
      | (go_at_call 62; (with_reducible refine (inIdent_any g g bs a14 e14 i15.b i15.s i15.u a15 e15 _ hin'14 hi15).mono ?_); rintro _ x15 ⟨rfl, hin'15, hf'⟩; have F15x := hf'.mono (S' := GG g go) (fun _ _ e => .inl e); have sx15 := GG.one sx14 hf'; have p15 : x15.cell? ⟨gp, 0, none⟩ = some (.pointer (some ⟨g, 0, none⟩)) := (hp5.fr sx15 nGp).cell 0; have b15 : x15.cell? ⟨gb, 0, none⟩ = some (.func (.func 56) #[] #[.pointer (some ⟨gp, 0, none⟩)]) := (hb5.fr sx15 nGb).cell 0; have c15 : x15.cell? ⟨gc, 0, none⟩ = some (.func (.func 58) #[] #[.pointer (some ⟨gp, 0, none⟩)]) := (hc5.fr sx15 nGc).cell 0; have oo15 := oo14.fr hf' nGo; have ob15 := OpBlk.of oo15 rfl; clear hf')
      | (go_at_call 67; (with_reducible refine (getInt_any g g bs a15 e15 l16 a16 e16 _ hin'15 h16).mono ?_); rintro _ x16 ⟨B16, d16, rfl, own16, hin'16, hf'⟩; have F16x := hf'.mono (S' := GG g go) (fun _ _ e => .inl e); have sx16 := GG.one sx15 hf'; have p16 : x16.cell? ⟨gp, 0, none⟩ = some (.pointer (some ⟨g, 0, none⟩)) := (hp5.fr sx16 nGp).cell 0; have b16 : x16.cell? ⟨gb, 0, none⟩ = some (.func (.func 56) #[] #[.pointer (some ⟨gp, 0, none⟩)]) := (hb5.fr sx16 nGb).cell 0; have c16 : x16.cell? ⟨gc, 0, none⟩ = some (.func (.func 58) #[] #[.pointer (some ⟨gp, 0, none⟩)]) := (hc5.fr sx16 nGc).cell 0; have oo16 := oo15.fr hf' nGo; have ob16 := OpBlk.of oo16 rfl; clear hf'))
    all_goals
      go_wp2_with (fail)
      go_meet
      exact ⟨B14, d14, B16, d16, (InAt.set (InAt.set (InAt.set (InAt.set (InAt.set hin'16 lgo 15 (.slice B14 l14.length d14)) lgo 16 (.int .i64 i15.b)) lgo 17 (.int .i64 i15.s)) lgo 18 (.int .u64 (i15.u : Int))) lgo 19 (.slice B16 l16.length d16)), (((((oo16.set 15 (.slice B14 l14.length d14)).set 16 (.int .i64 i15.b)).set 17 (.int .i64 i15.s)).set 18 (.int .u64 (i15.u : Int))).set 19 (.slice B16 l16.length d16)), (GG.set (GG.set (GG.set (GG.set (GG.set sx16 15 (.slice B14 l14.length d14)) 16 (.int .i64 i15.b)) 17 (.int .i64 i15.s)) 18 (.int .u64 (i15.u : Int))) 19 (.slice B16 l16.length d16)), (GG.set (GG.set (GG.set (GG.set (GG.set (((Fdy18.trans F14x (fun _ _ e => e)).trans F15x (fun _ _ e => e)).trans F16x (fun _ _ e => e)) 15 (.slice B14 l14.length d14)) 16 (.int .i64 i15.b)) 17 (.int .i64 i15.s)) 18 (.int .u64 (i15.u : Int))) 19 (.slice B16 l16.length d16)), (rowGG (rowGG (rowGG ((RowAt.of_own own14).lower (base' := w.heap.size) (Nat.le_trans f05.size std.size)) F15x oo14 hin'14 (by decide) (by decide)) F16x oo15 hin'15 (by decide) (by decide)) (GG.set (GG.set (GG.set (GG.set (GG.set (Fr.refl (GG g go) _) 15 (.slice B14 l14.length d14)) 16 (.int .i64 i15.b)) 17 (.int .i64 i15.s)) 18 (.int .u64 (i15.u : Int))) 19 (.slice B16 l16.length d16)) oo16 hin'16 (by decide) (by decide)), (rowGG ((RowAt.of_own own16).lower (base' := w.heap.size) (Nat.le_trans f05.size sx15.size)) (GG.set (GG.set (GG.set (GG.set (GG.set (Fr.refl (GG g go) _) 15 (.slice B14 l14.length d14)) 16 (.int .i64 i15.b)) 17 (.int .i64 i15.s)) 18 (.int .u64 (i15.u : Int))) 19 (.slice B16 l16.length d16)) oo16 hin'16 (by decide) (by decide))⟩
  case rest =>
  obtain ⟨B14, d14, B16, d16, hin34, ho34, st34, Fcy18, rw14, rw16⟩ := hcut
  have keep14 := Lib.hid (fun (w' : World) (hf : Fr (GG g go) _ w') => rowGG rw14 hf ho34 hin34 (by decide) (by decide))
  clear rw14
  have keep16 := Lib.hid (fun (w' : World) (hf : Fr (GG g go) _ w') => rowGG rw16 hf ho34 hin34 (by decide) (by decide))
  clear rw16
  go_upto_region 19 with (fail)
  generalize wc = y19 at *
  have hind : InAt y19.drew g g bs a16 e16 := hin34.drewN 1
  have std : Fr (GG g go) w5 y19.drew := st34.drew
  have hod := ho34.drew
  have obd := OpBlk.of hod rfl
  have Fdy19 : Fr (GG g go) y19 y19.drew := (Fr.refl _ _).drew
  have pd : y19.drew.cell? ⟨gp, 0, none⟩ = some (.pointer (some ⟨g, 0, none⟩)) := (hp5.fr std nGp).cell 0
  have bd : y19.drew.cell? ⟨gb, 0, none⟩ = some (.func (.func 56) #[] #[.pointer (some ⟨gp, 0, none⟩)]) := (hb5.fr std nGb).cell 0
  have cd : y19.drew.cell? ⟨gc, 0, none⟩ = some (.func (.func 58) #[] #[.pointer (some ⟨gp, 0, none⟩)]) := (hc5.fr std nGc).cell 0
  have hs20 := st_int go 20 (by omega) v17
  have hs21 := st_int go 21 (by omega) v18
  have hs22 := fun A c => st_boxes go 22 (by omega) A l19.length c
  have hs23 := st_u64 go 23 (by omega) (v20 : Int)
  go_cut [] (fun wc => ∃ (B19 : Option Addr) (d19 : Nat), InAt wc g g bs a20 e20 ∧ Blk wc go 35 #[.int .i64 v1, .int .i64 v2, .int .i64 v3, .int .i64 v4, .slice B5 l5.length d5, .int .i64 v6, .int .i64 v7, .int .i64 v8, .int .i64 v9, .slice B10 ls10.length d10, .int .i64 i11.b, .int .i64 i11.s, .int .u64 (i11.u : Int), .int .i64 v12, .slice B13 s13.length d13, .slice B14 l14.length d14, .int .i64 i15.b, .int .i64 i15.s, .int .u64 (i15.u : Int), .slice B16 l16.length d16, .int .i64 v17, .int .i64 v18, .slice B19 l19.length d19, .int .u64 (v20 : Int), .slice none 0 0, .int .u64 0, .int .u64 0] ∧ Fr (GG g go) w5 wc ∧ Fr (GG g go) y19 wc ∧ RowAt wc w.heap.size 60 4 B19 l19.length d19 (l19.flatMap Bx.cells))
  case first =>
    go_region_held3 (fun w' => w'.cell? ⟨gp, 0, none⟩ = some (.pointer (some ⟨g, 0, none⟩)) ∧ w'.cell? ⟨gb, 0, none⟩ = some (.func (.func 56) #[] #[.pointer (some ⟨gp, 0, none⟩)]) ∧ w'.cell? ⟨gc, 0, none⟩ = some (.func (.func 58) #[] #[.pointer (some ⟨gp, 0, none⟩)]) ∧ OpBlk w' go) ((first | with_reducible exact ⟨pd, bd, cd, obd⟩ | with_reducible exact ⟨p17, b17, c17, ob17⟩ | with_reducible exact ⟨p18, b18, c18, ob18⟩ | with_reducible exact ⟨p19, b19, c19, ob19⟩ | with_reducible exact ⟨p20, b20, c20, ob20⟩ | with_reducible exact ⟨(cell_set1 p20 ngp), (cell_set1 b20 ngb), (cell_set1 c20 ngc), (OpBlk.set ob20 _ _)⟩ | with_reducible exact ⟨(cell_set1 (cell_set1 p20 ngp) ngp), (cell_set1 (cell_set1 b20 ngb) ngb), (cell_set1 (cell_set1 c20 ngc) ngc), (OpBlk.set (OpBlk.set ob20 _ _) _ _)⟩ | with_reducible exact ⟨(cell_set1 (cell_set1 (cell_set1 p20 ngp) ngp) ngp), (cell_set1 (cell_set1 (cell_set1 b20 ngb) ngb) ngb), (cell_set1 (cell_set1 (cell_set1 c20 ngc) ngc) ngc), (OpBlk.set (OpBlk.set (OpBlk.set ob20 _ _) _ _) _ _)⟩ | with_reducible exact ⟨(cell_set1 (cell_set1 (cell_set1 (cell_set1 p20 ngp) ngp) ngp) ngp), (cell_set1 (cell_set1 (cell_set1 (cell_set1 b20 ngb) ngb) ngb) ngb), (cell_set1 (cell_set1 (cell_set1 (cell_set1 c20 ngc) ngc) ngc) ngc), (OpBlk.set (OpBlk.set (OpBlk.set (OpBlk.set ob20 _ _) _ _) _ _) _ _)⟩)) (first
      | (go_at_call 60; (with_reducible refine (inInt_any g g bs a16 e16 v17 a17 e17 _ hind h17).mono ?_); rintro _ x17 ⟨rfl, hin'17, hf'⟩; have F17x := hf'.mono (S' := GG g go) (fun _ _ e => .inl e); have sx17 := GG.one std hf'; have p17 : x17.cell? ⟨gp, 0, none⟩ = some (.pointer (some ⟨g, 0, none⟩)) := (hp5.fr sx17 nGp).cell 0; have b17 : x17.cell? ⟨gb, 0, none⟩ = some (.func (.func 56) #[] #[.pointer (some ⟨gp, 0, none⟩)]) := (hb5.fr sx17 nGb).cell 0; have c17 : x17.cell? ⟨gc, 0, none⟩ = some (.func (.func 58) #[] #[.pointer (some ⟨gp, 0, none⟩)]) := (hc5.fr sx17 nGc).cell 0; have oo17 := hod.fr hf' nGo; have ob17 := OpBlk.of oo17 rfl; clear hf')
      | (go_at_call 60; (with_reducible refine (inInt_any g g bs a17 e17 v18 a18 e18 _ hin'17 h18).mono ?_); rintro _ x18 ⟨rfl, hin'18, hf'⟩; have F18x := hf'.mono (S' := GG g go) (fun _ _ e => .inl e); have sx18 := GG.one sx17 hf'; have p18 : x18.cell? ⟨gp, 0, none⟩ = some (.pointer (some ⟨g, 0, none⟩)) := (hp5.fr sx18 nGp).cell 0; have b18 : x18.cell? ⟨gb, 0, none⟩ = some (.func (.func 56) #[] #[.pointer (some ⟨gp, 0, none⟩)]) := (hb5.fr sx18 nGb).cell 0; have c18 : x18.cell? ⟨gc, 0, none⟩ = some (.func (.func 58) #[] #[.pointer (some ⟨gp, 0, none⟩)]) := (hc5.fr sx18 nGc).cell 0; have oo18 := oo17.fr hf' nGo; have ob18 := OpBlk.of oo18 rfl; clear hf')
      | (go_at_call 65; (with_reducible refine (getBx_any g g gp bs a18 e18 l19 a19 e19 _ hin'18 h19 (hp5.fr sx18 nGp)).mono ?_); rintro _ x19 ⟨B19, d19, rfl, own19, hin'19, hf'⟩; have F19x := hf'.mono (S' := GG g go) (fun _ _ e => .inl e); have sx19 := GG.one sx18 hf'; have p19 : x19.cell? ⟨gp, 0, none⟩ = some (.pointer (some ⟨g, 0, none⟩)) := (hp5.fr sx19 nGp).cell 0; have b19 : x19.cell? ⟨gb, 0, none⟩ = some (.func (.func 56) #[] #[.pointer (some ⟨gp, 0, none⟩)]) := (hb5.fr sx19 nGb).cell 0; have c19 : x19.cell? ⟨gc, 0, none⟩ = some (.func (.func 58) #[] #[.pointer (some ⟨gp, 0, none⟩)]) := (hc5.fr sx19 nGc).cell 0; have oo19 := oo18.fr hf' nGo; have ob19 := OpBlk.of oo19 rfl; clear hf')
      | (go_at_call 59; (with_reducible refine (inNum_any g g bs a19 e19 v20 a20 e20 _ hin'19 h20).mono ?_); rintro _ x20 ⟨rfl, hin'20, hf'⟩; have F20x := hf'.mono (S' := GG g go) (fun _ _ e => .inl e); have sx20 := GG.one sx19 hf'; have p20 : x20.cell? ⟨gp, 0, none⟩ = some (.pointer (some ⟨g, 0, none⟩)) := (hp5.fr sx20 nGp).cell 0; have b20 : x20.cell? ⟨gb, 0, none⟩ = some (.func (.func 56) #[] #[.pointer (some ⟨gp, 0, none⟩)]) := (hb5.fr sx20 nGb).cell 0; have c20 : x20.cell? ⟨gc, 0, none⟩ = some (.func (.func 58) #[] #[.pointer (some ⟨gp, 0, none⟩)]) := (hc5.fr sx20 nGc).cell 0; have oo20 := oo19.fr hf' nGo; have ob20 := OpBlk.of oo20 rfl; clear hf'))
    all_goals
      go_wp2_with (fail)
      go_meet
      exact ⟨B19, d19, (InAt.set (InAt.set (InAt.set (InAt.set hin'20 lgo 20 (.int .i64 v17)) lgo 21 (.int .i64 v18)) lgo 22 (.slice B19 l19.length d19)) lgo 23 (.int .u64 (v20 : Int))), ((((oo20.set 20 (.int .i64 v17)).set 21 (.int .i64 v18)).set 22 (.slice B19 l19.length d19)).set 23 (.int .u64 (v20 : Int))), (GG.set (GG.set (GG.set (GG.set sx20 20 (.int .i64 v17)) 21 (.int .i64 v18)) 22 (.slice B19 l19.length d19)) 23 (.int .u64 (v20 : Int))), (GG.set (GG.set (GG.set (GG.set ((((Fdy19.trans F17x (fun _ _ e => e)).trans F18x (fun _ _ e => e)).trans F19x (fun _ _ e => e)).trans F20x (fun _ _ e => e)) 20 (.int .i64 v17)) 21 (.int .i64 v18)) 22 (.slice B19 l19.length d19)) 23 (.int .u64 (v20 : Int))), (rowGG (rowGG ((RowAt.of_own own19).lower (base' := w.heap.size) (Nat.le_trans f05.size sx18.size)) F20x oo19 hin'19 (by decide) (by decide)) (GG.set (GG.set (GG.set (GG.set (Fr.refl (GG g go) _) 20 (.int .i64 v17)) 21 (.int .i64 v18)) 22 (.slice B19 l19.length d19)) 23 (.int .u64 (v20 : Int))) oo20 hin'20 (by decide) (by decide))⟩
  case rest =>
  obtain ⟨B19, d19, hin35, ho35, st35, Fcy19, rw19⟩ := hcut
  have keep19 := Lib.hid (fun (w' : World) (hf : Fr (GG g go) _ w') => rowGG rw19 hf ho35 hin35 (by decide) (by decide))
  clear rw19
  have cp := (hp5.fr st35 nGp).cell 0
  have cc := (hb5.fr st35 nGb).cell 0
  go_wp2_with (fail)
  refine (getSl_any g g gp gb bs a20 e20 l21 a21 e21 _ hin35 h21 (hp5.fr st35 nGp) (hb5.fr st35 nGb) hlen).mono ?_
  rintro _ x21 ⟨B21, d21, ls21, hls21, rfl, hown', hrw21, hin', hf'⟩
  have hls21' := Lib.hid hls21
  clear hls21
  have hrw21' := Lib.hid hrw21
  clear hrw21
  have row21 := (RowAt.of_own hown').lower (base' := w.heap.size) (Nat.le_trans f05.size st35.size)
  clear cp hown' cc
  have F35 : Fr (GG g go) _ _ := hf'.mono (fun _ _ e => .inl e)
  have st36 := GG.one st35 hf'
  have ho36 := ho35.fr hf' nGo
  have hin36 := hin'
  clear hin35 hin' hf'
  have keep21 := Lib.hid (fun (w' : World) (hf : Fr (GG g go) _ w') => rowGG row21 hf ho36 hin36 (by decide) (by decide))
  clear row21
  have keeps21 := Lib.hid (fun (w' : World) (hf : Fr (GG g go) _ w') y hy => rowGG ((hrw21'.out y hy).lower (base' := w.heap.size) (Nat.le_trans f05.size st35.size)) hf ho36 hin36 (by decide) (by decide))
  clear hrw21'
  have r24 := ho36.cell 24
  have q24 := ho36.frozen 24
  go_upto_region 21 with (fail)
  clear r24 q24
  have F36 := GG.set (Fr.refl (GG g go) x21) 24 (.slice B21 ls21.length d21)
  have st37 := GG.set st36 24 (.slice B21 ls21.length d21)
  have ho37 : Blk _ go 35 #[.int .i64 v1, .int .i64 v2, .int .i64 v3, .int .i64 v4, .slice B5 l5.length d5, .int .i64 v6, .int .i64 v7, .int .i64 v8, .int .i64 v9, .slice B10 ls10.length d10, .int .i64 i11.b, .int .i64 i11.s, .int .u64 (i11.u : Int), .int .i64 v12, .slice B13 s13.length d13, .slice B14 l14.length d14, .int .i64 i15.b, .int .i64 i15.s, .int .u64 (i15.u : Int), .slice B16 l16.length d16, .int .i64 v17, .int .i64 v18, .slice B19 l19.length d19, .int .u64 (v20 : Int), .slice B21 ls21.length d21, .int .u64 0, .int .u64 0] := ho36.set 24 (.slice B21 ls21.length d21)
  have hin37 := InAt.set hin36 lgo 24 (.slice B21 ls21.length d21)
  clear ho36 hin36
  generalize (x21.setCell ⟨go, 24, none⟩ (.slice B21 ls21.length d21)) = y21 at *
  have hind : InAt y21.drew g g bs a21 e21 := hin37.drewN 1
  have std : Fr (GG g go) w5 y21.drew := st37.drew
  have hod := ho37.drew
  have obd := OpBlk.of hod rfl
  have Fdy21 : Fr (GG g go) y21 y21.drew := (Fr.refl _ _).drew
  have pd : y21.drew.cell? ⟨gp, 0, none⟩ = some (.pointer (some ⟨g, 0, none⟩)) := (hp5.fr std nGp).cell 0
  have bd : y21.drew.cell? ⟨gb, 0, none⟩ = some (.func (.func 56) #[] #[.pointer (some ⟨gp, 0, none⟩)]) := (hb5.fr std nGb).cell 0
  have cd : y21.drew.cell? ⟨gc, 0, none⟩ = some (.func (.func 58) #[] #[.pointer (some ⟨gp, 0, none⟩)]) := (hc5.fr std nGc).cell 0
  have hs25 := st_sig go (v22 : Int) (v23 : Int)
  go_region_held3 (fun w' => w'.cell? ⟨gp, 0, none⟩ = some (.pointer (some ⟨g, 0, none⟩)) ∧ w'.cell? ⟨gb, 0, none⟩ = some (.func (.func 56) #[] #[.pointer (some ⟨gp, 0, none⟩)]) ∧ w'.cell? ⟨gc, 0, none⟩ = some (.func (.func 58) #[] #[.pointer (some ⟨gp, 0, none⟩)]) ∧ OpBlk w' go) ((first | with_reducible exact ⟨pd, bd, cd, obd⟩ | with_reducible exact ⟨p22, b22, c22, ob22⟩ | with_reducible exact ⟨p23, b23, c23, ob23⟩ | with_reducible exact ⟨(cell_set1 (cell_set1 p23 ngp) ngp), (cell_set1 (cell_set1 b23 ngb) ngb), (cell_set1 (cell_set1 c23 ngc) ngc), (OpBlk.set (OpBlk.set ob23 _ _) _ _)⟩)) (first
    | (go_at_call 59; (with_reducible refine (inNum_any g g bs a21 e21 v22 a22 e22 _ hind h22).mono ?_); rintro _ x22 ⟨rfl, hin'22, hf'⟩; have F22x := hf'.mono (S' := GG g go) (fun _ _ e => .inl e); have sx22 := GG.one std hf'; have p22 : x22.cell? ⟨gp, 0, none⟩ = some (.pointer (some ⟨g, 0, none⟩)) := (hp5.fr sx22 nGp).cell 0; have b22 : x22.cell? ⟨gb, 0, none⟩ = some (.func (.func 56) #[] #[.pointer (some ⟨gp, 0, none⟩)]) := (hb5.fr sx22 nGb).cell 0; have c22 : x22.cell? ⟨gc, 0, none⟩ = some (.func (.func 58) #[] #[.pointer (some ⟨gp, 0, none⟩)]) := (hc5.fr sx22 nGc).cell 0; have oo22 := hod.fr hf' nGo; have ob22 := OpBlk.of oo22 rfl; clear hf')
    | (go_at_call 59; (with_reducible refine (inNum_any g g bs a22 e22 v23 a23 e23 _ hin'22 h23).mono ?_); rintro _ x23 ⟨rfl, hin'23, hf'⟩; have F23x := hf'.mono (S' := GG g go) (fun _ _ e => .inl e); have sx23 := GG.one sx22 hf'; have p23 : x23.cell? ⟨gp, 0, none⟩ = some (.pointer (some ⟨g, 0, none⟩)) := (hp5.fr sx23 nGp).cell 0; have b23 : x23.cell? ⟨gb, 0, none⟩ = some (.func (.func 56) #[] #[.pointer (some ⟨gp, 0, none⟩)]) := (hb5.fr sx23 nGb).cell 0; have c23 : x23.cell? ⟨gc, 0, none⟩ = some (.func (.func 58) #[] #[.pointer (some ⟨gp, 0, none⟩)]) := (hc5.fr sx23 nGc).cell 0; have oo23 := oo22.fr hf' nGo; have ob23 := OpBlk.of oo23 rfl; clear hf'))
  have st38 := sx23
  have ho38 := oo23
  have hin38 := hin'23
  have F38 := GG.set (Fr.refl (GG g go) x23) 25 (.int .u64 (v22 : Int))
  have st39 := GG.set st38 25 (.int .u64 (v22 : Int))
  have ho39 : Blk _ go 35 #[.int .i64 v1, .int .i64 v2, .int .i64 v3, .int .i64 v4, .slice B5 l5.length d5, .int .i64 v6, .int .i64 v7, .int .i64 v8, .int .i64 v9, .slice B10 ls10.length d10, .int .i64 i11.b, .int .i64 i11.s, .int .u64 (i11.u : Int), .int .i64 v12, .slice B13 s13.length d13, .slice B14 l14.length d14, .int .i64 i15.b, .int .i64 i15.s, .int .u64 (i15.u : Int), .slice B16 l16.length d16, .int .i64 v17, .int .i64 v18, .slice B19 l19.length d19, .int .u64 (v20 : Int), .slice B21 ls21.length d21, .int .u64 (v22 : Int), .int .u64 0] := ho38.set 25 (.int .u64 (v22 : Int))
  have hin39 := InAt.set hin38 lgo 25 (.int .u64 (v22 : Int))
  clear ho38 hin38
  have F39 := GG.set (Fr.refl (GG g go) (x23.setCell ⟨go, 25, none⟩ (.int .u64 (v22 : Int)))) 26 (.int .u64 (v23 : Int))
  have st40 := GG.set st39 26 (.int .u64 (v23 : Int))
  have ho40 : Blk _ go 35 #[.int .i64 v1, .int .i64 v2, .int .i64 v3, .int .i64 v4, .slice B5 l5.length d5, .int .i64 v6, .int .i64 v7, .int .i64 v8, .int .i64 v9, .slice B10 ls10.length d10, .int .i64 i11.b, .int .i64 i11.s, .int .u64 (i11.u : Int), .int .i64 v12, .slice B13 s13.length d13, .slice B14 l14.length d14, .int .i64 i15.b, .int .i64 i15.s, .int .u64 (i15.u : Int), .slice B16 l16.length d16, .int .i64 v17, .int .i64 v18, .slice B19 l19.length d19, .int .u64 (v20 : Int), .slice B21 ls21.length d21, .int .u64 (v22 : Int), .int .u64 (v23 : Int)] := ho39.set 26 (.int .u64 (v23 : Int))
  have hin40 := InAt.set hin39 lgo 26 (.int .u64 (v23 : Int))
  clear ho39 hin39
  clear hind std hod obd pd bd cd p22 b22 c22 ob22 p23 b23 c23 ob23 hs25
  go_upto_region 22 with (fail)
  have cp := (hp5.fr st40 nGp).cell 0
  go_wp2_with (fail)
  refine (inEnd_any g g bs a23 e23 _ hin40).mono ?_
  rintro _ x24 ⟨rfl, hin', hf'⟩
  clear cp
  have F40 : Fr (GG g go) _ _ := hf'.mono (fun _ _ e => .inl e)
  have st41 := GG.one st40 hf'
  have ho41 := ho40.fr hf' nGo
  have hin41 := hin'
  clear hin40 hin' hf'
  obtain ⟨E, hE⟩ := hid_ex (Pk.endE bs a23 e23)
  rw [hE.out]
  have T40 : Fr (GG g go) _ _ := F40
  have T39 : Fr (GG g go) _ _ := F39.trans T40 (fun _ _ e => e)
  have T38 : Fr (GG g go) _ _ := F38.trans T39 (fun _ _ e => e)
  have T37 : Fr (GG g go) _ _ := F23x.trans T38 (fun _ _ e => e)
  have T36 : Fr (GG g go) _ _ := F22x.trans T37 (fun _ _ e => e)
  have T35 : Fr (GG g go) _ _ := Fdy21.trans T36 (fun _ _ e => e)
  have T34 : Fr (GG g go) _ _ := F36.trans T35 (fun _ _ e => e)
  have T33 : Fr (GG g go) _ _ := F35.trans T34 (fun _ _ e => e)
  have T32 : Fr (GG g go) _ _ := Fcy19.trans T33 (fun _ _ e => e)
  have T31 : Fr (GG g go) _ _ := Fcy18.trans T32 (fun _ _ e => e)
  have T30 : Fr (GG g go) _ _ := F32.trans T31 (fun _ _ e => e)
  have T29 : Fr (GG g go) _ _ := F31.trans T30 (fun _ _ e => e)
  have T28 : Fr (GG g go) _ _ := F30.trans T29 (fun _ _ e => e)
  have T27 : Fr (GG g go) _ _ := F29.trans T28 (fun _ _ e => e)
  have T26 : Fr (GG g go) _ _ := F28.trans T27 (fun _ _ e => e)
  have T25 : Fr (GG g go) _ _ := F13x.trans T26 (fun _ _ e => e)
  have T24 : Fr (GG g go) _ _ := F12x.trans T25 (fun _ _ e => e)
  have T23 : Fr (GG g go) _ _ := F11x.trans T24 (fun _ _ e => e)
  have T22 : Fr (GG g go) _ _ := Fdy17.trans T23 (fun _ _ e => e)
  have T21 : Fr (GG g go) _ _ := F26.trans T22 (fun _ _ e => e)
  have T20 : Fr (GG g go) _ _ := F25.trans T21 (fun _ _ e => e)
  have T19 : Fr (GG g go) _ _ := F24.trans T20 (fun _ _ e => e)
  have T18 : Fr (GG g go) _ _ := F23.trans T19 (fun _ _ e => e)
  have T17 : Fr (GG g go) _ _ := F22.trans T18 (fun _ _ e => e)
  have T16 : Fr (GG g go) _ _ := F21.trans T17 (fun _ _ e => e)
  have T15 : Fr (GG g go) _ _ := F20.trans T16 (fun _ _ e => e)
  have T14 : Fr (GG g go) _ _ := F19.trans T15 (fun _ _ e => e)
  have T13 : Fr (GG g go) _ _ := F18.trans T14 (fun _ _ e => e)
  have T12 : Fr (GG g go) _ _ := F17.trans T13 (fun _ _ e => e)
  have T11 : Fr (GG g go) _ _ := F16.trans T12 (fun _ _ e => e)
  have T10 : Fr (GG g go) _ _ := F15.trans T11 (fun _ _ e => e)
  have k5 := keep5.out _ T10
  clear keep5
  have k10 := keep10.out _ T21
  clear keep10
  have kk10 := Lib.hid (keeps10.out _ T21)
  clear keeps10
  have k13 := keep13.out _ T26
  clear keep13
  have k14 := keep14.out _ T32
  clear keep14
  have k16 := keep16.out _ T32
  clear keep16
  have k19 := keep19.out _ T33
  clear keep19
  have k21 := keep21.out _ T34
  clear keep21
  have kk21 := Lib.hid (keeps21.out _ T34)
  clear keeps21
  have hres := hres5.fr st41 nGr
  have hrd := Lib.hid (mapR_eq (g := mkOp) (seq_eq (seq_eq (seq_eq (seq_eq (seq_eq (seq_eq (seq_eq (seq_eq (seq_eq (seq_eq (seq_eq (seq_eq (seq_eq (seq_eq (seq_eq (seq_eq (seq_eq (seq_eq (seq_eq (seq_eq (seq_eq (seq_eq h1.out h2.out) h3.out) h4.out) h5.out) h6.out) h7.out) h8.out) h9.out) h10.out) h11.out) h12.out) h13.out) h14.out) h15.out) h16.out) h17.out) h18.out) h19.out) h20.out) h21.out) h22.out) h23.out))
  have fe0 : Fr Non w x24 := f05.trans st41 (fun i hi e => by rcases e with e | e <;> omega)
  clear T10 T11 T12 T13 T14 T15 T16 T17 T18 T19 T20 T21 T22 T23 T24 T25 T26 T27 T28 T29 T30 T31 T32 T33 T34 T35 T36 T37 T38 T39 T40
  have fin0 : Hid (∀ wz : World, E = 0 → Fr (One w.heap.size) x24 wz → Fr Non w wz → GetPost bs w (.returned (.tuple #[.agg #[.int .i64 v1, .int .i64 v2, .int .i64 v3, .int .i64 v4, .slice B5 l5.length d5, .int .i64 v6, .int .i64 v7, .int .i64 v8, .int .i64 v9, .slice B10 ls10.length d10, .int .i64 i11.b, .int .i64 i11.s, .int .u64 (i11.u : Int), .int .i64 v12, .slice B13 s13.length d13, .slice B14 l14.length d14, .int .i64 i15.b, .int .i64 i15.s, .int .u64 (i15.u : Int), .slice B16 l16.length d16, .int .i64 v17, .int .i64 v18, .slice B19 l19.length d19, .int .u64 (v20 : Int), .slice B21 ls21.length d21, .int .u64 (v22 : Int), .int .u64 (v23 : Int)], .int .i64 0])) wz) := by
    intro wz hE0 hfz fez
    have hg := get_eq0 hrd.out hE.out hE0
    unfold GetPost
    rw [hg]
    refine ⟨⟨v1, v2, v3, v4, B5, d5, l5, v6, v7, v8, v9, B10, d10, ls10, i11, v12, B13, d13, s13, B14, d14, l14, i15, B16, d16, l16, v17, v18, B19, d19, l19, v20, B21, d21, ls21, v22, v23⟩, ?_, rfl, ⟨k5.res hfz hres (by decide), k10.res hfz hres (by decide), fun y hy => (kk10.out y hy).res hfz hres (by decide), k13.res hfz hres (by decide), k14.res hfz hres (by decide), k16.res hfz hres (by decide), k19.res hfz hres (by decide), k21.res hfz hres (by decide), fun y hy => (kk21.out y hy).res hfz hres (by decide)⟩, fez⟩
    rw [← hls10'.out, ← hls21'.out]
    rfl
  have fin1 : Hid (∀ wz : World, E ≠ 0 → Fr Non w wz → GetPost bs w (.returned (.tuple #[.agg #[.int .i64 0, .int .i64 0, .int .i64 0, .int .i64 0, .slice none 0 0, .int .i64 0, .int .i64 0, .int .i64 0, .int .i64 0, .slice none 0 0, .int .i64 0, .int .i64 0, .int .u64 0, .int .i64 0, .slice none 0 0, .slice none 0 0, .int .i64 0, .int .i64 0, .int .u64 0, .slice none 0 0, .int .i64 0, .int .i64 0, .slice none 0 0, .int .u64 0, .slice none 0 0, .int .u64 0, .int .u64 0], .int .i64 E])) wz) := by
    intro wz hE0 fez
    have hg := get_eq1 hrd.out hE.out hE0
    unfold GetPost
    rw [hg]
    exact ⟨OpL.zero, rfl, rfl, OpL.zero_own _ _, fez⟩
  have hi : (Tryz.prog.info? 35).map (·.size) = some 27 := by kernel_rfl
  clear hn hr hl h1 h2 h3 h4 h5 h6 h7 h8 h9 h10 h11 h12 h13 h14 h15 h16 h17 h18 h19 h20 h21 h22 h23 hlen hl1 hlr hin5 hres5 f05 hlg hp5 hb5 hc5 ho5 lgp lgo ngo nGo nGp nGb nGc nGr ngp ngb ngc st5 F5 hq6 st6 ho6 lq6 nq6 fq6 fq6_1 F6 st7 F7 st8 ho8 fq6_2 F8 st9 F9 st10 ho10 fq6_3 F10 st11 F11 st12 ho12 fq6_4 F12 st13 F13 st14 ho14 F14 st15 F15 st16 ho16 hin16 F16 hq17 st17 ho17 lq17 nq17 fq17 fq17_1 F17 st18 F18 st19 ho19 fq17_2 F19 st20 F20 st21 ho21 fq17_3 F21 st22 F22 st23 ho23 fq17_4 F23 st24 F24 st25 ho25 F25 st26 F26 st27 ho27 hin27 Fdy17 hin'11 F11x sx11 oo11 hin'12 F12x sx12 oo12 row13 hin'13 F13x sx13 oo13 st28 F28 st29 F29 st30 F30 st31 F31 st32 F32 st33 ho33 hin33 Fdy18 hi15 hs15 hs16 hs19 hin34 ho34 st34 Fcy18 hind std hod obd Fdy19 pd bd cd hs20 hs21 hs22 hs23 ho35 st35 Fcy19 F35 st36 F36 st37 ho37 hin37 Fdy21 hin'22 F22x sx22 oo22 hin'23 F23x sx23 oo23 st38 F38 st39 F39 st40 ho40 F40 st41 hin41 k5 k10 kk10 k13 k14 k16 k19 k21 kk21 hrd hE hls10' hls21'
  by_cases hE0 : E = 0
  · have hz : (E != 0) = false := by rw [bne_eq_false_iff_eq]; exact hE0
    have hE0' := Lib.hid hE0
    clear hE0
    go_upto_region 25 with (fail)
    have tok1 : True := trivial
    have tok2 : True := trivial
    go_wp2_with (first | (have _t := tok1; refine wpList_load_row rfl 35 (.tmp 7) rfl rfl ho41 Tryz.underlying35 rfl hi ?_; clear tok1 _t) | (have _t := tok2; refine wpList_store_row rfl 35 (.tmp 2) (.tmp 107) rfl rfl rfl rfl hres hi rfl (by simp [Value.oneCell']) ?_; clear tok2 _t; have hfz := (Fr.refl (One w.heap.size) x24).setRow (g := w.heap.size) (fun _ => rfl) #[.int .i64 v1, .int .i64 v2, .int .i64 v3, .int .i64 v4, .slice B5 l5.length d5, .int .i64 v6, .int .i64 v7, .int .i64 v8, .int .i64 v9, .slice B10 ls10.length d10, .int .i64 i11.b, .int .i64 i11.s, .int .u64 (i11.u : Int), .int .i64 v12, .slice B13 s13.length d13, .slice B14 l14.length d14, .int .i64 i15.b, .int .i64 i15.s, .int .u64 (i15.u : Int), .slice B16 l16.length d16, .int .i64 v17, .int .i64 v18, .slice B19 l19.length d19, .int .u64 (v20 : Int), .slice B21 ls21.length d21, .int .u64 (v22 : Int), .int .u64 (v23 : Int)]; have hz2 := hres.setRow (cs := #[.int .i64 v1, .int .i64 v2, .int .i64 v3, .int .i64 v4, .slice B5 l5.length d5, .int .i64 v6, .int .i64 v7, .int .i64 v8, .int .i64 v9, .slice B10 ls10.length d10, .int .i64 i11.b, .int .i64 i11.s, .int .u64 (i11.u : Int), .int .i64 v12, .slice B13 s13.length d13, .slice B14 l14.length d14, .int .i64 i15.b, .int .i64 i15.s, .int .u64 (i15.u : Int), .slice B16 l16.length d16, .int .i64 v17, .int .i64 v18, .slice B19 l19.length d19, .int .u64 (v20 : Int), .slice B21 ls21.length d21, .int .u64 (v22 : Int), .int .u64 (v23 : Int)]); have fez := Fr.setRow fe0 (fun h => absurd h (Nat.lt_irrefl _)) #[.int .i64 v1, .int .i64 v2, .int .i64 v3, .int .i64 v4, .slice B5 l5.length d5, .int .i64 v6, .int .i64 v7, .int .i64 v8, .int .i64 v9, .slice B10 ls10.length d10, .int .i64 i11.b, .int .i64 i11.s, .int .u64 (i11.u : Int), .int .i64 v12, .slice B13 s13.length d13, .slice B14 l14.length d14, .int .i64 i15.b, .int .i64 i15.s, .int .u64 (i15.u : Int), .slice B16 l16.length d16, .int .i64 v17, .int .i64 v18, .slice B19 l19.length d19, .int .u64 (v20 : Int), .slice B21 ls21.length d21, .int .u64 (v22 : Int), .int .u64 (v23 : Int)]; generalize x24.setRow w.heap.size #[.int .i64 v1, .int .i64 v2, .int .i64 v3, .int .i64 v4, .slice B5 l5.length d5, .int .i64 v6, .int .i64 v7, .int .i64 v8, .int .i64 v9, .slice B10 ls10.length d10, .int .i64 i11.b, .int .i64 i11.s, .int .u64 (i11.u : Int), .int .i64 v12, .slice B13 s13.length d13, .slice B14 l14.length d14, .int .i64 i15.b, .int .i64 i15.s, .int .u64 (i15.u : Int), .slice B16 l16.length d16, .int .i64 v17, .int .i64 v18, .slice B19 l19.length d19, .int .u64 (v20 : Int), .slice B21 ls21.length d21, .int .u64 (v22 : Int), .int .u64 (v23 : Int)] = wz at hfz hz2 fez ⊢; (repeat (first | go_values | go_skip | go_guarded | go_step)); exact ret_blk2 (t := 35) rfl rfl hz2 rfl Tryz.underlying35 (by kernel_rfl) rfl (fin0.out wz hE0'.out hfz fez)))
  · have hz : (E != 0) = true := by rw [bne_iff_ne]; exact hE0
    have hE0' := Lib.hid hE0
    clear hE0
    go_upto_region 24 with (fail)
    have tok2 : True := trivial
    go_wp2_with (first | (have _t := tok2; refine wpList_store_row rfl 35 (.tmp 2) (.tmp 105) rfl rfl rfl rfl hres hi rfl (by simp [Value.oneCell']) ?_; clear tok2 _t; have hfz := (Fr.refl (One w.heap.size) x24).setRow (g := w.heap.size) (fun _ => rfl) #[.int .i64 0, .int .i64 0, .int .i64 0, .int .i64 0, .slice none 0 0, .int .i64 0, .int .i64 0, .int .i64 0, .int .i64 0, .slice none 0 0, .int .i64 0, .int .i64 0, .int .u64 0, .int .i64 0, .slice none 0 0, .slice none 0 0, .int .i64 0, .int .i64 0, .int .u64 0, .slice none 0 0, .int .i64 0, .int .i64 0, .slice none 0 0, .int .u64 0, .slice none 0 0, .int .u64 0, .int .u64 0]; have hz2 := hres.setRow (cs := #[.int .i64 0, .int .i64 0, .int .i64 0, .int .i64 0, .slice none 0 0, .int .i64 0, .int .i64 0, .int .i64 0, .int .i64 0, .slice none 0 0, .int .i64 0, .int .i64 0, .int .u64 0, .int .i64 0, .slice none 0 0, .slice none 0 0, .int .i64 0, .int .i64 0, .int .u64 0, .slice none 0 0, .int .i64 0, .int .i64 0, .slice none 0 0, .int .u64 0, .slice none 0 0, .int .u64 0, .int .u64 0]); have fez := Fr.setRow fe0 (fun h => absurd h (Nat.lt_irrefl _)) #[.int .i64 0, .int .i64 0, .int .i64 0, .int .i64 0, .slice none 0 0, .int .i64 0, .int .i64 0, .int .i64 0, .int .i64 0, .slice none 0 0, .int .i64 0, .int .i64 0, .int .u64 0, .int .i64 0, .slice none 0 0, .slice none 0 0, .int .i64 0, .int .i64 0, .int .u64 0, .slice none 0 0, .int .i64 0, .int .i64 0, .slice none 0 0, .int .u64 0, .slice none 0 0, .int .u64 0, .int .u64 0]; generalize x24.setRow w.heap.size #[.int .i64 0, .int .i64 0, .int .i64 0, .int .i64 0, .slice none 0 0, .int .i64 0, .int .i64 0, .int .i64 0, .int .i64 0, .slice none 0 0, .int .i64 0, .int .i64 0, .int .u64 0, .int .i64 0, .slice none 0 0, .slice none 0 0, .int .i64 0, .int .i64 0, .int .u64 0, .slice none 0 0, .int .i64 0, .int .i64 0, .slice none 0 0, .int .u64 0, .slice none 0 0, .int .u64 0, .int .u64 0] = wz at hfz hz2 fez ⊢; (repeat (first | go_values | go_skip | go_guarded | go_step)); exact ret_blk2 (t := 35) rfl rfl hz2 rfl Tryz.underlying35 (by kernel_rfl) rfl (fin1.out wz hE0'.out fez)))
end Oq
end Go.Proofs.YtahcddlgghipjaaGreatDoor
