/-
  Contracts of the functions that the claim's statement reaches, walked one by one (part 17).
  Conditions: as each theorem says.
-/
import Derived.Lib.SlBytesConst
import Derived.Test.YtafonabghnogaaaGreatDoorGwM12
import Derived.Test.YtafonabghnogaaaGreatDoorGwM13
import Derived.Test.YtafonabghnogaaaGreatDoorGwM14
import Derived.Test.YtafonabghnogaaaGreatDoorGwM16
set_option maxRecDepth 100000
set_option maxHeartbeats 16000000
open Array renaming length_toList→Al8
open Bool renaming and_eq_true→Al5
open Int renaming tmod_eq_emod_of_nonneg→Al6,tdiv_eq_ediv_of_nonneg→Am7
open List renaming not_mem_nil→Ak6,mem_singleton→Al1,mem_of_getElem?→Al2,length_map→Al3,getElem?_of_mem→Al4,mem_map_of_mem→Al7,mem_cons_self→Al9,getElem?_eq_getElem→Am0,length_append→Am1,map_append→Am2,take_of_length_le→Am3,mem_cons_of_mem→Am4,getElem_map→Am5
open Nat renaming zero_le→Ak7,le_trans→Ak9,le_refl→Al0,eq_zero_or_pos→Am6
open Go.World renaming size_alloc→Ak8
namespace Go.Proofs.YtafonabghnogaaaGreatDoor
section
open Go.RowKit
attribute [local go_sem ↓] Go.wp_at_zero Go.wp_at_succ
namespace Oq
attribute [local go_sem] Bool.not_false Bool.not_true
attribute [local go_sem ↓] Ch Eg
def Lx (b:Int) (w:World) (e:Ending) (w':World):Prop:=
 ∃y:OpL,e=.returned (.agg y.cells)∧y.by_=b∧y.op.ok∧y.own w' w.heap.size∧Fr Non w w'
def smL (b k d ol ro:Int) (pA:Option Addr) (ps:List NdL) (ep of:Id) (bA:Option Addr) (bs:List UInt8):OpL:=
 {OpL.zero with by_:=b,kind:=k,dev:=d,old:=ol,role:=ro,pathA:=pA,pathC:=ps.length,path:=ps,epoch:=ep,of:=of,bodyA:=bA,bodyC:=bs.length,body:=bs}
theorem Gd (p:Nat) (h:p<18446744073709551616):(NdL.mk p none 0 []).nd.ok:=⟨h,Ak7 _,fun _ h=>absurd h Ak6⟩
theorem z64:I64 0:=⟨by decide,by decide⟩
theorem E9:U64 0:=by decide
theorem Fa {b k d ol ro:Int} {pA bA:Option Addr} {ps:List NdL} {ep of:Id} {bs:List UInt8} (hb:I64 b) (hk:I64 k) (hd:I64 d) (ho:I64 ol) (hr:I64 ro) (hp:ps.length≤1∧∀x∈ps,x.nd.ok) (he:ep.ok) (hf:of.ok) (hbs:bs.length≤1):(smL b k d ol ro pA ps ep of bA bs).op.ok:=by
 refine ⟨hb,z64,hk,z64,⟨Ak7 _,fun _ h=>absurd h Ak6⟩,hd,ho,z64,hr,⟨?_,?_⟩,he,z64,?_,⟨Ak7 _,fun _ h=>absurd h Ak6⟩,hf,
  ⟨Ak7 _,fun _ h=>absurd h Ak6⟩,z64,z64,⟨Ak7 _,fun _ h=>absurd h Ak6⟩,E9,⟨Ak7 _,fun _ h=>absurd h Ak6⟩,E9,E9⟩
 ·
  show (ps.map NdL.nd).length≤1000;rw [Al3];omega
 ·
  intro x hx;obtain ⟨y,hy,rfl⟩:=List.mem_map.1 (show x∈ps.map NdL.nd from hx);exact hp.2 y hy
 ·
  show bs.length≤1000000;omega
theorem Ag3 {b k d ol ro:Int} {pA bA:Option Addr} {ps:List NdL} {ep of:Id} {bs:List UInt8} {w:World} {base:Nat} (hp:Own w base 103 2 pA ps.length ps.length (ps.flatMap NdL.cells)) (hps:∀y∈ps,y.xs=[]∧y.A=none∧y.c=0) (hb:RowAt w base 5 1 bA bs.length bs.length (bs.map Bv)):(smL b k d ol ro pA ps ep of bA bs).own w base:=
 ⟨RowAt.nil _ _ _ _,RowAt.of_own hp,(fun y hy=>by obtain ⟨h1,h2,h3⟩:=hps y hy;rw [h1,h2,h3];exact RowAt.nil _ _ _ _),hb,RowAt.nil _ _ _ _,RowAt.nil _ _ _ _,RowAt.nil _ _ _ _,RowAt.nil _ _ _ _,(fun _ h=>absurd h Ak6)⟩
theorem Own.blk {w:World} {base g:Nat} {t:TypeId} {size n:Nat} {cs:Array Value} (h:Blk w g t cs) (hb:base≤g) (hn:0<n) (hs:cs.size=n*size) (h1:n<9223372036854775807):Own w base t size (some ⟨g,0,none⟩) n n cs.toList:=by
 refine ⟨by rw [Al8,hs],.inr ⟨g,n,cs,rfl,hb,h,Al0 _,by unfold maxLen;omega,hs,?_⟩⟩;rw [Am3 (by rw [Al8,hs];exact Al0 _)]
theorem RowAt.blkF {w:World} {base g:Nat} {t:TypeId} {size n:Nat} {cs:Array Value} {fz:Nat × Nat} (h:w.heap[g]? =some (.cells cs t fz)) (hb:base≤g) (hs:cs.size=n*size) (h1:n<9223372036854775807) (hz:∀j,j<n*size→w.frozen? ⟨g,j,none⟩=false):RowAt w base t size (some ⟨g,0,none⟩) n n cs.toList:=by
 have hl:=(Array.getElem?_eq_some_iff.1 h).1;refine ⟨⟨⟨by rw [Al8,hs],.inr ⟨g,0,rfl,hl,fun j u hu=> ?_⟩⟩,⟨Al0 _,by omega⟩⟩,.inr ⟨g,cs,fz,rfl,hb,h,hz⟩⟩;rw [Nat.zero_add,cell_of_row w g j cs t fz h];simpa using hu
structure Am (w v:World) (nm:Array Value) (y:OpL):Prop where
 b:Blk v w.heap.size 44 y.cells
 r:Blk v (w.heap.size+1) 44 OpL.zero.cells
 n:Blk v (w.heap.size+1+1) 38 nm
 f:Fr Non w v
 sz:w.heap.size+3≤v.heap.size
 own:y.own v (w.heap.size+2)
theorem Am.gen {G:World→Prop} {w v:World} {nm:Array Value} {y:OpL} (s:Am w v nm y) (k:∀v',Am w v' nm y→G v'):G v:=k v s
theorem Am.q {w v:World} {nm:Array Value} {y:OpL} (s:Am w v nm y) (j:Nat) {x:Value} (h:y.cells[j]? =some x):v.cell? ⟨w.heap.size,j,none⟩=some x∧v.frozen? ⟨w.heap.size,j,none⟩=false:=⟨(s.b.cell j).trans h,s.b.frozen j⟩
theorem Am.o {w v:World} {a0 a1 a2:Value} {y:OpL} (s:Am w v #[a0,a1,a2] y):v.cell? ⟨w.heap.size+1+1,0,none⟩=some a0∧v.cell? ⟨w.heap.size+1+1,1,none⟩=some a1∧v.cell? ⟨w.heap.size+1+1,2,none⟩=some a2:=⟨s.n.cell 0,s.n.cell 1,s.n.cell 2⟩
theorem Ag4 {b k d ol ro b' k' d' ol' ro':Int} {pA bA:Option Addr} {ps:List NdL} {ep of ep' of':Id} {bs:List UInt8} {v:World} {B:Nat} (h:(smL b k d ol ro pA ps ep of bA bs).own v B):(smL b' k' d' ol' ro' pA ps ep' of' bA bs).own v B:=
 ⟨h.past,h.path,h.nodes,h.body,h.refs,h.guards,h.boxes,h.hist,h.seals⟩
theorem I7 {v:World} {g:Nat} {t:TypeId} {cs:Array Value} (hb:Blk v g t cs) {y:OpL} {B j:Nat} {x:Value} (h:y.own v B) (ht:t=44):y.own (v.setCell ⟨g,j,none⟩ x) B:=by
 subst ht;exact h.keepP ((Fr.refl (One g) v).setOne j x) (Types.one hb) (by decide) (by decide) (by decide) (by decide) (by decide) (by decide) (by decide)
theorem Am.base {w v:World} {nm:Array Value} {y y':OpL} (s:Am w v nm y) (j:Nat) (x:Value) (h:y.cells.setIfInBounds j x=y'.cells) (ho:y'.own (v.setCell ⟨w.heap.size,j,none⟩ x) (w.heap.size+2)):Am w (v.setCell ⟨w.heap.size,j,none⟩ x) nm y' where
 b:=h▸s.b.set j x
 r:=s.r.far (p:=⟨w.heap.size,j,none⟩) (by show w.heap.size+1≠w.heap.size;omega) x
 n:=s.n.far (p:=⟨w.heap.size,j,none⟩) (by show w.heap.size+1+1≠w.heap.size;omega) x
 f:=s.f.setNew (g:=w.heap.size) (Al0 _) j x
 sz:=by have:=s.sz;first|exact this|(simp [World.setCell];omega)
 own:=ho
theorem Am.set {w v:World} {nm:Array Value} {b k d ol ro b' k' d' ol' ro':Int} {pA bA:Option Addr} {ps:List NdL} {ep of ep' of':Id} {bs:List UInt8} (s:Am w v nm (smL b k d ol ro pA ps ep of bA bs)) (j:Nat) (x:Value)
  (h:(smL b k d ol ro pA ps ep of bA bs).cells.setIfInBounds j x=(smL b' k' d' ol' ro' pA ps ep' of' bA bs).cells:=by first|rfl|(simp [smL,OpL.cells,OpL.zero])):Am w (v.setCell ⟨w.heap.size,j,none⟩ x) nm (smL b' k' d' ol' ro' pA ps ep' of' bA bs):=
 s.base j x h (Ag4 (I7 s.b s.own rfl))
theorem Am.alloc {w v:World} {nm:Array Value} {y:OpL} (s:Am w v nm y) (o:Obj):Am w (v.alloc o) nm y:=
 ⟨s.b.alloc _,s.r.alloc _,s.n.alloc _,s.f.alloc _,by rw [Ak8];have:=s.sz;omega,s.own.non ((Fr.refl Non v).alloc o)⟩
theorem Am.path {w v:World} {nm:Array Value} {b k d ol ro:Int} {bA:Option Addr} {ep of:Id} {bs:List UInt8} (s:Am w v nm (smL b k d ol ro none [] ep of bA bs)) (p:Nat) (P:Int) (hP:P=(p:Int)):
  Am w ((v.alloc (.cells #[.int .u64 P,.slice none 0 0] 103)).setCell ⟨w.heap.size,9,none⟩ (.slice (some ⟨v.heap.size,0,none⟩) 1 1)) nm (smL b k d ol ro (some ⟨v.heap.size,0,none⟩) [⟨p,none,0,[]⟩] ep of bA bs):=by
 subst hP;have hs:=s.sz;have s1:=s.alloc (.cells #[.int .u64 (p:Int),.slice none 0 0] 103);refine s1.base 9 _ rfl (I7 s1.b ?_ rfl);have h5:=Own.blk (base:=w.heap.size+2) (n:=1) (size:=2) (Blk.new v 103 #[.int .u64 (p:Int),.slice none 0 0]) (by omega) (by omega) rfl (by omega);have h:=s1.own;exact ⟨h.past,RowAt.of_own h5,(fun y hy=>by rw [List.mem_singleton.1 (show y∈[(⟨p,none,0,[]⟩:NdL)] from hy)];exact RowAt.nil _ _ _ _),h.body,h.refs,h.guards,h.boxes,h.hist,h.seals⟩
theorem Am.body {w v:World} {nm:Array Value} {b k d ol ro:Int} {ep of:Id} (s:Am w v nm (smL b k d ol ro none [] ep of none [])) (x:UInt8) (X:Int) (hX:X=(x.toNat:Int)):
  Am w ((v.alloc (.cells #[.int .u8 X] 5)).setCell ⟨w.heap.size,14,none⟩ (.slice (some ⟨v.heap.size,0,none⟩) 1 1)) nm (smL b k d ol ro none [] ep of (some ⟨v.heap.size,0,none⟩) [x]):=by
 subst hX;have hs:=s.sz;have s1:=s.alloc (.cells #[.int .u8 (x.toNat:Int)] 5);refine s1.base 14 _ rfl (I7 s1.b ?_ rfl);have h5:=Own.blk (base:=w.heap.size+2) (n:=1) (size:=1) (Blk.new v 5 #[.int .u8 (x.toNat:Int)]) (by omega) (by omega) rfl (by omega);have h:=s1.own;exact ⟨h.past,h.path,h.nodes,RowAt.of_own h5,h.refs,h.guards,h.boxes,h.hist,h.seals⟩
theorem Am.bodyF {w v:World} {nm:Array Value} {b k d ol ro:Int} {ep of:Id} (s:Am w v nm (smL b k d ol ro none [] ep of none [])) (x:UInt8) (X:Int) (hX:X=(x.toNat:Int)):
  Am w ((v.alloc (.cells #[.int .u8 X] 5 (1,2))).setCell ⟨w.heap.size,14,none⟩ (.slice (some ⟨v.heap.size,0,none⟩) 1 1)) nm (smL b k d ol ro none [] ep of (some ⟨v.heap.size,0,none⟩) [x]):=by
 subst hX;have hs:=s.sz;have s1:=s.alloc (.cells #[.int .u8 (x.toNat:Int)] 5 (1,2));have aF:=heap_alloc_new v (.cells #[.int .u8 (x.toNat:Int)] 5 (1,2));have hgz:=hs;generalize v.alloc (.cells #[.int .u8 (x.toNat:Int)] 5 (1,2))=v1 at*;generalize v.heap.size=g at*;have h5:RowAt v1 (w.heap.size+2) 5 1 (some ⟨g,0,none⟩) 1 1 [.int .u8 (x.toNat:Int)]:=RowAt.blkF (cs:=#[.int .u8 (x.toNat:Int)]) aF (by omega) rfl (by omega) (fun j hj=>by simp [World.frozen?,aF];omega);have h:=s1.own;refine s1.base 14 _ rfl (I7 s1.b ?_ rfl);exact ⟨h.past,h.path,h.nodes,h5,h.refs,h.guards,h.boxes,h.hist,h.seals⟩
theorem Ag5 (b:Int) (n:Nat) (w:World) (hb:I64 b) (hn:n≤1000000):
  Calls Tryz.prog 86 #[.agg #[.int .i64 b,.int .i64 0,.int .i64 0,.int .i64 0,.slice none 0 0,.int .i64 0,.int .i64 0,.int .i64 0,.int .i64 0,.slice none 0 0,.int .i64 0,.int .i64 0,.int .u64 0,.int .i64 0,.slice none 0 0,.slice none 0 0,.int .i64 0,.int .i64 0,.int .u64 0,.slice none 0 0,.int .i64 0,.int .i64 0,.slice none 0 0,.int .u64 0,.slice none 0 0,.int .u64 0,.int .u64 0],.int .i64 (n:Int)] w (Lx b w):=by
 have hi:(Tryz.prog.info? 44).map (·.size)=some 27:=by kernel_rfl
 have s0:Am w (((w.alloc (.cells #[.int .i64 b,.int .i64 0,.int .i64 0,.int .i64 0,.slice none 0 0,.int .i64 0,.int .i64 0,.int .i64 0,.int .i64 0,.slice none 0 0,.int .i64 0,.int .i64 0,.int .u64 0,.int .i64 0,.slice none 0 0,.slice none 0 0,.int .i64 0,.int .i64 0,.int .u64 0,.slice none 0 0,.int .i64 0,.int .i64 0,.slice none 0 0,.int .u64 0,.slice none 0 0,.int .u64 0,.int .u64 0] 44)).alloc (.cells zO 44)).alloc (.cells #[.int .i64 (1+(n:Int)%3),.int .i64 1,.int .u64 ((n:Int)/3%3)] 38)) #[.int .i64 (1+(n:Int)%3),.int .i64 1,.int .u64 ((n:Int)/3%3)] (smL b 0 0 0 0 none [] ⟨0,0,0⟩ ⟨0,0,0⟩ none []):=by
  refine ⟨((Blk.new w 44 #[.int .i64 b,.int .i64 0,.int .i64 0,.int .i64 0,.slice none 0 0,.int .i64 0,.int .i64 0,.int .i64 0,.int .i64 0,.slice none 0 0,.int .i64 0,.int .i64 0,.int .u64 0,.int .i64 0,.slice none 0 0,.slice none 0 0,.int .i64 0,.int .i64 0,.int .u64 0,.slice none 0 0,.int .i64 0,.int .i64 0,.slice none 0 0,.int .u64 0,.slice none 0 0,.int .u64 0,.int .u64 0]).alloc (.cells zO 44)).alloc (.cells #[.int .i64 (1+(n:Int)%3),.int .i64 1,.int .u64 ((n:Int)/3%3)] 38),?_,?_,(((Fr.refl Non w).alloc _).alloc _).alloc _,?_,Ag3 (Own.nil _ _ _ _) (fun y hy=>absurd hy Ak6) (RowAt.nil _ _ _ _)⟩
  ·
   have r0:=(Blk.new (w.alloc (.cells #[.int .i64 b,.int .i64 0,.int .i64 0,.int .i64 0,.slice none 0 0,.int .i64 0,.int .i64 0,.int .i64 0,.int .i64 0,.slice none 0 0,.int .i64 0,.int .i64 0,.int .u64 0,.int .i64 0,.slice none 0 0,.slice none 0 0,.int .i64 0,.int .i64 0,.int .u64 0,.slice none 0 0,.int .i64 0,.int .i64 0,.slice none 0 0,.int .u64 0,.slice none 0 0,.int .u64 0,.int .u64 0] 44)) 44 zO).alloc (.cells #[.int .i64 (1+(n:Int)%3),.int .i64 1,.int .u64 ((n:Int)/3%3)] 38);rw [Ak8] at r0;exact r0
  ·
   have n0:=Blk.new ((w.alloc (.cells #[.int .i64 b,.int .i64 0,.int .i64 0,.int .i64 0,.slice none 0 0,.int .i64 0,.int .i64 0,.int .i64 0,.int .i64 0,.slice none 0 0,.int .i64 0,.int .i64 0,.int .u64 0,.int .i64 0,.slice none 0 0,.slice none 0 0,.int .i64 0,.int .i64 0,.int .u64 0,.slice none 0 0,.int .i64 0,.int .i64 0,.slice none 0 0,.int .u64 0,.slice none 0 0,.int .u64 0,.int .u64 0] 44)).alloc (.cells zO 44)) 38 #[.int .i64 (1+(n:Int)%3),.int .i64 1,.int .u64 ((n:Int)/3%3)];rw [Ak8,Ak8] at n0;exact n0
  ·
   rw [Ak8,Ak8,Ak8];exact Al0 _
 have kc:=Lib.hid (fun k w'=>Ht k w');have hm:n%8=0∨n%8=1∨n%8=2∨n%8=3∨n%8=4∨n%8=5∨n%8=6∨n%8=7:=by omega
 have ae:Hid (∀(y:OpL) (w1 wz:World),y.by_=b→y.op.ok→y.own w1 (w.heap.size+2)→Fr Non w w1→Fr (One (w.heap.size+1)) w1 wz→Lx b w (.returned (.agg y.cells)) wz):=by
  intro y w1 wz h1 h2 h3 h4 h5;refine ⟨y,rfl,h1,h2,?_,h4.trans h5 (fun k hk e=>absurd hk (by have e2:k=w.heap.size+1:=e;omega))⟩
  have ab:∀(t:TypeId) (sz m c:Nat) (A:Option Addr) (xs:List Value),RowAt w1 (w.heap.size+2) t sz A m c xs→RowAt wz w.heap.size t sz A m c xs:=fun t sz m c A xs ho=>(ho.fr h5 (fun h0 k hk e=>by
   have e2:k=w.heap.size+1:=e
   rcases ho.2 with h6|⟨k',_,_,e3,h6,_⟩
   · exact h0 h6
   ·
    rw [e3] at hk;injection hk with hk
    have a1:k'=k:=hk;omega)).lower (by omega)
  exact ⟨ab _ _ _ _ _ _ h3.past,ab _ _ _ _ _ _ h3.path,(fun z hz=>ab _ _ _ _ _ _ (h3.nodes z hz)),ab _ _ _ _ _ _ h3.body,ab _ _ _ _ _ _ h3.refs,ab _ _ _ _ _ _ h3.guards,ab _ _ _ _ _ _ h3.boxes,ab _ _ _ _ _ _ h3.hist,(fun z hz=>ab _ _ _ _ _ _ (h3.seals z hz))⟩
 generalize Lx b w=POST at*;go_enter Tryz.func86,Tryz.ntmps86;go_upto_region 2 with (fail)
 generalize ((w.alloc (.cells #[.int .i64 b,.int .i64 0,.int .i64 0,.int .i64 0,.slice none 0 0,.int .i64 0,.int .i64 0,.int .i64 0,.int .i64 0,.slice none 0 0,.int .i64 0,.int .i64 0,.int .u64 0,.int .i64 0,.slice none 0 0,.slice none 0 0,.int .i64 0,.int .i64 0,.int .u64 0,.slice none 0 0,.int .i64 0,.int .i64 0,.slice none 0 0,.int .u64 0,.slice none 0 0,.int .u64 0,.int .u64 0] 44)).alloc (.cells zO 44)).alloc (.cells #[.int .i64 (1+(n:Int)%3),.int .i64 1,.int .u64 ((n:Int)/3%3)] 38)=w0 at*
 rcases hm with hm|hm|hm|hm|hm|hm|hm|hm
 focus
  have n8:(n:Int)%8=0:=by omega
  obtain ⟨q2,z2⟩:=(s0.alloc (.cells zK 3)).q 2 (x:=.int .i64 0) rfl;go_upto_region 3 with (fail)
  refine Am.gen (G:=fun v'=>Code.wp _ _ _ _ v') ((s0.alloc (.cells zK 3)).set (k':=8) (b':=b) (d':=0) (ol':=0) (ro':=0) (ep':=⟨0,0,0⟩) (of':=⟨0,0,0⟩) 2 (.int .i64 8)) ?_;clear q2 z2 s0;intro w1 s1;obtain ⟨ah,af⟩:=s1.q 16 (x:=.int .i64 0) rfl;obtain ⟨ag,ai⟩:=s1.q 17 (x:=.int .i64 0) rfl;obtain ⟨ad,aj⟩:=s1.q 18 (x:=.int .u64 0) rfl;have c2:=(s1.q 2 (x:=.int .i64 8) rfl).1;obtain ⟨e0,e1,e2⟩:=s1.o;go_upto_region 21 with (fail)
  refine Am.gen (G:=fun v'=>Code.wp _ _ _ _ v') (((s1.set (b':=b) (k':=8) (d':=0) (ol':=0) (ro':=0) (ep':=⟨0,0,0⟩) (of':=⟨1+(n:Int)%3,0,0⟩) 16 (.int .i64 (1+(n:Int)%3))).set (b':=b) (k':=8) (d':=0) (ol':=0) (ro':=0) (ep':=⟨0,0,0⟩) (of':=⟨1+(n:Int)%3,1,0⟩) 17 (.int .i64 1)).set (b':=b) (k':=8) (d':=0) (ol':=0) (ro':=0) (ep':=⟨0,0,0⟩) (of':=⟨1+(n:Int)%3,1,n/3%3⟩) 18 (.int .u64 ((n:Int)/3%3))) ?_;clear c2 e0 e1 e2 s1 ah af ag ai ad aj;intro w2 s2;have c2:=(s2.q 2 (x:=.int .i64 8) rfl).1;obtain ⟨e0,e1,e2⟩:=s2.o;go_upto_region 22 with (go_at_call 57;(with_reducible refine (kc.out 8 _).mono ?_);rintro _ v ⟨rfl,rfl⟩)
  refine Am.gen (G:=fun v'=>Code.wp _ _ _ _ v') s2 ?_;clear c2 e0 e1 e2 s2;intro wz sz;have aa:(smL b 8 (0) (0) (0) none [] ⟨0,0,0⟩ ⟨1+(n:Int)%3,1,n/3%3⟩ none []).op.ok:=Fa hb ⟨by decide,by decide⟩ ⟨by omega,by omega⟩ ⟨by omega,by omega⟩ ⟨by omega,by omega⟩ ⟨by simp,(fun x hx=>absurd hx Ak6)⟩ (Cx _ _ _ ⟨by omega,by omega⟩ ⟨by omega,by omega⟩ (by show _<_;omega)) (Cx _ _ _ ⟨by omega,by omega⟩ ⟨by omega,by omega⟩ (by show _<_;omega)) (by simp);have ac:(smL b 8 (0) (0) (0) none [] ⟨0,0,0⟩ ⟨1+(n:Int)%3,1,n/3%3⟩ none []).by_=b:=rfl;generalize smL b 8 (0) (0) (0) none [] ⟨0,0,0⟩ ⟨1+(n:Int)%3,1,n/3%3⟩ none []=y at*
 rotate_left
 focus
  have n8:(n:Int)%8=1:=by omega
  obtain ⟨q2,z2⟩:=(s0.alloc (.cells zK 3)).q 2 (x:=.int .i64 0) rfl;go_upto_region 3 with (fail)
  refine Am.gen (G:=fun v'=>Code.wp _ _ _ _ v') ((s0.alloc (.cells zK 3)).set (k':=2) (b':=b) (d':=0) (ol':=0) (ro':=0) (ep':=⟨0,0,0⟩) (of':=⟨0,0,0⟩) 2 (.int .i64 2)) ?_;clear q2 z2 s0;intro w1 s1;obtain ⟨q5,z5⟩:=s1.q 5 (x:=.int .i64 0) rfl;have c2:=(s1.q 2 (x:=.int .i64 2) rfl).1;obtain ⟨e0,e1,e2⟩:=s1.o;go_upto_region 6 with (fail)
  refine Am.gen (G:=fun v'=>Code.wp _ _ _ _ v') (s1.set (b':=b) (k':=2) (d':=1+(n:Int)/8%5) (ol':=0) (ro':=0) (ep':=⟨0,0,0⟩) (of':=⟨0,0,0⟩) 5 (.int .i64 (1+(n:Int)/8%5))) ?_;clear c2 e0 e1 e2 s1 q5 z5;intro w2 s2;obtain ⟨q8,z8⟩:=s2.q 8 (x:=.int .i64 0) rfl;have c2:=(s2.q 2 (x:=.int .i64 2) rfl).1;obtain ⟨e0,e1,e2⟩:=s2.o;go_upto_region 21 with (fail)
  refine Am.gen (G:=fun v'=>Code.wp _ _ _ _ v') (s2.set (b':=b) (k':=2) (d':=1+(n:Int)/8%5) (ol':=0) (ro':=1+(n:Int)/40%3) (ep':=⟨0,0,0⟩) (of':=⟨0,0,0⟩) 8 (.int .i64 (1+(n:Int)/40%3))) ?_;clear c2 e0 e1 e2 s2 q8 z8;intro w3 s3;have c2:=(s3.q 2 (x:=.int .i64 2) rfl).1;obtain ⟨e0,e1,e2⟩:=s3.o;go_upto_region 22 with (go_at_call 57;(with_reducible refine (kc.out 2 _).mono ?_);rintro _ v ⟨rfl,rfl⟩)
  obtain ⟨q9,z9⟩:=(s3.alloc (.cells #[.int .u64 (1+(n:Int)/8%90),.slice none 0 0] 103)).q 9 (x:=.slice none 0 0) rfl;go_upto_region 24 with (fail)
  refine Am.gen (G:=fun v'=>Code.wp _ _ _ _ v') (s3.path (1+n/8%90) (1+(n:Int)/8%90) (by omega)) ?_;generalize w3.heap.size=gp;clear c2 e0 e1 e2 q9 z9 s3;intro wz sz;have aa:(smL b 2 (1+(n:Int)/8%5) (0) (1+(n:Int)/40%3) (some ⟨gp,0,none⟩) [⟨1+n/8%90,none,0,[]⟩] ⟨0,0,0⟩ ⟨0,0,0⟩ none []).op.ok:=Fa hb ⟨by decide,by decide⟩ ⟨by omega,by omega⟩ ⟨by omega,by omega⟩ ⟨by omega,by omega⟩ ⟨by simp,(fun x hx=>by rw [Al1] at hx;subst hx;exact Gd _ (by omega))⟩ (Cx _ _ _ ⟨by omega,by omega⟩ ⟨by omega,by omega⟩ (by show _<_;omega)) (Cx _ _ _ ⟨by omega,by omega⟩ ⟨by omega,by omega⟩ (by show _<_;omega)) (by simp);have ac:(smL b 2 (1+(n:Int)/8%5) (0) (1+(n:Int)/40%3) (some ⟨gp,0,none⟩) [⟨1+n/8%90,none,0,[]⟩] ⟨0,0,0⟩ ⟨0,0,0⟩ none []).by_=b:=rfl;generalize smL b 2 (1+(n:Int)/8%5) (0) (1+(n:Int)/40%3) (some ⟨gp,0,none⟩) [⟨1+n/8%90,none,0,[]⟩] ⟨0,0,0⟩ ⟨0,0,0⟩ none []=y at*
 rotate_left
 focus
  have n8:(n:Int)%8=2:=by omega
  obtain ⟨q2,z2⟩:=(s0.alloc (.cells zK 3)).q 2 (x:=.int .i64 0) rfl;go_upto_region 3 with (fail)
  refine Am.gen (G:=fun v'=>Code.wp _ _ _ _ v') ((s0.alloc (.cells zK 3)).set (k':=3) (b':=b) (d':=0) (ol':=0) (ro':=0) (ep':=⟨0,0,0⟩) (of':=⟨0,0,0⟩) 2 (.int .i64 3)) ?_;clear q2 z2 s0;intro w1 s1;obtain ⟨q5,z5⟩:=s1.q 5 (x:=.int .i64 0) rfl;have c2:=(s1.q 2 (x:=.int .i64 3) rfl).1;obtain ⟨e0,e1,e2⟩:=s1.o;go_upto_region 21 with (fail)
  refine Am.gen (G:=fun v'=>Code.wp _ _ _ _ v') (s1.set (b':=b) (k':=3) (d':=1+(n:Int)/8%5) (ol':=0) (ro':=0) (ep':=⟨0,0,0⟩) (of':=⟨0,0,0⟩) 5 (.int .i64 (1+(n:Int)/8%5))) ?_;clear c2 e0 e1 e2 s1 q5 z5;intro w2 s2;have c2:=(s2.q 2 (x:=.int .i64 3) rfl).1;obtain ⟨e0,e1,e2⟩:=s2.o;go_upto_region 22 with (go_at_call 57;(with_reducible refine (kc.out 3 _).mono ?_);rintro _ v ⟨rfl,rfl⟩)
  obtain ⟨q9,z9⟩:=(s2.alloc (.cells #[.int .u64 (1+(n:Int)/8%90),.slice none 0 0] 103)).q 9 (x:=.slice none 0 0) rfl;go_upto_region 24 with (fail)
  refine Am.gen (G:=fun v'=>Code.wp _ _ _ _ v') (s2.path (1+n/8%90) (1+(n:Int)/8%90) (by omega)) ?_;generalize w2.heap.size=gp;clear c2 e0 e1 e2 q9 z9 s2;intro wz sz;have aa:(smL b 3 (1+(n:Int)/8%5) (0) (0) (some ⟨gp,0,none⟩) [⟨1+n/8%90,none,0,[]⟩] ⟨0,0,0⟩ ⟨0,0,0⟩ none []).op.ok:=Fa hb ⟨by decide,by decide⟩ ⟨by omega,by omega⟩ ⟨by omega,by omega⟩ ⟨by omega,by omega⟩ ⟨by simp,(fun x hx=>by rw [Al1] at hx;subst hx;exact Gd _ (by omega))⟩ (Cx _ _ _ ⟨by omega,by omega⟩ ⟨by omega,by omega⟩ (by show _<_;omega)) (Cx _ _ _ ⟨by omega,by omega⟩ ⟨by omega,by omega⟩ (by show _<_;omega)) (by simp);have ac:(smL b 3 (1+(n:Int)/8%5) (0) (0) (some ⟨gp,0,none⟩) [⟨1+n/8%90,none,0,[]⟩] ⟨0,0,0⟩ ⟨0,0,0⟩ none []).by_=b:=rfl;generalize smL b 3 (1+(n:Int)/8%5) (0) (0) (some ⟨gp,0,none⟩) [⟨1+n/8%90,none,0,[]⟩] ⟨0,0,0⟩ ⟨0,0,0⟩ none []=y at*
 rotate_left
 focus
  have n8:(n:Int)%8=3:=by omega
  obtain ⟨q2,z2⟩:=(s0.alloc (.cells zK 3)).q 2 (x:=.int .i64 0) rfl;go_upto_region 3 with (fail)
  refine Am.gen (G:=fun v'=>Code.wp _ _ _ _ v') ((s0.alloc (.cells zK 3)).set (k':=4) (b':=b) (d':=0) (ol':=0) (ro':=0) (ep':=⟨0,0,0⟩) (of':=⟨0,0,0⟩) 2 (.int .i64 4)) ?_;clear q2 z2 s0;intro w1 s1;have c2:=(s1.q 2 (x:=.int .i64 4) rfl).1;obtain ⟨e0,e1,e2⟩:=s1.o;go_upto_region 21 with (fail)
  refine Am.gen (G:=fun v'=>Code.wp _ _ _ _ v') s1 ?_;clear c2 e0 e1 e2 s1;intro w2 s2;have c2:=(s2.q 2 (x:=.int .i64 4) rfl).1;obtain ⟨e0,e1,e2⟩:=s2.o;go_upto_region 22 with (go_at_call 57;(with_reducible refine (kc.out 4 _).mono ?_);rintro _ v ⟨rfl,rfl⟩)
  obtain ⟨q9,z9⟩:=(s2.alloc (.cells #[.int .u64 (1+(n:Int)/8%90),.slice none 0 0] 103)).q 9 (x:=.slice none 0 0) rfl;go_upto_region 24 with (fail)
  refine Am.gen (G:=fun v'=>Code.wp _ _ _ _ v') (s2.path (1+n/8%90) (1+(n:Int)/8%90) (by omega)) ?_;generalize w2.heap.size=gp;clear c2 e0 e1 e2 q9 z9 s2;intro wz sz;have aa:(smL b 4 (0) (0) (0) (some ⟨gp,0,none⟩) [⟨1+n/8%90,none,0,[]⟩] ⟨0,0,0⟩ ⟨0,0,0⟩ none []).op.ok:=Fa hb ⟨by decide,by decide⟩ ⟨by omega,by omega⟩ ⟨by omega,by omega⟩ ⟨by omega,by omega⟩ ⟨by simp,(fun x hx=>by rw [Al1] at hx;subst hx;exact Gd _ (by omega))⟩ (Cx _ _ _ ⟨by omega,by omega⟩ ⟨by omega,by omega⟩ (by show _<_;omega)) (Cx _ _ _ ⟨by omega,by omega⟩ ⟨by omega,by omega⟩ (by show _<_;omega)) (by simp);have ac:(smL b 4 (0) (0) (0) (some ⟨gp,0,none⟩) [⟨1+n/8%90,none,0,[]⟩] ⟨0,0,0⟩ ⟨0,0,0⟩ none []).by_=b:=rfl;generalize smL b 4 (0) (0) (0) (some ⟨gp,0,none⟩) [⟨1+n/8%90,none,0,[]⟩] ⟨0,0,0⟩ ⟨0,0,0⟩ none []=y at*
 rotate_left
 focus
  have n8:(n:Int)%8=4:=by omega
  obtain ⟨q2,z2⟩:=(s0.alloc (.cells zK 3)).q 2 (x:=.int .i64 0) rfl;go_upto_region 3 with (fail)
  refine Am.gen (G:=fun v'=>Code.wp _ _ _ _ v') ((s0.alloc (.cells zK 3)).set (k':=2) (b':=b) (d':=0) (ol':=0) (ro':=0) (ep':=⟨0,0,0⟩) (of':=⟨0,0,0⟩) 2 (.int .i64 2)) ?_;clear q2 z2 s0;intro w1 s1;obtain ⟨q5,z5⟩:=s1.q 5 (x:=.int .i64 0) rfl;have c2:=(s1.q 2 (x:=.int .i64 2) rfl).1;obtain ⟨e0,e1,e2⟩:=s1.o;go_upto_region 6 with (fail)
  refine Am.gen (G:=fun v'=>Code.wp _ _ _ _ v') (s1.set (b':=b) (k':=2) (d':=1+(n:Int)/8%5) (ol':=0) (ro':=0) (ep':=⟨0,0,0⟩) (of':=⟨0,0,0⟩) 5 (.int .i64 (1+(n:Int)/8%5))) ?_;clear c2 e0 e1 e2 s1 q5 z5;intro w2 s2;obtain ⟨q8,z8⟩:=s2.q 8 (x:=.int .i64 0) rfl;have c2:=(s2.q 2 (x:=.int .i64 2) rfl).1;obtain ⟨e0,e1,e2⟩:=s2.o;go_upto_region 21 with (fail)
  refine Am.gen (G:=fun v'=>Code.wp _ _ _ _ v') (s2.set (b':=b) (k':=2) (d':=1+(n:Int)/8%5) (ol':=0) (ro':=1+(n:Int)/40%3) (ep':=⟨0,0,0⟩) (of':=⟨0,0,0⟩) 8 (.int .i64 (1+(n:Int)/40%3))) ?_;clear c2 e0 e1 e2 s2 q8 z8;intro w3 s3;have c2:=(s3.q 2 (x:=.int .i64 2) rfl).1;obtain ⟨e0,e1,e2⟩:=s3.o;go_upto_region 22 with (go_at_call 57;(with_reducible refine (kc.out 2 _).mono ?_);rintro _ v ⟨rfl,rfl⟩)
  obtain ⟨q9,z9⟩:=(s3.alloc (.cells #[.int .u64 (1+(n:Int)/8%90),.slice none 0 0] 103)).q 9 (x:=.slice none 0 0) rfl;go_upto_region 24 with (fail)
  refine Am.gen (G:=fun v'=>Code.wp _ _ _ _ v') (s3.path (1+n/8%90) (1+(n:Int)/8%90) (by omega)) ?_;generalize w3.heap.size=gp;clear c2 e0 e1 e2 q9 z9 s3;intro wz sz;have aa:(smL b 2 (1+(n:Int)/8%5) (0) (1+(n:Int)/40%3) (some ⟨gp,0,none⟩) [⟨1+n/8%90,none,0,[]⟩] ⟨0,0,0⟩ ⟨0,0,0⟩ none []).op.ok:=Fa hb ⟨by decide,by decide⟩ ⟨by omega,by omega⟩ ⟨by omega,by omega⟩ ⟨by omega,by omega⟩ ⟨by simp,(fun x hx=>by rw [Al1] at hx;subst hx;exact Gd _ (by omega))⟩ (Cx _ _ _ ⟨by omega,by omega⟩ ⟨by omega,by omega⟩ (by show _<_;omega)) (Cx _ _ _ ⟨by omega,by omega⟩ ⟨by omega,by omega⟩ (by show _<_;omega)) (by simp);have ac:(smL b 2 (1+(n:Int)/8%5) (0) (1+(n:Int)/40%3) (some ⟨gp,0,none⟩) [⟨1+n/8%90,none,0,[]⟩] ⟨0,0,0⟩ ⟨0,0,0⟩ none []).by_=b:=rfl;generalize smL b 2 (1+(n:Int)/8%5) (0) (1+(n:Int)/40%3) (some ⟨gp,0,none⟩) [⟨1+n/8%90,none,0,[]⟩] ⟨0,0,0⟩ ⟨0,0,0⟩ none []=y at*
 rotate_left
 focus
  have n8:(n:Int)%8=5:=by omega
  obtain ⟨q2,z2⟩:=(s0.alloc (.cells zK 3)).q 2 (x:=.int .i64 0) rfl;go_upto_region 3 with (fail)
  refine Am.gen (G:=fun v'=>Code.wp _ _ _ _ v') ((s0.alloc (.cells zK 3)).set (k':=6) (b':=b) (d':=0) (ol':=0) (ro':=0) (ep':=⟨0,0,0⟩) (of':=⟨0,0,0⟩) 2 (.int .i64 6)) ?_;clear q2 z2 s0;intro w1 s1;obtain ⟨au,ar⟩:=s1.q 10 (x:=.int .i64 0) rfl;obtain ⟨av,az⟩:=s1.q 11 (x:=.int .i64 0) rfl;obtain ⟨ax,aw⟩:=s1.q 12 (x:=.int .u64 0) rfl;have c2:=(s1.q 2 (x:=.int .i64 6) rfl).1;obtain ⟨e0,e1,e2⟩:=s1.o;go_upto_region 11 with (fail)
  refine Am.gen (G:=fun v'=>Code.wp _ _ _ _ v') (((s1.set (b':=b) (k':=6) (d':=0) (ol':=0) (ro':=0) (ep':=⟨1+(n:Int)%3,0,0⟩) (of':=⟨0,0,0⟩) 10 (.int .i64 (1+(n:Int)%3))).set (b':=b) (k':=6) (d':=0) (ol':=0) (ro':=0) (ep':=⟨1+(n:Int)%3,1,0⟩) (of':=⟨0,0,0⟩) 11 (.int .i64 1)).set (b':=b) (k':=6) (d':=0) (ol':=0) (ro':=0) (ep':=⟨1+(n:Int)%3,1,n/3%3⟩) (of':=⟨0,0,0⟩) 12 (.int .u64 ((n:Int)/3%3))) ?_;clear c2 e0 e1 e2 s1 au ar av az ax aw;intro w2 s2;obtain ⟨ao,ap⟩:=(s2.alloc (.cells #[.int .u8 ((n:Int)/8%256)] 5)).q 14 (x:=.slice none 0 0) rfl;have c2:=(s2.q 2 (x:=.int .i64 6) rfl).1;obtain ⟨e0,e1,e2⟩:=s2.o;go_upto_region 21 with (fail)
  refine Am.gen (G:=fun v'=>Code.wp _ _ _ _ v') (s2.body (UInt8.ofNat (n/8)) ((n:Int)/8%256) (by rw [UInt8.toNat_ofNat'];omega)) ?_;generalize w2.heap.size=gb;clear c2 e0 e1 e2 s2 ao ap;intro w3 s3;have c2:=(s3.q 2 (x:=.int .i64 6) rfl).1;obtain ⟨e0,e1,e2⟩:=s3.o;go_upto_region 22 with (go_at_call 57;(with_reducible refine (kc.out 6 _).mono ?_);rintro _ v ⟨rfl,rfl⟩)
  refine Am.gen (G:=fun v'=>Code.wp _ _ _ _ v') s3 ?_;clear c2 e0 e1 e2 s3;intro wz sz;have aa:(smL b 6 (0) (0) (0) none [] ⟨1+(n:Int)%3,1,n/3%3⟩ ⟨0,0,0⟩ (some ⟨gb,0,none⟩) [UInt8.ofNat (n/8)]).op.ok:=Fa hb ⟨by decide,by decide⟩ ⟨by omega,by omega⟩ ⟨by omega,by omega⟩ ⟨by omega,by omega⟩ ⟨by simp,(fun x hx=>absurd hx Ak6)⟩ (Cx _ _ _ ⟨by omega,by omega⟩ ⟨by omega,by omega⟩ (by show _<_;omega)) (Cx _ _ _ ⟨by omega,by omega⟩ ⟨by omega,by omega⟩ (by show _<_;omega)) (by simp);have ac:(smL b 6 (0) (0) (0) none [] ⟨1+(n:Int)%3,1,n/3%3⟩ ⟨0,0,0⟩ (some ⟨gb,0,none⟩) [UInt8.ofNat (n/8)]).by_=b:=rfl;generalize smL b 6 (0) (0) (0) none [] ⟨1+(n:Int)%3,1,n/3%3⟩ ⟨0,0,0⟩ (some ⟨gb,0,none⟩) [UInt8.ofNat (n/8)]=y at*
 rotate_left
 focus
  have n8:(n:Int)%8=6:=by omega
  obtain ⟨q2,z2⟩:=(s0.alloc (.cells zK 3)).q 2 (x:=.int .i64 0) rfl;go_upto_region 3 with (fail)
  refine Am.gen (G:=fun v'=>Code.wp _ _ _ _ v') ((s0.alloc (.cells zK 3)).set (k':=7) (b':=b) (d':=0) (ol':=0) (ro':=0) (ep':=⟨0,0,0⟩) (of':=⟨0,0,0⟩) 2 (.int .i64 7)) ?_;clear q2 z2 s0;intro w1 s1;obtain ⟨ah,af⟩:=s1.q 16 (x:=.int .i64 0) rfl;obtain ⟨ag,ai⟩:=s1.q 17 (x:=.int .i64 0) rfl;obtain ⟨ad,aj⟩:=s1.q 18 (x:=.int .u64 0) rfl;have c2:=(s1.q 2 (x:=.int .i64 7) rfl).1;obtain ⟨e0,e1,e2⟩:=s1.o;go_upto_region 14 with (fail)
  refine Am.gen (G:=fun v'=>Code.wp _ _ _ _ v') (((s1.set (b':=b) (k':=7) (d':=0) (ol':=0) (ro':=0) (ep':=⟨0,0,0⟩) (of':=⟨1+(n:Int)%3,0,0⟩) 16 (.int .i64 (1+(n:Int)%3))).set (b':=b) (k':=7) (d':=0) (ol':=0) (ro':=0) (ep':=⟨0,0,0⟩) (of':=⟨1+(n:Int)%3,1,0⟩) 17 (.int .i64 1)).set (b':=b) (k':=7) (d':=0) (ol':=0) (ro':=0) (ep':=⟨0,0,0⟩) (of':=⟨1+(n:Int)%3,1,n/3%3⟩) 18 (.int .u64 ((n:Int)/3%3))) ?_;clear c2 e0 e1 e2 s1 ah af ag ai ad aj;intro w2 s2;obtain ⟨ao,ap⟩:=(s2.alloc (.cells #[.int .u8 43] 5 (1,2))).q 14 (x:=.slice none 0 0) rfl;have a0:=fun (w:World) (C:Array Value) (n c:Nat)=>Lib.run_convert_bytes_const (P:=Tryz.prog) w 39 5 C n c Tryz.underlying39 Tryz.underlying5;have c2:=(s2.q 2 (x:=.int .i64 7) rfl).1;obtain ⟨e0,e1,e2⟩:=s2.o;go_upto_region 21 with (fail)
  refine Am.gen (G:=fun v'=>Code.wp _ _ _ _ v') (s2.bodyF (43) (43) rfl) ?_;generalize w2.heap.size=gb;clear c2 e0 e1 e2 s2 ao ap;intro w3 s3;have c2:=(s3.q 2 (x:=.int .i64 7) rfl).1;obtain ⟨e0,e1,e2⟩:=s3.o;go_upto_region 22 with (go_at_call 57;(with_reducible refine (kc.out 7 _).mono ?_);rintro _ v ⟨rfl,rfl⟩)
  refine Am.gen (G:=fun v'=>Code.wp _ _ _ _ v') s3 ?_;clear c2 e0 e1 e2 s3;intro wz sz;have aa:(smL b 7 (0) (0) (0) none [] ⟨0,0,0⟩ ⟨1+(n:Int)%3,1,n/3%3⟩ (some ⟨gb,0,none⟩) [43]).op.ok:=Fa hb ⟨by decide,by decide⟩ ⟨by omega,by omega⟩ ⟨by omega,by omega⟩ ⟨by omega,by omega⟩ ⟨by simp,(fun x hx=>absurd hx Ak6)⟩ (Cx _ _ _ ⟨by omega,by omega⟩ ⟨by omega,by omega⟩ (by show _<_;omega)) (Cx _ _ _ ⟨by omega,by omega⟩ ⟨by omega,by omega⟩ (by show _<_;omega)) (by simp);have ac:(smL b 7 (0) (0) (0) none [] ⟨0,0,0⟩ ⟨1+(n:Int)%3,1,n/3%3⟩ (some ⟨gb,0,none⟩) [43]).by_=b:=rfl;generalize smL b 7 (0) (0) (0) none [] ⟨0,0,0⟩ ⟨1+(n:Int)%3,1,n/3%3⟩ (some ⟨gb,0,none⟩) [43]=y at*
 rotate_left
 focus
  have n8:(n:Int)%8=7:=by omega
  obtain ⟨q2,z2⟩:=(s0.alloc (.cells zK 3)).q 2 (x:=.int .i64 0) rfl;go_upto_region 3 with (fail)
  refine Am.gen (G:=fun v'=>Code.wp _ _ _ _ v') ((s0.alloc (.cells zK 3)).set (k':=13) (b':=b) (d':=0) (ol':=0) (ro':=0) (ep':=⟨0,0,0⟩) (of':=⟨0,0,0⟩) 2 (.int .i64 13)) ?_;clear q2 z2 s0;intro w1 s1;obtain ⟨ah,af⟩:=s1.q 16 (x:=.int .i64 0) rfl;obtain ⟨ag,ai⟩:=s1.q 17 (x:=.int .i64 0) rfl;obtain ⟨ad,aj⟩:=s1.q 18 (x:=.int .u64 0) rfl;have c2:=(s1.q 2 (x:=.int .i64 13) rfl).1;obtain ⟨e0,e1,e2⟩:=s1.o;go_upto_region 17 with (fail)
  refine Am.gen (G:=fun v'=>Code.wp _ _ _ _ v') (((s1.set (b':=b) (k':=13) (d':=0) (ol':=0) (ro':=0) (ep':=⟨0,0,0⟩) (of':=⟨1+(n:Int)%3,0,0⟩) 16 (.int .i64 (1+(n:Int)%3))).set (b':=b) (k':=13) (d':=0) (ol':=0) (ro':=0) (ep':=⟨0,0,0⟩) (of':=⟨1+(n:Int)%3,1,0⟩) 17 (.int .i64 1)).set (b':=b) (k':=13) (d':=0) (ol':=0) (ro':=0) (ep':=⟨0,0,0⟩) (of':=⟨1+(n:Int)%3,1,n/3%3⟩) 18 (.int .u64 ((n:Int)/3%3))) ?_;clear c2 e0 e1 e2 s1 ah af ag ai ad aj;intro w2 s2;obtain ⟨q5,z5⟩:=s2.q 5 (x:=.int .i64 0) rfl;have c2:=(s2.q 2 (x:=.int .i64 13) rfl).1;obtain ⟨e0,e1,e2⟩:=s2.o;go_upto_region 18 with (fail)
  refine Am.gen (G:=fun v'=>Code.wp _ _ _ _ v') (s2.set (b':=b) (k':=13) (d':=1+(n:Int)/8%5) (ol':=0) (ro':=0) (ep':=⟨0,0,0⟩) (of':=⟨1+(n:Int)%3,1,n/3%3⟩) 5 (.int .i64 (1+(n:Int)/8%5))) ?_;clear c2 e0 e1 e2 s2 q5 z5;intro w3 s3;obtain ⟨q6,z6⟩:=s3.q 6 (x:=.int .i64 0) rfl;have c2:=(s3.q 2 (x:=.int .i64 13) rfl).1;obtain ⟨e0,e1,e2⟩:=s3.o;go_upto_region 21 with (fail)
  refine Am.gen (G:=fun v'=>Code.wp _ _ _ _ v') (s3.set (b':=b) (k':=13) (d':=1+(n:Int)/8%5) (ol':=1+(n:Int)/40%5) (ro':=0) (ep':=⟨0,0,0⟩) (of':=⟨1+(n:Int)%3,1,n/3%3⟩) 6 (.int .i64 (1+(n:Int)/40%5))) ?_;clear c2 e0 e1 e2 s3 q6 z6;intro w4 s4;have c2:=(s4.q 2 (x:=.int .i64 13) rfl).1;obtain ⟨e0,e1,e2⟩:=s4.o;go_upto_region 22 with (go_at_call 57;(with_reducible refine (kc.out 13 _).mono ?_);rintro _ v ⟨rfl,rfl⟩)
  obtain ⟨q9,z9⟩:=(s4.alloc (.cells #[.int .u64 (1+(n:Int)/8%90),.slice none 0 0] 103)).q 9 (x:=.slice none 0 0) rfl;go_upto_region 24 with (fail)
  refine Am.gen (G:=fun v'=>Code.wp _ _ _ _ v') (s4.path (1+n/8%90) (1+(n:Int)/8%90) (by omega)) ?_;generalize w4.heap.size=gp;clear c2 e0 e1 e2 q9 z9 s4;intro wz sz;have aa:(smL b 13 (1+(n:Int)/8%5) (1+(n:Int)/40%5) (0) (some ⟨gp,0,none⟩) [⟨1+n/8%90,none,0,[]⟩] ⟨0,0,0⟩ ⟨1+(n:Int)%3,1,n/3%3⟩ none []).op.ok:=Fa hb ⟨by decide,by decide⟩ ⟨by omega,by omega⟩ ⟨by omega,by omega⟩ ⟨by omega,by omega⟩ ⟨by simp,(fun x hx=>by rw [Al1] at hx;subst hx;exact Gd _ (by omega))⟩ (Cx _ _ _ ⟨by omega,by omega⟩ ⟨by omega,by omega⟩ (by show _<_;omega)) (Cx _ _ _ ⟨by omega,by omega⟩ ⟨by omega,by omega⟩ (by show _<_;omega)) (by simp);have ac:(smL b 13 (1+(n:Int)/8%5) (1+(n:Int)/40%5) (0) (some ⟨gp,0,none⟩) [⟨1+n/8%90,none,0,[]⟩] ⟨0,0,0⟩ ⟨1+(n:Int)%3,1,n/3%3⟩ none []).by_=b:=rfl;generalize smL b 13 (1+(n:Int)/8%5) (1+(n:Int)/40%5) (0) (some ⟨gp,0,none⟩) [⟨1+n/8%90,none,0,[]⟩] ⟨0,0,0⟩ ⟨1+(n:Int)%3,1,n/3%3⟩ none []=y at*
 all_goals
  have al:=Cb y;have ak:(Tryz.prog.info? 44).map (·.size)=some y.cells.size:=hi;have bz:=sz.b;have rz:=sz.r;have hd:=Lib.hid (fun wq hq=>ae.out y wz wq ac aa sz.own sz.f hq);clear ae aa ac sz;generalize y.cells=CS at*;have hl:=Az (P:=Tryz.prog) w.heap.size 44 Tryz.underlying44 rfl ak;have a2:=Cf (P:=Tryz.prog) (w.heap.size+1) 44 ak (old:=OpL.zero.cells) (by have h:=hi;rw [ak] at h;injection h with h;rw [h];rfl) al;go_wp2_with (fail);have ay:=rz.setRow (cs:=CS);have aq:=Lib.hid (hd.out _ ((Fr.refl (One (w.heap.size+1)) wz).setRow (g:=w.heap.size+1) (fun _=>rfl) CS))
  (try simp only [Exit.inBlock,Exit.then])
  refine Dm (t:=44) rfl rfl ay rfl Tryz.underlying44 ak rfl ?_;exact aq.out
end Oq
end
section
open Go.RowKit
namespace Oq
def I8 (d a v:Int):Op:={base d 1 1 a [] [⟨5,[]⟩] with need:=v}
theorem Ag6 {d a:Int} (hd:1≤d∧d≤12) (ha:0≤a∧a≤2147483647):Pre d 1 1 a [] [⟨5,[]⟩]:=by
 refine ⟨⟨by omega,by omega⟩,hd,⟨by omega,by omega⟩,ha,⟨by simp,by simp,List.Pairwise.nil,by simp⟩,⟨by simp,?_,.inr rfl⟩⟩;intro x hx;rw [Al1] at hx;subst hx;exact ⟨⟨by decide,by decide⟩,by simp,by simp⟩
theorem Ag7 {d a v:Int} (hd:1≤d∧d≤12) (ha:0≤a∧a≤2147483647) (hv:0≤v∧v≤20):(I8 d a v).chk=0:=
 Ns (Ag6 hd ha) (by unfold inR;simp;omega)
theorem Ag8 {cards:List Cd} {d a v:Int} {c:Cd} (hd:1≤d∧d≤12) (ha:0≤a∧a≤2147483647) (hv:0≤v∧v≤20) (hc:Bi cards d=some c) (hs:c.s=Sg.pub (sec Ba d.toNat)):Ai cards [] (sgn (I8 d a v))=0:=by
 refine G5 (c:=c) (Ag7 hd ha hv) rfl (by simp) hc hs (.inr rfl) rfl ?_ ?_ ?_
 ·
  unfold clash;rw [List.any_eq_false];intro q _;simp [Bu,I8,base]
 ·
  show (0:Int)≤a;exact ha.1
 ·
  unfold Aw;show (decide ((1:Int)≤0)||(decide ((1:Int)<1)&&_))=false;rfl
theorem Ry {cards:List Cd} {l:List Pn} (h:Rows cards l) (hok:∀n∈l,n.o.ok∧n.id.ok) {id:Id} (hp:(plc l id).isSome=true):id.ok∧1≤id.s∧id.s≤2147483647:=by
 cases hq:plc l id with
 |none=>rw [hq] at hp;cases hp
 |some i=>
  obtain ⟨n,hn,e⟩:=Bt hq;have k:=h.ok i n hn;have h1:=hok n (Al2 hn);have h2:=Rs k.chk
  have h3:id.s=n.o.sq:=by
   rw [← e,k.id];rfl
  exact ⟨e▸h1.2,by omega,by omega⟩
theorem Ag9 {cards:List Cd} {l:List Pn} (h:Rows cards l) (ids:List Id):0≤late l ids∧late l ids≤2147483647:=by
 have hat:∀n∈l,n.o.at_≤2147483647:=by
  intro n hn;obtain ⟨i,hi⟩:=Al4 hn;have h1:=(chk_ok.1 (h.ok i n hi).chk).2.2.1;unfold Op.numsB at h1;simp only [Al5] at h1;have h3:=h1.1.2;unfold inR at h3;simp only [Al5,decide_eq_true_eq] at h3;exact h3.2
 refine ⟨?_,Wn l _ (by omega) hat ids⟩;unfold late
 have mono:∀(r:List Id) (t:Int),t≤r.foldl (fun t id=>max t (Bk l id)) t:=by
  intro r
  induction r with
  |nil=>intro t;exact Int.le_refl _
  |cons y r ih=>intro t;exact Int.le_trans (Int.le_max_left _ _) (ih _)
 exact mono ids 0
theorem Rz {l:List Pn} {above ids:List Id}:∀(k:Nat) (id:Id),id∈Bz l above ids k→id∈ids∧(plc l id).isSome=true∧Bj above id=false
 |0,id,h=>absurd h Ak6
 |k+1,id,h=>by
  have ih:=Rz (l:=l) (above:=above) (ids:=ids) k id;unfold Bz at h
  split at h
  ·
   rename_i y hy
   split at h
   ·
    rename_i hc;simp only [Al5,Bool.not_eq_true'] at hc
    rcases List.mem_append.1 h with h1|h1
    · exact ih h1
    ·
     rw [Al1] at h1;rw [h1];exact ⟨Al2 hy,hc.1.1,hc.1.2⟩
   · exact ih h
  · exact ih h
theorem Ah0 {l:List Pn} {ids:List Id} {id:Id} (h:id∈E7 l ids):id∈ids∧(plc l id).isSome=true∧Bj (Cm l ids) id=false:=
 Rz _ id ((Dp _).subset h)
theorem Ah1 (l:List Pn) (ids:List Id):(E7 l ids).length≤ids.length:=by
 unfold E7;rw [Gb];exact Lr _ _ _ _
theorem R3 {α:Type} [DecidableEq α]:∀{l m:List α},l.Nodup→(∀x∈l,x∈m)→l.length≤m.length
 |[],_,_,_=>Ak7 _
 |a::l,m,h,hs=>by
  have ha:=hs a (Al9);have hn:=List.nodup_cons.1 h
  have ih:=R3 (l:=l) (m:=m.erase a) hn.2 (fun x hx=>by
   have h1:=hs x (Am4 _ hx);have h2:x≠a:=fun e=>hn.1 (e▸hx);exact (List.mem_erase_of_ne h2).2 h1)
  rw [List.length_erase_of_mem ha] at ih;have hp:=List.length_pos_of_mem ha;show l.length+1≤_;omega
theorem Ah2 {cards:List Cd} {l:List Pn} (_h:Rows cards l) {cs:List Id} (hc:Ed l cs):cs.length≤l.length:=by
 have hs:∀id∈cs,id∈l.map Pn.id:=by
  intro id hid;have h1:=hc.2 id hid
  cases hq:plc l id with
  |none=>rw [hq] at h1;cases h1
  |some i=>
   obtain ⟨n,hn,e⟩:=Bt hq;rw [← e];exact Al7 (Al2 hn)
 have:=R3 hc.1 hs;rwa [Al3] at this
theorem Rows.idAt {cards:List Cd} {l:List Pn} (h:Rows cards l) {i:Nat} {n:Pn} (hi:l[i]? =some n):n.id.b=n.o.by_∧n.id.s=n.o.sq:=by
 rw [(h.ok i n hi).id];exact ⟨rfl,rfl⟩
theorem Rows.nodup {cards:List Cd} {l:List Pn} (h:Rows cards l):(l.map Pn.id).Nodup:=by
 rw [List.Nodup,List.pairwise_iff_getElem];intro i j hi hj hij e;rw [Am5,Am5] at e;rw [Al3] at hi hj;have k1:=(h.ok i _ (Am0 hi)).plc;have k2:=(h.ok j _ (Am0 hj)).plc;rw [e,k2] at k1;injection k1 with k1
 omega
theorem Ah3 {l:List Pn} {p:Nat→Bool} {id:Id}:id∈Bs l p l.length↔∃i m,p i=true∧l[i]? =some m∧m.id=id:=by
 constructor
 ·
  intro h;obtain ⟨i,m,_,h1,h2,h3⟩:=Ls l p l.length id h;exact ⟨i,m,h1,h2,h3⟩
 ·
  rintro ⟨i,m,h1,h2,h3⟩;unfold Bs;refine List.mem_filterMap.2 ⟨i,List.mem_range.2 (List.getElem?_eq_some_iff.1 h2).1,?_⟩;rw [if_pos h1,h2];exact congrArg some h3
def Fk (l m:List Pn):Prop:=∀n'∈m,∃n∈l,n.o=n'.o
theorem Rows.take {cards:List Cd} {l:List Pn} (h:Rows cards l):∀i,Rows cards (l.take i):=by
 induction h with
 |nil=>intro i;rw [List.take_nil];exact .nil
 |snoc l o hl ho ih=>
  intro i
  rcases Nat.lt_or_ge l.length i with hi|hi
  ·
   rw [Am3 (by rw [Am1,List.length_singleton];omega)];exact .snoc l o hl ho
  ·
   rw [List.take_append_of_le_length hi];exact ih i
theorem Ah4 (l:List Pn) (i:Nat):Fk l (l.take i):=fun n hn=>⟨n,List.mem_of_mem_take hn,rfl⟩
theorem I9 {cards:List Cd} {l m:List Pn} (hl:Rows cards l) (hm:Rows cards m) (hs:Fk l m) {id:Id} {j:Nat} {n':Pn} (hj:plc m id=some j) (hn:m[j]? =some n'):
  ∃i n,plc l id=some i∧l[i]? =some n∧n.o=n'.o:=by
 obtain ⟨n,h1,h2⟩:=hs n' (Al2 hn);obtain ⟨i,hi⟩:=Al4 h1;have e1:=(hl.ok i n hi).id;have e2:=(hm.ok j n' hn).id;have e3:=(hm.node hn).1 hj;refine ⟨i,n,?_,hi,h2⟩;rw [← e3,e2,← h2,← e1];exact (hl.ok i n hi).plc
theorem R4 {cards:List Cd} {l:List Pn} (h:Rows cards l) {a b:Id} {j:Nat} {n:Pn} (hj:plc l b=some j) (hn:l[j]? =some n):bef l a b=true↔∃id∈n.o.past,id=a∨bef l a id=true:=by
 have k:=h.ok j n hn;rw [bef_iff];constructor
 ·
  rintro ⟨i,j',m,h1,h2,h3,h4⟩;rw [hj] at h2;injection h2 with e
  subst e;rw [hn] at h3;injection h3 with e
  subst e;obtain ⟨id,hid,p,m,h5,h6,h7⟩:=(k.ps i).1 h4;refine ⟨id,hid,?_⟩
  rcases h7 with rfl|h7
  ·
   left;obtain ⟨x,hx,e1⟩:=Bt h5;obtain ⟨y,hy,e2⟩:=Bt h1;rw [hx] at hy;injection hy with e
   rw [← e1,← e2,e]
  ·
   right;exact bef_iff.2 ⟨i,p,m,h1,h5,h6,h7⟩
 ·
  rintro ⟨id,hid,h1⟩;obtain ⟨p,hp,hq⟩:=k.par id hid;obtain ⟨m,hm,e⟩:=Bt hq
  rcases h1 with rfl|h1
  · exact ⟨p,j,n,hq,hj,hn,(k.ps p).2 ⟨id,hid,p,m,hq,hm,.inl rfl⟩⟩
  ·
   obtain ⟨i,p',m',h2,h3,h4,h5⟩:=bef_iff.1 h1;exact ⟨i,j,n,h2,hj,hn,(k.ps i).2 ⟨id,hid,p',m',h3,h4,.inr h5⟩⟩
theorem Ly {cards:List Cd} {l m:List Pn} (hl:Rows cards l) (hm:Rows cards m) (hs:Fk l m):∀(j:Nat) (b a:Id),plc m b=some j→bef m a b=bef l a b:=by
 intro j
 induction j using Nat.strongRecOn with
 |_ j ih=>
  intro b a hj;obtain ⟨n',hn',_⟩:=Bt hj;obtain ⟨i,n,hi,hn,ho⟩:=I9 hl hm hs hj hn';rw [Bool.eq_iff_iff,R4 hm hj hn',R4 hl hi hn,ho];constructor
  ·
   rintro ⟨id,hid,h⟩;obtain ⟨p,hp,hq⟩:=(hm.ok j n' hn').par id hid;exact ⟨id,hid,h.imp zq (fun e=>by rw [← ih p hp id a hq];exact e)⟩
  ·
   rintro ⟨id,hid,h⟩;obtain ⟨p,hp,hq⟩:=(hm.ok j n' hn').par id hid;exact ⟨id,hid,h.imp zq (fun e=>by rw [ih p hp id a hq];exact e)⟩
theorem Ah5 {cards:List Cd} {l m:List Pn} (hl:Rows cards l) (hm:Rows cards m) (hs:Fk l m):∀(j:Nat) (b:Id),plc m b=some j→Ca m b=Ca l b:=by
 intro j
 induction j using Nat.strongRecOn with
 |_ j ih=>
  intro b hj;obtain ⟨n',hn',_⟩:=Bt hj;obtain ⟨i,n,hi,hn,ho⟩:=I9 hl hm hs hj hn';rw [Qz hj hn',Qz hi hn,(hm.ok j n' hn').lev,(hl.ok i n hn).lev,ho];refine Lj (fun id hid=> ?_);obtain ⟨p,hp,hq⟩:=(hm.ok j n' hn').par id hid;exact ih p hp id hq
theorem R7 {cards:List Cd} {l m:List Pn} (hl:Rows cards l) (hm:Rows cards m) (hs:Fk l m) {j:Nat} {b:Id} (hj:plc m b=some j):Bk m b=Bk l b:=by
 obtain ⟨n',hn',_⟩:=Bt hj;obtain ⟨i,n,hi,hn,ho⟩:=I9 hl hm hs hj hn';rw [Fz hj hn',Fz hi hn,ho]
theorem Ah6 {l l':List Pn} {ids:List Id} (h:∀id∈ids,Bk l' id=Bk l id):late l' ids=late l ids:=by
 unfold late
 suffices H:∀t:Int,ids.foldl (fun t id=>max t (Bk l' id)) t=ids.foldl (fun t id=>max t (Bk l id)) t from H 0
 induction ids with
 |nil=>intro t;rfl
 |cons x r ih=>intro t;rw [List.foldl_cons,List.foldl_cons,h x Al9];exact ih (fun y hy=>h y (Am4 _ hy)) _
theorem R9 {l:List Pn} {ids:List Id} (hlen:l.length≤200):clash l ids=true↔∃x∈ids,∃y∈ids,bef l x y=true:=by
 unfold clash;rw [List.any_eq_true];constructor
 ·
  rintro ⟨q,_,h⟩;rw [Al5] at h;obtain ⟨x,hx,h1⟩:=List.any_eq_true.1 h.1;obtain ⟨y,hy,h2⟩:=List.any_eq_true.1 h.2;have h1':plc l x=some q:=by simpa using h1
  obtain ⟨p,m,h3,h4,h5⟩:=upB_iff.1 h2;exact ⟨x,hx,y,hy,bef_iff.2 ⟨q,p,m,h1',h3,h4,h5⟩⟩
 ·
  rintro ⟨x,hx,y,hy,h⟩;obtain ⟨i,j,m,h1,h2,h3,h4⟩:=bef_iff.1 h;have:=Di h1;refine ⟨i,List.mem_range.2 (by omega),?_⟩;rw [Al5];exact ⟨List.any_eq_true.2 ⟨x,hx,by rw [h1];exact beq_self_eq_true _⟩,List.any_eq_true.2 ⟨y,hy,upB_iff.2 ⟨j,m,h2,h3,h4⟩⟩⟩
theorem Ge {cards:List Cd} {l:List Pn} (h:Rows cards l) {ids:List Id} {q:Nat} {n:Pn} (hq:l[q]? =some n):Ag l ids q=true↔∃id∈ids,(plc l id).isSome=true∧(id=n.id∨bef l n.id id=true):=by
 rw [Lk h.few (fun p m hm=>(h.ok p m hm).lt)];constructor
 ·
  rintro ⟨id,hid,p,m,h1,h2,h3⟩;refine ⟨id,hid,by rw [h1];rfl,?_⟩
  rcases h3 with rfl|h3
  ·
   rw [hq] at h2;injection h2 with e
   subst e;exact .inl ((h.node hq).1 h1).symm
  · exact .inr (bef_iff.2 ⟨q,p,m,(h.ok q n hq).plc,h1,h2,h3⟩)
 ·
  rintro ⟨id,hid,h1,h2⟩;obtain ⟨p,hp⟩:=Option.isSome_iff_exists.1 h1;obtain ⟨m,hm,_⟩:=Bt hp;refine ⟨id,hid,p,m,hp,hm,?_⟩
  rcases h2 with rfl|h2
  ·
   rw [(h.ok q n hq).plc] at hp;injection hp with e
   exact .inl e
  ·
   obtain ⟨i,j,m',h3,h4,h5,h6⟩:=bef_iff.1 h2;rw [(h.ok q n hq).plc] at h3;injection h3 with e
   subst e;rw [hp] at h4;injection h4 with e
   subst e;rw [hm] at h5;injection h5 with e
   subst e;exact .inr h6
theorem Ah7 {l:List Pn} {p:Nat→Bool} {d s:Int} (h0:0<s) (h:∀k m,l[k]? =some m→m.o.by_=d→p k=true→m.o.sq<s):∀K,Bd l p d K<s:=by
 intro K
 induction K with
 |zero=>exact h0
 |succ K ih=>
  unfold Bd
  split
  ·
   rename_i n hn
   split
   ·
    rename_i hc;rw [Al5,beq_iff_eq] at hc;have:=h K n hn hc.1 hc.2;omega
   · exact ih
  · exact ih
theorem Ah8 {cards:List Cd} {l m:List Pn} {o:Op} (hl:Rows cards l) (hm:Rows cards m) (hp:∀id∈o.past,(plc m id).isSome=true∧(plc l id).isSome=true∧∀a,bef m a id=bef l a id) (h0:Aw l (Ag l o.past) o=false):Aw m (Ag m o.past) o=false:=by
 unfold Aw at h0 ⊢;rw [Bool.or_eq_false_iff,decide_eq_false_iff_not] at h0 ⊢;obtain ⟨h1,h2⟩:=h0
 have key:∀(q:Nat) (n:Pn),m[q]? =some n→Ag m o.past q=true→∃q' n',l[q']? =some n'∧Ag l o.past q'=true∧n'.id=n.id:=by
  intro q n hq hps;obtain ⟨id,hid,_,h4⟩:=(Ge hm hq).1 hps;obtain ⟨_,h6,h7⟩:=hp id hid
  rcases h4 with rfl|h4
  ·
   obtain ⟨q',hq'⟩:=Option.isSome_iff_exists.1 h6;obtain ⟨n',hn',e⟩:=Bt hq';exact ⟨q',n',hn',(Ge hl hn').2 ⟨n.id,hid,h6,.inl e.symm⟩,e⟩
  ·
   rw [h7] at h4;obtain ⟨i,j,x,h8,_⟩:=bef_iff.1 h4;obtain ⟨n',hn',e⟩:=Bt h8;exact ⟨i,n',hn',(Ge hl hn').2 ⟨id,hid,h6,.inr (by rw [e];exact h4)⟩,e⟩
 have yek:∀(q:Nat) (n:Pn),l[q]? =some n→Ag l o.past q=true→∃q' n',m[q']? =some n'∧Ag m o.past q'=true∧n'.id=n.id:=by
  intro q n hq hps;obtain ⟨id,hid,_,h4⟩:=(Ge hl hq).1 hps;obtain ⟨h6,_,h7⟩:=hp id hid
  rcases h4 with rfl|h4
  ·
   obtain ⟨q',hq'⟩:=Option.isSome_iff_exists.1 h6;obtain ⟨n',hn',e⟩:=Bt hq';exact ⟨q',n',hn',(Ge hm hn').2 ⟨n.id,hid,h6,.inl e.symm⟩,e⟩
  ·
   rw [← h7] at h4;obtain ⟨i,j,x,h8,_⟩:=bef_iff.1 h4;obtain ⟨n',hn',e⟩:=Bt h8;exact ⟨i,n',hn',(Ge hm hn').2 ⟨id,hid,h6,.inr (by rw [e];exact h4)⟩,e⟩
 have h0':0<o.sq:=by
  have:0≤Bd l (Ag l o.past) o.by_ l.length:=by
   have h0:∀K,0≤Bd l (Ag l o.past) o.by_ K:=by
    intro K
    induction K with
    |zero=>exact Int.le_refl _
    |succ K ih=>
     unfold Bd
     split
     ·
      split
      · exact Int.le_trans ih (Int.le_max_left _ _)
      · exact ih
     · exact ih
   exact h0 _
  omega
 constructor
 ·
  refine Int.not_le.2 (Ah7 h0' (fun k n hk hb hps=> ?_) _);obtain ⟨q',n',h3,h4,h5⟩:=key k n hk hps;obtain ⟨e1,e2⟩:=hm.idAt hk;obtain ⟨e3,e4⟩:=hl.idAt h3;have h6:=Ll (p:=Ag l o.past) (d:=o.by_) (List.getElem?_eq_some_iff.1 h3).1 h3 (by rw [← e3,h5,e1,hb]) h4;rw [← e2,← h5,e4];omega
 ·
  rw [Bool.and_eq_false_iff] at h2 ⊢;refine h2.imp zq (fun e=> ?_);rw [Bool.not_eq_false'] at e ⊢;obtain ⟨k,n,_,h3,h4,h5,h6⟩:=aheadTo_iff.1 e;obtain ⟨q',n',h7,h8,h9⟩:=yek k n h3 h5;obtain ⟨e1,e2⟩:=hl.idAt h3;obtain ⟨e3,e4⟩:=hm.idAt h7;exact aheadTo_iff.2 ⟨q',n',(List.getElem?_eq_some_iff.1 h7).1,h7,by rw [← e3,h9,e1,h4],h8,by rw [← e4,h9,e2,h6]⟩
theorem Sa {cards:List Cd} {l:List Pn} {o:Op} (h:Ai cards l o=0):(∃c,Bi cards o.by_=some c∧Sg.check c.s o.bare o.r o.s=true)∧(o.kind=1→l=[]):=by
 unfold Ai at h
 by_cases h1:o.chk≠0
 · rw [if_pos h1] at h;exact absurd h h1
 rw [if_neg h1] at h
 by_cases h2:(plc l o.name).isSome=true
 · rw [if_pos h2] at h;omega
 rw [if_neg h2] at h
 by_cases h3:200≤l.length
 · rw [if_pos h3] at h;omega
 rw [if_neg h3] at h
 cases hc:Bi cards o.by_ with
 |none=>rw [hc] at h;dsimp only at h;omega
 |some c=>
  rw [hc] at h;dsimp only at h
  by_cases h4:Sg.check c.s o.bare o.r o.s=false
  · rw [if_pos h4] at h;omega
  rw [if_neg h4] at h
  by_cases h5:o.kind=1∧l≠[]
  · rw [if_pos h5] at h;omega
  refine ⟨⟨c,rfl,Bool.not_eq_false _▸h4⟩,fun hk=> ?_⟩;exact Decidable.byContradiction fun hne=>h5 ⟨hk,hne⟩
theorem Ah9 {o:Op} (h:o.chk=0):o.past=[]↔o.kind=1:=(chk_ok.1 h).2.2.2.2.2.2
theorem Rows.first {cards:List Cd} {l:List Pn} (h:Rows cards l) {i:Nat} {n:Pn} (hi:l[i]? =some n):n.o.kind=1↔i=0:=by
 constructor
 ·
  intro hk;have h1:=(Sa (h.step hi).1).2 hk;have h2:=(List.getElem?_eq_some_iff.1 hi).1;have h3:=congrArg List.length h1;rw [List.length_take,List.length_nil] at h3;omega
 ·
  rintro rfl;refine (Ah9 (h.ok 0 n hi).chk).1 ?_
  cases hp:n.o.past with
  |nil=>rfl
  |cons x r=>
   obtain ⟨p,hp,_⟩:=(h.ok 0 n hi).par x (by rw [hp];exact Al9);omega
theorem Ai0 {cards:List Cd} {l m:List Pn} (hl:Rows cards l) (hm:Rows cards m) (hs:Fk l m) {i:Nat} {n:Pn} (hi:l[i]? =some n) (hnew:plc m n.id=none) (hroom:m.length<200):
  Ai cards m n.o=if n.o.past.any (fun id=>(plc m id).isNone)=true then 10 else 0:=by
 have k:=hl.ok i n hi;have hstep:=(hl.step hi).1;obtain ⟨⟨c,hc,hsg⟩,hkd⟩:=Sa hstep;have hT:=G9 hstep;have h1:¬n.o.chk≠0:=fun h=>h k.chk;have h2:¬(plc m n.o.name).isSome=true:=by rw [← k.id,hnew];exact Bool.false_ne_true
 have h5:¬(n.o.kind=1∧m≠[]):=by
  rintro ⟨hk,hne⟩;have e0:=(hl.first hi).1 hk
  cases hm0:m[0]? with
  |none=>
   rw [List.getElem?_eq_none_iff] at hm0;exact hne (List.length_eq_zero_iff.1 (by omega))
  |some n'=>
   have hk':=(hm.first hm0).2 rfl;obtain ⟨j,n2,h6,h7,h8⟩:=I9 hl hm hs (hm.ok 0 n' hm0).plc hm0;rw [← h8] at hk';have e1:=(hl.first h7).1 hk';rw [e1,← e0,hi] at h7;injection h7 with h7
   have h9:=(hm.ok 0 n' hm0).plc;have e3:n'.id=n.id:=by rw [(hm.ok 0 n' hm0).id,k.id,h7,h8]
   rw [e3,hnew] at h9
   cases h9
 unfold Ai;rw [if_neg h1,if_neg h2,if_neg (by omega),hc];dsimp only;rw [if_neg (by rw [hsg];decide),if_neg h5]
 by_cases hp:n.o.past.any (fun id=>(plc m id).isNone)=true
 · rw [if_pos hp,if_pos hp]
 rw [if_neg hp,if_neg hp]
 have hpar:∀id∈n.o.past,∃j,plc m id=some j:=by
  intro id hid
  cases hq:plc m id with
  |some j=>exact ⟨j,rfl⟩
  |none=>exact absurd (List.any_eq_true.2 ⟨id,hid,by rw [hq];rfl⟩) hp
 have hl0:=hl.take i;have hs0:=Ah4 l i
 have hbm:∀id∈n.o.past,∀a,bef m a id=bef (l.take i) a id:=by
  intro id hid a;obtain ⟨j,hj⟩:=hpar id hid;obtain ⟨p,hp⟩:=hT.past id hid;rw [Ly hl hm hs j id a hj,Ly hl hl0 hs0 p id a hp]
 have h7:¬(clash m n.o.past=true∨n.o.at_<late m n.o.past):=by
  rintro (h|h)
  ·
   obtain ⟨x,hx,y,hy,hb⟩:=(R9 hm.few).1 h;rw [hbm y hy] at hb;have:=(R9 hl0.few).2 ⟨x,hx,y,hy,hb⟩;rw [hT.clash] at this
   cases this
  ·
   have e:late m n.o.past=late (l.take i) n.o.past:=Ah6 (fun id hid=>by
    obtain ⟨j,hj⟩:=hpar id hid;obtain ⟨p,hp⟩:=hT.past id hid;rw [R7 hl hm hs hj,R7 hl hl0 hs0 hp])
   rw [e] at h;exact absurd hT.late (Int.not_le.2 h)
 have h8:Aw m (Ag m n.o.past) n.o=false:=Ah8 hl0 hm (fun id hid=>by
  obtain ⟨j,hj⟩:=hpar id hid;obtain ⟨p,hp⟩:=hT.past id hid;exact ⟨by rw [hj];rfl,by rw [hp];rfl,hbm id hid⟩) hT.seq
 rw [if_neg h7,h8];rfl
def ready (m:List Pn) (o:Op):Bool:=!o.past.any (fun id=>(plc m id).isNone)
structure Cr (cards:List Cd) (l m:List Pn) (left:List Op):Prop where
 rl:Rows cards l
 rm:Rows cards m
 perm:(m.map Pn.o++left).Perm (l.map Pn.o)
theorem Cr.among {cards:List Cd} {l m:List Pn} {left:List Op} (h:Cr cards l m left):Fk l m:=by
 intro n' hn;have h1:n'.o∈l.map Pn.o:=h.perm.mem_iff.1 (List.mem_append_left _ (Al7 hn));obtain ⟨n,h2,h3⟩:=List.mem_map.1 h1;exact ⟨n,h2,h3⟩
theorem Rows.names {cards:List Cd} {l:List Pn} (h:Rows cards l):(l.map Pn.o).map Op.name=l.map Pn.id:=by
 rw [List.map_map];refine List.map_congr_left (fun n hn=> ?_);obtain ⟨i,hi⟩:=Al4 hn;exact (h.ok i n hi).id.symm
theorem Cr.nodup {cards:List Cd} {l m:List Pn} {left:List Op} (h:Cr cards l m left):(m.map Pn.id++left.map Op.name).Nodup:=by
 have h1:=h.perm.map Op.name;rw [Am2,h.rm.names,h.rl.names] at h1;exact h1.nodup_iff.2 h.rl.nodup
theorem Cr.of {cards:List Cd} {l m:List Pn} {left:List Op} (h:Cr cards l m left) {o:Op} (ho:o∈left):∃(i:Nat) (n:Pn),l[i]? =some n∧n.o=o∧plc m n.id=none:=by
 have h1:o∈l.map Pn.o:=h.perm.mem_iff.1 (List.mem_append_right _ ho);obtain ⟨n,h2,h3⟩:=List.mem_map.1 h1;obtain ⟨i,hi⟩:=Al4 h2;refine ⟨i,n,hi,h3,?_⟩
 cases hp:plc m n.id with
 |none=>rfl
 |some j=>
  obtain ⟨n',hn',e⟩:=Bt hp;have h4:=(List.nodup_append.1 h.nodup).2.2 n'.id (Al7 (Al2 hn')) o.name (Al7 ho);rw [e,(h.rl.ok i n hi).id,h3] at h4;exact absurd rfl h4
theorem Cr.err {cards:List Cd} {l m:List Pn} {left:List Op} (h:Cr cards l m left) (hlen:l.length<200) {o:Op} (ho:o∈left):Ai cards m o=if ready m o=true then 0 else 10:=by
 obtain ⟨i,n,h1,rfl,h3⟩:=h.of ho
 have hle:m.length≤l.length:=by
  have:=h.perm.length_eq;rw [Am1,Al3,Al3] at this;omega
 rw [Ai0 h.rl h.rm h.among h1 h3 (by omega)];unfold ready
 cases n.o.past.any (fun id=>(plc m id).isNone)<;>rfl
theorem Cr.take {cards:List Cd} {l m:List Pn} {left:List Op} (h:Cr cards l m left) (hlen:l.length<200) {k:Nat} {o:Op} (hk:left[k]? =some o) (hr:ready m o=true):Cr cards l (m++[Au m o]) (left.eraseIdx k):=by
 have he:=h.err hlen (Al2 hk);rw [if_pos hr] at he;refine ⟨h.rl,.snoc m o h.rm he,?_⟩;refine List.Perm.trans ?_ h.perm;rw [Am2,List.append_assoc];refine List.Perm.append_left _ ?_;obtain ⟨hlt,rfl⟩:=List.getElem?_eq_some_iff.1 hk;rw [List.eraseIdx_eq_take_drop_succ];conv=>rhs;rw [← List.take_append_drop k left,List.drop_eq_getElem_cons hlt]
 exact (List.perm_middle (a:=left[k]) (l₁:=left.take k) (l₂:=left.drop (k+1))).symm
def Tried (m:List Pn) (left:List Op) (i:Nat):Prop:=
 ∃j,i≤60+14*(14-left.length)+j∧(0<j→60+j≤i∧j<left.length∧∀t,t<j→∀o,left[(i-1-t)%left.length]? =some o→ready m o=false)
theorem Tried.few {m:List Pn} {left:List Op} {i:Nat} (h:Tried m left i) (hlen:left.length≤14) (hne:left≠[]):i<400:=by
 obtain ⟨j,h1,h2⟩:=h;have h3:0<left.length:=List.length_pos_iff.2 hne
 rcases Am6 j with h0|h0
 · omega
 ·
  have:=(h2 h0).2.1;omega
theorem Tried.hit {m m':List Pn} {left:List Op} {i k:Nat} (h:Tried m left i) (hlen:left.length≤14) (hk:k<left.length):Tried m' (left.eraseIdx k) (i+1):=by
 obtain ⟨j,h1,h2⟩:=h;have h3:(left.eraseIdx k).length=left.length-1:=List.length_eraseIdx_of_lt hk;refine ⟨0,?_,fun e=>absurd e (Nat.lt_irrefl 0)⟩;rw [h3]
 rcases Am6 j with h0|h0
 · omega
 ·
  have:=(h2 h0).2.1;omega
theorem Cr.ends {cards:List Cd} {l m:List Pn} (h:Cr cards l m []):(m.map Pn.id).Perm (l.map Pn.id):=by
 have h1:=h.perm.map Op.name;rw [List.append_nil,h.rm.names,h.rl.names] at h1;exact h1
theorem Cr.lev {cards:List Cd} {l m:List Pn} (h:Cr cards l m []) {x:Id} (hx:x∈l.map Pn.id):Ca m x=Ca l x:=by
 obtain ⟨n,h1,rfl⟩:=List.mem_map.1 (h.ends.mem_iff.2 hx);obtain ⟨j,hj⟩:=Al4 h1;exact Ah5 h.rl h.rm h.among j _ (h.rm.ok j n hj).plc
theorem Sb {cards:List Cd} {l:List Pn} (h:Rows cards l) {x id:Id}:id∈Bs l (Ar l [x]) l.length↔bef l id x=true:=by
 rw [Ah3,bef_iff];unfold Ar;constructor
 ·
  rintro ⟨i,n,h1,h2,rfl⟩;rw [List.any_cons,List.any_nil,Bool.or_false] at h1;obtain ⟨p,m,h3,h4,h5⟩:=upB_iff.1 h1;exact ⟨i,p,m,(h.ok i n h2).plc,h3,h4,h5⟩
 ·
  rintro ⟨i,j,m,h1,h2,h3,h4⟩;obtain ⟨n,hn,e⟩:=Bt h1;refine ⟨i,n,?_,hn,e⟩;rw [List.any_cons,List.any_nil,Bool.or_false];exact upB_iff.2 ⟨j,m,h2,h3,h4⟩
theorem Cr.past {cards:List Cd} {l m:List Pn} (h:Cr cards l m []) {x:Id} (hx:x∈l.map Pn.id):(Bs m (Ar m [x]) m.length).Perm (Bs l (Ar l [x]) l.length):=by
 obtain ⟨n,h1,rfl⟩:=List.mem_map.1 (h.ends.mem_iff.2 hx);obtain ⟨j,hj⟩:=Al4 h1;refine (List.perm_ext_iff_of_nodup (Lt h.rm _ _) (Lt h.rl _ _)).2 fun id=> ?_;rw [Sb h.rm,Sb h.rl,Ly h.rl h.rm h.among j _ _ (h.rm.ok j n hj).plc]
def nxL (y:OpL) (A:Option Addr) (c:Nat) (ids:List Id) (s a:Int):OpL:={y with pastA:=A,pastC:=c,past:=ids,sq:=s,at_:=a}
theorem Ai1 {y:OpL} {A:Option Addr} {c:Nat} {ids:List Id} {s a:Int} (h:y.op.ok) (hi:ids.length≤1000∧∀x∈ids,x.ok) (hs:I64 s) (ha:I64 a):(nxL y A c ids s a).op.ok where
 by_:=h.by_
 sq:=hs
 kind:=h.kind
 at_:=ha
 past:=hi
 dev:=h.dev
 old:=h.old
 mem:=h.mem
 role:=h.role
 path:=h.path
 epoch:=h.epoch
 n:=h.n
 body:=h.body
 refs:=h.refs
 of:=h.of
 guards:=h.guards
 need:=h.need
 wait:=h.wait
 boxes:=h.boxes
 pub:=h.pub
 hist:=h.hist
 r:=h.r
 s:=h.s
theorem Ai2 {y:OpL} {A:Option Addr} {c:Nat} {ids:List Id} {s a:Int} {w:World} {base:Nat} (h:y.own w base) (hi:RowAt w base 38 3 A ids.length c (ids.flatMap Id.cells)):(nxL y A c ids s a).own w base:=
 ⟨hi,h.path,h.nodes,h.body,h.refs,h.guards,h.boxes,h.hist,h.seals⟩
def fsL (d a v:Int) (A:Option Addr):OpL:={OpL.zero with by_:=d,sq:=1,kind:=1,at_:=a,pathA:=A,pathC:=1,path:=[⟨5,none,0,[]⟩],need:=v}
theorem Ai3 {d a v:Int} {A:Option Addr} (hd:I64 d) (ha:I64 a) (hv:I64 v):(fsL d a v A).op.ok:=
 ⟨hd,(show I64 1 from ⟨by decide,by decide⟩),(show I64 1 from ⟨by decide,by decide⟩),ha,⟨Ak7 _,fun _ h=>absurd h Ak6⟩,z64,z64,z64,z64,⟨by show (1:Nat)≤1000;decide,fun x hx=>by obtain rfl:=List.mem_singleton.1 hx;exact Gd 5 (by decide)⟩,⟨z64,z64,E9⟩,z64,Ak7 _,⟨Ak7 _,fun _ h=>absurd h Ak6⟩,⟨z64,z64,E9⟩,
  ⟨Ak7 _,fun _ h=>absurd h Ak6⟩,hv,z64,⟨Ak7 _,fun _ h=>absurd h Ak6⟩,E9,⟨Ak7 _,fun _ h=>absurd h Ak6⟩,E9,E9⟩
theorem Ai4 {d a v:Int} {A:Option Addr} {w:World} {base:Nat} (h:RowAt w base 103 2 A 1 1 (([⟨5,none,0,[]⟩]:List NdL).flatMap NdL.cells)):(fsL d a v A).own w base:=
 ⟨RowAt.nil _ _ _ _,h,(fun y hy=>by obtain rfl:=List.mem_singleton.1 hy;exact RowAt.nil _ _ _ _),RowAt.nil _ _ _ _,RowAt.nil _ _ _ _,RowAt.nil _ _ _ _,RowAt.nil _ _ _ _,RowAt.nil _ _ _ _,(fun _ h=>absurd h Ak6)⟩
theorem OpL.own.opBlk {x:OpL} {w w':World} {base g:Nat} {cs:Array Value} (h:x.own w base) (hb:Blk w g 44 cs) (hf:Fr (One g) w w'):x.own w' base:=
 h.keep hf ((Types.one hb).mono (fun _ e=> .inl e))
theorem Lz {w:World} {g i:Nat} (u:Value):Fr (One g) w (w.setCell ⟨g,i,none⟩ u):=(Fr.refl (One g) w).setCell (p:=⟨g,i,none⟩) (fun _=>rfl) u
theorem Dd {w:World} {g:Nat} (cs:Array Value):Fr (One g) w (w.setRow g cs):=(Fr.refl (One g) w).setRow (fun _=>rfl) cs
def Ma (o:Op) (base:Nat) (w:World) (e:Ending) (w':World):Prop:=∃y:OpL,e=.returned (.agg y.cells)∧y.op=sgn o∧y.own w' base∧Fr Non w w'
theorem Sc (x:OpL) (d base:Nat) (w:World) (hd:x.by_=(d:Int)) (hd':d≤1000) (ho:x.own w base) (hok:x.op.ok):
  Calls Tryz.prog 15 #[.agg x.cells] w (Ma x.op base w):=by
 have h:=Kd x d w (by rw [hd,IntKind.wrap_u64];omega) (by omega) ho.at hok;refine Calls.mono h ?_;rintro r w' ⟨h1,h2⟩;exact ⟨_,h1,Lb x x.op rfl d (by show x.by_.toNat=d;omega) _ rfl,Lc (ho.non h2) _ _,h2⟩
theorem Ai5 {cards:List Cd} (hc:cards=Bc 0 [1,2,3,1]) {d:Int} (hd:1≤d∧d≤4):∃c,Bi cards d=some c∧c.s=Sg.pub (sec Ba d.toNat):=by
 subst hc;have h4:d=1∨d=2∨d=3∨d=4:=by omega
 rcases h4 with rfl|rfl|rfl|rfl
 · exact ⟨Bb 0 1,rfl,rfl⟩
 · exact ⟨Bb 1 2,rfl,rfl⟩
 · exact ⟨Bb 2 3,rfl,rfl⟩
 · exact ⟨Bb 3 1,rfl,rfl⟩
theorem Ai6 {cards:List Cd} (hc:cards=Bc 0 [1,2,3,1]) {d a v:Int} (hd:1≤d∧d≤4) (ha:0≤a∧a≤4) (hv:0≤v∧v≤4):Ai cards [] (sgn (I8 d a v))=0:=by
 obtain ⟨c,h1,h2⟩:=Ai5 hc hd;exact Ag8 ⟨by omega,by omega⟩ ⟨by omega,by omega⟩ ⟨by omega,by omega⟩ h1 h2
def Mb (cards:List Cd) (l:List Pn) (w:World) (e:Ending) (w':World):Prop:=
 ∃y:OpL,e=.returned (.agg y.cells)∧y.op.ok∧y.own w' w.heap.size∧Fr Non w w'∧(l=[]→Ai cards [] y.op=0)
end Oq
end
section
open Go.RowKit
attribute [local go_sem ↓] Go.wp_at_zero Go.wp_at_succ
namespace Oq
attribute [local go_sem] Bool.not_false Bool.not_true
attribute [local go_sem ↓] E6 Ch Eg
theorem Ai7 {f:Operand→Value} {d:Option Tmp} {pos:String} {after:Array Edge} {D a v:Int} {A:Option Addr} {w:World} (h0:f (.tmp 45)=.int .i64 D) (h1:f (.tmp 49)=.int .i64 a) (h2:f (.tmp 53)=.int .i64 v) (h3:f (.tmp 55)=.slice A 1 1) (h4:∀v,f (.const v)=v):
  Sem.run Tryz.prog (execOp f ⟨d,.build 44 #[(0,.tmp 45),(2,.const (.int .i64 1)),(1,.const (.int .i64 1)),(3,.tmp 49),(16,.tmp 53),(9,.tmp 55)],44,pos,after,none⟩) w=Result.ok (Next.value (.agg (fsL D a v A).cells)) w:=by
 go_simp;rfl
theorem Ai8 (base B n c:Nat) (r:RG) (A:Option Addr) (l0:List Int) (w:World) (h:r.own w base) (hcs:r.cards=Bc 0 [1,2,3,1]) (hn:Hid (l0.length=n)) (hr:Rd w B 1 A n (l0.map Iv)) (hok:∀x∈l0,I64 x):
  Calls Tryz.prog 31 #[.agg r.cells,.slice A n c] w (Mb r.cards r.l w):=by
 have a2:=h.few;have cj:r.cards.length=4:=by rw [hcs];rfl
 have hi:(Tryz.prog.info? 44).map (·.size)=some 27:=by kernel_rfl
 have bg:=(Blk.new w 32 r.cells).alloc (.cells zO 44);have br:=Blk.new (w.alloc (.cells r.cells 32)) 44 zO;rw [Ak8] at br;have f0:Fr Non w ((w.alloc (.cells r.cells 32)).alloc (.cells zO 44)):=((Fr.refl Non w).alloc _).alloc _
 have bp:w.heap.size+2≤((w.alloc (.cells r.cells 32)).alloc (.cells zO 44)).heap.size:=by
  rw [Ak8,Ak8];exact Al0 _
 have hl:=Az (P:=Tryz.prog) w.heap.size 32 Tryz.underlying32 rfl (cs:=r.cells) Dl;have kA:=Lib.hid (fun (w':World) (hf:Fr Non w w')=>Re base r w' (h.non hf));have kH:=Lib.hid (fun (B' n' c':Nat) (A':Option Addr) (ids:List Id) (w':World) (hf:Fr Non w w') hn hr hnm=>Ad1 base r B' n' c' A' ids w' (h.non hf) hn hr hnm);have kC:=Lib.hid (fun (B' n' c':Nat) (A':Option Addr) (l1:List Int) (w':World) (hf:Fr Non w w') hn hr hnm=>Ae0 base r B' n' c' A' l1 w' (h.non hf) hn hr hnm);have kS:=Lib.hid (fun (B' n' c':Nat) (A':Option Addr) (ids:List Id) (d:Int) (w':World) hn hr hnm hs=>Ac6 r.cells B' n' c' A' ids d w' hn hr hnm hs);have kL:=Lib.hid (fun (B' n' c':Nat) (A':Option Addr) (ids:List Id) (w':World) (hf:Fr Non w w') hn hr hnm=>Ac7 base r B' n' c' A' ids w' (h.non hf) hn hr hnm);have kO:=Lib.hid (fun (b:Int) (m:Nat) (w':World) hb hn=>Ag5 b m w' hb hn);have bo:=Lib.hid (fun (x:Int) (hx:x∈l0) (w':World)=>Mr x 1000000 w' (hok x hx).1 (hok x hx).2 (by decide) (by decide))
 have a6:Hid (∀ids:List Id,(∀id∈ids,(plc r.l id).isSome=true)→ids.length≤200→(E7 r.l ids).length≤1000∧(∀x∈E7 r.l ids,x.ok)∧(∀x∈ids,x.s≤2147483647)∧(∀d k,0≤Ce ids d k∧Ce ids d k≤2147483647)∧0≤late r.l ids∧late r.l ids≤2147483647):=by
  intro ids h1 h2;have hs:∀x∈ids,x.s≤2147483647:=fun x hx=>(Ry h.rows h.ok (h1 x hx)).2.2;have hb:=Ag9 h.rows ids;refine ⟨?_,fun x hx=>(Ry h.rows h.ok (h1 x (Ah0 hx).1)).1,hs,fun d k=>Rg (by omega) hs k,hb⟩;have:=Ah1 r.l ids;omega
 have aa:Hid ((∀id∈Ao r.ids,(plc r.l id).isSome=true)∧(Ao r.ids).length=r.l.length):=by
  have dh:=Ro h.rows;exact ⟨dh.2,by rw [Gb];show (r.l.map Pn.id).length=_;rw [Al3]⟩
 have al:Hid (∀cs,Ed r.l cs→(∀id∈cs,(plc r.l id).isSome=true)∧cs.length≤200):=fun cs hc=>⟨hc.2,Ak9 (Ah2 h.rows hc) a2⟩;have ak:=Lib.hid (fun (d a v:Int) (hd:1≤d∧d≤4) (ha:0≤a∧a≤4) (hv:0≤v∧v≤4)=>Ai6 hcs hd ha hv)
 have af:Hid (∀(y:OpL) (wy wz:World),y.op.ok→y.own wy (w.heap.size+2)→Fr Non w wy→Blk wy (w.heap.size+1) 44 zO→Fr (One (w.heap.size+1)) wy wz→(r.l=[]→Ai r.cards [] y.op=0)→Mb r.cards r.l w (.returned (.agg y.cells)) wz):=by
  intro y wy wz h1 h2 h3 h4 h5 h6;refine ⟨y,rfl,h1,(h2.opBlk h4 h5).lower (by omega),h3.trans h5 (fun k hk e=>absurd hk (by have e2:k=w.heap.size+1:=e;omega)),h6⟩
 have g0:Hid (r.cells[0]? =some (.slice r.cA r.cards.length r.cC)):=rfl;have g1:Hid (r.cells[1]? =some (.slice r.lA r.l.length r.lC)):=rfl;rw [cj] at g0;have ax:Hid (r.l.length=0→r.l=[]):=fun e=>List.length_eq_zero_iff.1 e;have ad:Hid (r.l=[]→r.l.length=0):=fun e=>by show _=_;rw [e];rfl
 clear h hcs cj;generalize Mb r.cards r.l w=POST at*;unfold Ep at kA;generalize Ao r.ids=SI at*;generalize r.lA=LA at*;generalize r.lC=LC at*;generalize r.cA=CA at*;generalize r.cC=CC at*;generalize r.cells=CS at*;generalize r.cards=CD at*;generalize r.l=l at*;obtain ⟨N,hN⟩:=Aa l.length;rw [hN.out] at kA g1 a2 aa ax ad;clear hN;go_enter Tryz.func31,Tryz.ntmps31;go_upto_region 1 with (fail)
 generalize (w.alloc (.cells CS 32)).alloc (.cells zO 44)=w0 at*;go_wp2_with (fail)
 go_loopw [5,6] (fun s v wr=>∃(j:Nat) (Ax:Option Addr) (cx:Nat) (ks:List Nat),v=.int .i64 (j:Int)∧s=.slice Ax j cx∧j≤4∧Hid (ks.length=j)∧Hid (∀x∈ks,x<1000000)∧Own wr w0.heap.size 3 1 Ax j cx (ks.map Qv)∧Fr Non w0 wr) (fun _ v _=>4-(intOf v).toNat)
 case atStart=>exact ⟨0,none,0,[],rfl,rfl,by omega,rfl,fun x hx=>absurd hx Ak6,Own.nil _ _ _ _,Fr.refl _ _⟩
 case round=>
 obtain ⟨j,Ax,cx,ks,rfl,rfl,hj,bx,a7,ai,hf⟩:=hrel;have a5:Fr Non w wr:=f0.trans hf zr
 by_cases hlt:j<4
 ·
  have i1:decide ((j:Int)<4)=true:=decide_eq_true (by omega);have dp:=Ak9 bp hf.size;have bs:=ai.row;clear af kA kH kC kS kL kO a6 aa al ak ax ad g0 g1 bg br
  as_aux_lemma=>
  go_upto_if 17 with (fail)
  go_cut [7] from 17 to 22 (fun s wc=>∃q:Nat,s=.int .i64 (q:Int)∧q<1000000∧Own wc w0.heap.size 3 1 Ax j cx (ks.map Qv)∧Fr Non w0 wc)
  case first=>
   by_cases hjn:j<n
   ·
    obtain ⟨b,ah,u,rfl,dr,hu,c0⟩:=hr.at hjn;obtain ⟨x,hx⟩:∃x,l0[j]? =some x:=⟨_,Am0 (by rw [hn.out];exact hjn)⟩;rw [List.getElem?_map,hx] at hu;injection hu with hu
    subst hu;replace c0:w.cell? ⟨b,ah+j,none⟩=some (.int .i64 x):=c0;have c1:=a5.cell c0 zq;have kx:=Lib.hid (bo.out x (Al2 hx));obtain ⟨cv,cp⟩:=Mq (n:=x) (m:=1000000) (by decide);obtain ⟨p,hp⟩:∃p:Nat,Df x 1000000=(p:Int):=⟨(Df x 1000000).toNat,by omega⟩;rw [hp] at kx cp;have j1:(0:Int)≤j:=by omega
    have j2:(j:Int)<n:=by omega
    have j3:(j:Int).toNat=j:=by omega
    have t:decide ((j:Int)<(n:Int))=true:=decide_eq_true (by omega);have db:Hid (p<1000000):=by show p<1000000;omega
    clear bo hx hok hp cv cp;go_wp2_with (go_at_call 25;(with_reducible refine (kx.out _).mono ?_);rintro _ v ⟨rfl,ew⟩;have fq:Fr Non wr v:=ew▸Fr.refl _ _;clear ew);go_meet;exact ⟨p,rfl,db.out,ai.fr fq zr,hf.trans fq zr⟩
   ·
    have t:decide ((j:Int)<(n:Int))=false:=decide_eq_false (by omega);go_wp2_with (fail);go_meet;exact ⟨0,rfl,by omega,ai,hf⟩
  case rest=>
   obtain ⟨q,rfl,hq,b4,fc⟩:=hcut;have bm:=Ak9 bp fc.size;have ar:=Blk.new wc 3 #[.int .i64 (q:Int)];have au:=b4.alloc (.cells #[.int .i64 (q:Int)] 3);go_wp2_with (at_builtin;go_loud (refine Ay (base:=w0.heap.size) (.tmp 23) (.tmp 25) 22 rfl rfl rfl rfl Jr au (Rd.blk (n:=1) (size:=1) ar rfl) (by simp [Value.oneCell']) (by omega) (by omega) (by rw [Ak8];have h8:=fc.size;omega) ?_);intro A2 c2 w4 b2 cu cy);have fz:Fr Non w0 w4:=(fc.alloc _).trans cu (fun k hk e=>by have h9:=(bs k e).1;have h8:=hf.size;omega)
   have ap:Own w4 w0.heap.size 3 1 A2 (j+1) c2 ((ks++[q]).map Qv):=by
    rw [Am2];exact b2
   go_roundw
   case rel=>exact ⟨j+1,A2,c2,ks++[q],by go_num,rfl,by omega,(by show _=_;rw [Am1,bx.out];rfl),(fun x hx=>by rcases List.mem_append.1 hx with h1|h1;exact a7.out x h1;obtain rfl:=List.mem_singleton.1 h1;exact hq),ap,fz⟩
   case measure=>simp [intOf];omega
 ·
  obtain rfl:j=4:=by omega
  have i1:decide ((4:Int)<4)=false:=rfl
  obtain ⟨k0,k1,k2,k3,rfl⟩:∃a b c d,ks=[a,b,c,d]:=by
   match ks,bx.out with
   |[a,b,c,d],_=>exact ⟨a,b,c,d,rfl⟩
  have q0:k0<1000000:=a7.out k0 (by simp);have q1:k1<1000000:=a7.out k1 (by simp);have q2:k2<1000000:=a7.out k2 (by simp);have q3:k3<1000000:=a7.out k3 (by simp);obtain ⟨_,h4|⟨b,ah,rfl,di,hc⟩⟩:=ai.rd
  · exact absurd h4 (by decide)
  have L0:wr.cell? ⟨b,ah,none⟩=some (.int .i64 (k0:Int)):=hc 0 _ rfl;have L1:wr.cell? ⟨b,ah+1,none⟩=some (.int .i64 (k1:Int)):=hc 1 _ rfl;have L2:wr.cell? ⟨b,ah+2,none⟩=some (.int .i64 (k2:Int)):=hc 2 _ rfl;have L3:wr.cell? ⟨b,ah+3,none⟩=some (.int .i64 (k3:Int)):=hc 3 _ rfl;replace bg:=bg.fr hf zq;replace br:=br.fr hf zq;have e0:((k0:Nat):Int).tmod 4=(k0:Int)%4:=Al6 (by omega);have e1:((k1:Nat):Int).tmod 3=(k1:Int)%3:=Al6 (by omega);have e2:((k2:Nat):Int).tmod 5=(k2:Int)%5:=Al6 (by omega);have e3:((k3:Nat):Int).tmod 5=(k3:Int)%5:=Al6 (by omega);have e4:((k2:Nat):Int).tmod 3=(k2:Int)%3:=Al6 (by omega);have e5:((k1:Nat):Int).tdiv 3=(k1:Int)/3:=Am7 (by omega);have e6:((k1:Nat):Int).tdiv 100=(k1:Int)/100:=Am7 (by omega);have e7:IntKind.i64.wrap (1+(k0:Int)%4)=1+(k0:Int)%4:=IntWalk.i64_in _ (by omega);have e8:IntKind.i64.wrap ((k1:Int)/3)=(k1:Int)/3:=IntWalk.i64_in _ (by omega);have e9:IntKind.i64.wrap ((k1:Int)/100)=(k1:Int)/100:=IntWalk.i64_in _ (by omega);have bl:=Ak9 bp hf.size;have d0:=(bg.cell 0).trans g0.out;have d1:=(bg.cell 1).trans g1.out;clear hc a7 bx ai hf f0 bo hr hn hok hlt hj g0 g1 di;generalize wr=w1 at*;go_upto_region 9 with (fail)
  go_cut [8] from 27 to 39 (fun s wc=>∃(y0:OpL) (gO:Nat),s=.pointer (some ⟨gO,0,none⟩)∧Blk wc gO 44 y0.cells∧y0.by_=1+(k0:Int)%4∧y0.op.ok∧y0.own wc (w.heap.size+2)∧w1.heap.size≤gO∧Fr Non w1 wc)
  case first=>
   clear af kA kH kC kS kL a6 aa al ak ax ad
   as_aux_lemma=>
   have G0:=d0;have F0:Fr Non w1 w1.drew:=(Fr.refl Non w1).drew;have kq:=Lib.hid (fun (w':World)=>kO.out (1+(k0:Int)%4) k3 w' ⟨by omega,by omega⟩ (by omega));have M0:=L0;have K0:=L3;refine C3 (S:=fun w'=>w'.cell? ⟨w.heap.size,0,none⟩=some (.slice CA 4 CC)∧w'.cell? ⟨b,ah,none⟩=some (.int .i64 (k0:Int))∧w'.cell? ⟨b,ah+3,none⟩=some (.int .i64 (k3:Int))) 14 (by kernel_rfl) ?_;refine tkG 0 ⟨G0,M0,K0⟩ (h:=tkG 1 ⟨G0,M0,K0⟩ (h:=tkG 2 ⟨G0,M0,K0⟩ (h:=tkG 3 ⟨G0,M0,K0⟩ (h:=tkG 4 ⟨G0,M0,K0⟩ (h:=tkG 5 ⟨G0,M0,K0⟩ (h:=tkG 6 ⟨G0,M0,K0⟩ (h:=tkG 7 ⟨G0,M0,K0⟩ (h:=tkG 8 ⟨G0,M0,K0⟩ (h:=tkG 9 ⟨G0,M0,K0⟩ (h:=tkG 10 ⟨G0,M0,K0⟩ (h:=tkG 11 ⟨G0,M0,K0⟩ (h:=?_))))))))))));simp only [List.set];refine Rv 12 13 (by kernel_rfl) rfl rfl (fun K' hK=> ?_) (fun K' hK=> ?_)
   ·
    skip
    go_simp;go_wp2_with (go_at_call 86;(with_reducible refine (kq.out _).mono ?_);rintro _ v1 ⟨y0,rfl,aq,ac,ae,ab⟩;have F1:=F0.trans ab zr;have au:=ae.lower (base':=w.heap.size+2) bl);have G1:=F1.cell G0 zq;have M1:=F1.cell M0 zq;have K1:=F1.cell K0 zq;refine hK.out _ _ ⟨G1,M1,K1⟩ (fun hZ=> ?_);clear hZ hK K';try simp only [Ad,List.set]
    refine Bh 13 (by kernel_rfl) rfl (fun K' hK=> ?_);go_simp;have ar:=Blk.new v1 44 zO;have a3:=au.non ((Fr.refl Non v1).alloc (.cells zO 44));have F2:Fr Non w1 (v1.alloc (.cells zO 44)):=F1.alloc _;have bc:=F1.size;obtain ⟨ga,bk⟩:=Aa v1.heap.size;rw [bk.out] at ar bc ⊢;generalize v1.alloc (.cells zO 44)=v2 at*;have G2:=F2.cell G0 zq;have M2:=F2.cell M0 zq;have K2:=F2.cell K0 zq;refine hK.out _ _ ⟨G2,M2,K2⟩ (fun hZ=> ?_);clear hZ hK K';try simp only [Ad,List.set]
    have a1:=Cb y0;have ba:=Cf (P:=Tryz.prog) ga 44 (cs:=y0.cells) hi (old:=zO) rfl a1;refine Cq (by kernel_rfl) ?_;refine oG 14 (fun K' hK=> ?_);go_simp;have az:=a3.opBlk ar (Dd y0.cells);have b3:=ar.setRow (cs:=y0.cells);have F3:Fr Non w1 (v2.setRow ga y0.cells):=F2.setRow (fun hh=>absurd hh (by omega)) _;refine hK.out _ _ trivial (fun hZ=> ?_);clear hZ hK K';try simp only [Ad,List.set]
    refine oD ?_;go_simp;go_wp2_with (fail);go_meet;exact ⟨y0,ga,rfl,b3,aq,ac,az,bc,F3⟩
   ·
    skip
    go_simp;have be:=(Blk.new w1 44 zO).drew;have F1:Fr Non w1 (w1.alloc (.cells zO 44)).drew:=((Fr.refl Non w1).alloc _).drew;have de:w.heap.size+2≤(w1.alloc (.cells zO 44)).drew.heap.size:=Ak9 bl F1.size;have bc:w1.heap.size≤w1.heap.size:=Al0 _;obtain ⟨ga,bk⟩:∃x,Hid (w1.heap.size=x):=Aa _;rw [bk.out] at be ⊢;have bc:w1.heap.size≤ga:=by rw [bk.out];exact Al0 _
    generalize (w1.alloc (.cells zO 44)).drew=v1 at*;have G1:=F1.cell G0 zq;have M1:=F1.cell M0 zq;have K1:=F1.cell K0 zq;refine hK.out _ _ ⟨G1,M1,K1⟩ (fun hZ=> ?_);clear hZ hK K';try simp only [Ad,List.set]
    refine Bh 12 (by kernel_rfl) rfl (fun K' hK=> ?_);go_simp;go_wp2_with (go_at_call 86;(with_reducible refine (kq.out _).mono ?_);rintro _ v2 ⟨y0,rfl,aq,ac,ae,ab⟩;have F2:=F1.trans ab zr;have a3:=ae.lower (base':=w.heap.size+2) de;have ar:=be.fr ab zq);have G2:=F2.cell G0 zq;have M2:=F2.cell M0 zq;have K2:=F2.cell K0 zq;refine hK.out _ _ ⟨G2,M2,K2⟩ (fun hZ=> ?_);clear hZ hK K';try simp only [Ad,List.set]
    have a1:=Cb y0;have ba:=Cf (P:=Tryz.prog) ga 44 (cs:=y0.cells) hi (old:=zO) rfl a1;refine Cq (by kernel_rfl) ?_;refine oG 14 (fun K' hK=> ?_);go_simp;have az:=a3.opBlk ar (Dd y0.cells);have b3:=ar.setRow (cs:=y0.cells);have F3:Fr Non w1 (v2.setRow ga y0.cells):=F2.setRow (fun hh=>absurd hh (by omega)) _;refine hK.out _ _ trivial (fun hZ=> ?_);clear hZ hK K';try simp only [Ad,List.set]
    refine oD ?_;go_simp;go_wp2_with (fail);go_meet;exact ⟨y0,ga,rfl,b3,aq,ac,az,bc,F3⟩
  case rest=>
  obtain ⟨y0,gO,rfl,bO,aq,ac,ae,bt,f2⟩:=hcut;generalize wc=wb at*;have hD:1≤1+(k0:Int)%4∧1+(k0:Int)%4≤4:=by omega
  obtain ⟨D,cn⟩:∃D:Nat,1+(k0:Int)%4=(D:Int):=⟨(1+(k0:Int)%4).toNat,by omega⟩;rw [cn] at aq hD;have du:1≤D∧D≤4:=by omega
  clear cn hD kO L0 d0 q0;have dj:=f2.cell d1 zq
  by_cases hz:N=0
  ·
   have t:((N:Int)==0)=true:=by simp [hz]
   clear kA kH kC kS kL a6 aa al L1;have dv:=ax.out hz
   as_aux_lemma=>
   go_upto_region 11 with (fail)
   have F0:Fr Non w1 wb.drew:=f2.drew;have Y0:wb.cell? ⟨gO,0,none⟩=some (.int .i64 (D:Int)):=by rw [bO.cell 0];show some (Value.int .i64 y0.by_)=_;rw [aq]
   have M0:=f2.cell L2 zq;have K0:=f2.cell L3 zq;refine C3 (S:=fun w'=>w'.cell? ⟨gO,0,none⟩=some (.int .i64 (D:Int))∧w'.cell? ⟨b,ah+2,none⟩=some (.int .i64 (k2:Int))∧w'.cell? ⟨b,ah+3,none⟩=some (.int .i64 (k3:Int))) 13 (by kernel_rfl) ?_;refine tkG 0 ⟨Y0,M0,K0⟩ (h:=tkG 1 ⟨Y0,M0,K0⟩ (h:=tkG 2 ⟨Y0,M0,K0⟩ (h:=tkG 3 ⟨Y0,M0,K0⟩ (h:=tkG 4 ⟨Y0,M0,K0⟩ (h:=tkG 5 ⟨Y0,M0,K0⟩ (h:=tkG 6 ⟨Y0,M0,K0⟩ (h:=tkG 7 ⟨Y0,M0,K0⟩ (h:=tkG 8 ⟨Y0,M0,K0⟩ (h:=tkG 9 ⟨Y0,M0,K0⟩ (h:=tkG 10 ⟨Y0,M0,K0⟩ (h:=?_)))))))))));simp only [List.set];refine Bh 11 (by kernel_rfl) rfl (fun K' hK=> ?_);go_simp;have nP:=(Blk.new wb 103 #[.int .u64 5,.slice none 0 0]).drew;have ab:Fr Non wb (wb.alloc (.cells #[.int .u64 5,.slice none 0 0] 103)).drew:=((Fr.refl Non wb).alloc _).drew;have cf:=Ak9 bl f2.size;obtain ⟨gp,b6⟩:=Aa wb.heap.size;rw [b6.out] at nP cf ⊢;generalize (wb.alloc (.cells #[.int .u64 5,.slice none 0 0] 103)).drew=v1 at*;have Y1:=ab.cell Y0 zq;have M1:=ab.cell M0 zq;have K1:=ab.cell K0 zq;refine hK.out _ _ ⟨Y1,M1,K1⟩ (fun hZ=> ?_);clear hZ hK K';try simp only [Ad,List.set]
   refine Et (i:=12) (v:=?_) rfl (by kernel_rfl) (by kernel_rfl) (by kernel_rfl) (by kernel_rfl) (fun _ _ _ h=>h) (Or.inl ⟨by kernel_rfl,?_⟩) ⟨Y1,M1,K1⟩ ?_;rotate_left
   focus (intro w' ds;refine Ai7 (D:=(D:Int)) (a:=(k2:Int)%5) (v:=(k3:Int)%5) (A:=some ⟨gp,0,none⟩) ?_ ?_ ?_ ?_ ?_;rfl;rfl;rfl;rfl;exact fun _=>rfl)
   simp only [List.set];have bv:=bO.fr ab zq;have ba:=Cf (P:=Tryz.prog) gO 44 (cs:=(fsL (D:Int) ((k2:Int)%5) ((k3:Int)%5) (some ⟨gp,0,none⟩)).cells) hi (old:=y0.cells) rfl (Cb _);refine Cq (by kernel_rfl) ?_;refine oG 13 (fun K' hK=> ?_);go_simp;have c5:=bv.setRow (cs:=(fsL (D:Int) ((k2:Int)%5) ((k3:Int)%5) (some ⟨gp,0,none⟩)).cells)
   have oP:Own v1 (w.heap.size+2) 103 2 (some ⟨gp,0,none⟩) 1 1 (([⟨5,none,0,[]⟩]:List NdL).flatMap NdL.cells):=by
    have h5:=Own.blk (base:=w.heap.size+2) (n:=1) (size:=2) nP cf (by omega) rfl (by omega);simpa [NdL.cells] using h5
   have bb:(fsL (D:Int) ((k2:Int)%5) ((k3:Int)%5) (some ⟨gp,0,none⟩)).own (v1.setRow gO (fsL (D:Int) ((k2:Int)%5) ((k3:Int)%5) (some ⟨gp,0,none⟩)).cells) (w.heap.size+2):=(Ai4 (RowAt.of_own oP)).opBlk bv (Dd _);have fv:Fr Non w1 (v1.setRow gO (fsL (D:Int) ((k2:Int)%5) ((k3:Int)%5) (some ⟨gp,0,none⟩)).cells):=(f2.trans ab zr).setRow (fun hh=>absurd hh (by omega)) _;have ag:(fsL (D:Int) ((k2:Int)%5) ((k3:Int)%5) (some ⟨gp,0,none⟩)).op.ok:=Ai3 ⟨by omega,by omega⟩ ⟨by omega,by omega⟩ ⟨by omega,by omega⟩;have da:Ai CD [] (sgn (fsL (D:Int) ((k2:Int)%5) ((k3:Int)%5) (some ⟨gp,0,none⟩)).op)=0:=ak.out (D:Int) ((k2:Int)%5) ((k3:Int)%5) (by omega) (by omega) (by omega);have aj:(fsL (D:Int) ((k2:Int)%5) ((k3:Int)%5) (some ⟨gp,0,none⟩)).by_=(D:Int):=rfl;generalize fsL (D:Int) ((k2:Int)%5) ((k3:Int)%5) (some ⟨gp,0,none⟩)=X at*;refine hK.out _ _ trivial (fun hZ=> ?_);clear hZ hK K';try simp only [Ad,List.set]
   refine oD ?_;go_simp;generalize v1.setRow gO X.cells=v2 at*;clear bv nP oP Y0 Y1 M0 M1 K0 K1 ba ab;have dd:=Az (P:=Tryz.prog) gO 44 Tryz.underlying44 rfl (cs:=X.cells) hi;have fw:Fr Non w v2:=a5.trans fv zr;have b0:=br.fr fv zq;have a0:=Lib.hid (Sc X D (w.heap.size+2) v2 aj (by omega) bb ag)
   have ao:Hid (∀y:OpL,y.op=sgn X.op→y.op.ok∧(l=[]→Ai CD [] y.op=0)):=fun y e=>by
    rw [e];exact ⟨Fy ag,fun _=>da⟩
   have dk:(Tryz.prog.info? 44).map (·.size)=some X.cells.size:=hi;clear ak ax ad bb ag aj;unfold Ma at a0;generalize sgn X.op=SO at*;generalize X.cells=XC at*;go_wp2_with (go_at_call 15;(with_reducible refine (a0.out).mono ?_);rintro _ w5 ⟨y,rfl,bh,bd,f5⟩;go_loud (have a8:=b0.fr f5 zq;have ay:=Lib.hid (ao.out y bh);have hd:=Lib.hid (fun wz hz=>af.out y w5 wz ay.out.1 bd (fw.trans f5 zr) a8 hz ay.out.2);have ba:=Cf (P:=Tryz.prog) (w.heap.size+1) 44 (cs:=y.cells) hi (old:=zO) rfl (Cb y);have bz:(Tryz.prog.info? 44).map (·.size)=some y.cells.size:=hi;clear af ay bh bd ao a0;generalize y.cells=YC at*));have b7:=a8.setRow (cs:=YC);have b5:=Lib.hid (hd.out _ (Dd YC))
   (try simp only [Exit.inBlock,Exit.then])
   refine Dm (t:=44) rfl rfl b7 rfl Tryz.underlying44 bz rfl ?_;exact b5.out
  ·
   have t:((N:Int)==0)=false:=by simp [hz]
   clear L3 q3 ak;have cq:=bg.fr f2 zq;have cd:=f2.cell L1 zq;have bm:=Ak9 bl f2.size;have co:Fr Non w wb:=a5.trans f2 zr;rw [← aa.out.2] at kA;go_upto_region 14 with (go_at_call 22;(with_reducible refine (kA.out _ co).mono ?_);rintro _ v0 ⟨A9,c9,rfl,o9,f9⟩)
   have ci:=f9.cell cd zq;have B0:=cq.fr f9 zq;have cb:Fr Non w v0:=co.trans f9 zr;have b9:=Ak9 bm f9.size;replace o9:=o9.lower bm
   go_upto_if 65 with (fail)
   go_cut [9] from 65 to 76 (fun s wd=>∃(ids:List Id) (A9:Option Addr) (c9:Nat),s=.slice A9 ids.length c9∧Own wd (w.heap.size+2) 38 3 A9 ids.length c9 (ids.flatMap Id.cells)∧Hid (∀id∈ids,(plc l id).isSome=true)∧Hid (ids.length≤200)∧Fr Non wb wd)
   case first=>
    clear af kH kS kL a6 ax ad ac ae bO
    as_aux_lemma=>
    by_cases ht:k1%3=1
    ·
     have t2:((k1:Int)%3==1)=true:=by simp;omega
     go_upto_region 15 with (fail)
     have Q0:=ci;refine wp_region_held_drew (S:=fun w'=>Blk w' w.heap.size 32 CS∧w'.cell? ⟨b,ah+1,none⟩=some (.int .i64 (k1:Int))) (by kernel_rfl) ⟨B0,Q0⟩ (fun hHeld=> ?_);clear hHeld;refine tkH 0 ⟨B0,Q0⟩ (h:=tkH 1 ⟨B0,Q0⟩ (h:=tkH 2 ⟨B0,Q0⟩ (h:=tkH 3 ⟨B0,Q0⟩ (h:=tkH 4 ⟨B0,Q0⟩ (h:=tkH 5 ⟨B0,Q0⟩ (h:=tkH 6 ⟨B0,Q0⟩ (h:=tkH 7 ⟨B0,Q0⟩ (h:=tkH 8 ⟨B0,Q0⟩ (h:=?_)))))))));simp only [List.set];refine oG 9 (fun K' hK=> ?_);go_simp;have nP:=(Blk.new v0 3 #[.int .i64 ((k1:Int)/3),.int .i64 ((k1:Int)/100)]).drew;have ab:Fr Non v0 (v0.alloc (.cells #[.int .i64 ((k1:Int)/3),.int .i64 ((k1:Int)/100)] 3)).drew:=((Fr.refl Non v0).alloc _).drew;obtain ⟨gp,b6⟩:=Aa v0.heap.size;rw [b6.out] at nP ⊢;generalize (v0.alloc (.cells #[.int .i64 ((k1:Int)/3),.int .i64 ((k1:Int)/100)] 3)).drew=v1 at*;have B1:=B0.fr ab zq;have Q1:=ab.cell Q0 zq;refine hK.out _ _ ⟨B1,Q1⟩ (fun hZ=> ?_);clear hZ hK K';try simp only [Ad,List.set]
     have b8:=Lib.hid (kC.out _ 2 2 (some ⟨gp,0,none⟩) [(k1:Int)/3,(k1:Int)/100] v1 (cb.trans ab zr) rfl (Rd.blk (n:=2) (size:=1) nP rfl) (fun x hx=>by
      rcases List.mem_cons.1 hx with rfl|hx
      · exact ⟨by omega,by omega⟩
      ·
       obtain rfl:=List.mem_singleton.1 hx;exact ⟨by omega,by omega⟩))
     unfold I3 at b8;refine oG 10 (fun K' hK=> ?_);go_simp;go_wp2_with (go_at_call 44;(with_reducible refine (b8.out).mono ?_);rintro _ v2 ⟨cs,⟨A8,c8,rfl,o8,bu⟩,c7,dn⟩;have B2:=B1.fr bu zq;have Q2:=bu.cell Q1 zq);refine hK.out _ _ ⟨B2,Q2⟩ (fun hZ=> ?_);clear hZ hK K';try simp only [Ad,List.set]
     refine tkH 11 ⟨B2,Q2⟩ (h:=?_);simp only [List.set];refine oD ?_;go_simp;have ce:=al.out cs c7;go_wp2_with (fail);go_meet;exact ⟨cs,A8,c8,rfl,o8.lower (Ak9 b9 ab.size),ce.1,ce.2,(f9.trans ab zr).trans bu zr⟩
    ·
     have t2:((k1:Int)%3==1)=false:=by simp;omega
     go_wp2_with (fail);go_meet;exact ⟨SI,A9,c9,rfl,o9,aa.out.1,by show _≤_;rw [aa.out.2];exact a2,f9⟩
   case rest=>
   clear o9 ci B0 cb b9 f9;obtain ⟨ids,A8,c8,rfl,o9,cl,cr,f3⟩:=hcut;generalize wc=wd at*;obtain ⟨p1,p2,p3,p4,p5⟩:=a6.out ids cl.out cr.out;have cz:=cr.out;have dt:=p4 (D:Int) ids.length;have bj:Fr Non w1 wd:=f2.trans f3 zr;have ch:=bO.fr f3 zq;have bi:=ae.non f3;have kh:=Lib.hid (kH.out _ ids.length c8 A8 ids wd (a5.trans bj zr) rfl o9.rd (by omega));have ks:=Lib.hid (fun (w':World) (ho:Own w' (w.heap.size+2) 38 3 A8 ids.length c8 (ids.flatMap Id.cells))=>kS.out _ ids.length c8 A8 ids (D:Int) w' rfl ho.rd (by omega) p3);have kl:=Lib.hid (fun (w':World) (hf:Fr Non w w') (ho:Own w' (w.heap.size+2) 38 3 A8 ids.length c8 (ids.flatMap Id.cells))=>kL.out _ ids.length c8 A8 ids w' hf rfl ho.rd (by omega));have cm:=Lib.hid (And.intro p1 p2);clear kA kH kC kS kL a6 aa al L1 cd q1 p4 cl ae bO cq d1 dj p1 p2 p3;unfold Cw at kh;generalize E7 l ids=HL at*;generalize Ce ids (D:Int) ids.length=SQ at*;generalize late l ids=LT at*;have dm:=bg.fr bj zq;have YC:y0.cells.size=27:=rfl;have dg:Hid (y0.cells[0]? =some (.int .i64 (D:Int))):=by show some (Value.int .i64 y0.by_)=_;rw [aq]
   have cw:Hid (y0.cells[1]? =some (.int .i64 y0.sq)):=rfl;have c6:Hid (y0.cells[3]? =some (.int .i64 y0.at_)):=rfl;have df:Hid (y0.cells[4]? =some (.slice y0.pastA y0.past.length y0.pastC)):=rfl;have dl:=Ak9 bm f3.size;generalize wd=w3 at*;go_upto_region 17 with (go_at_call 46;(with_reducible refine (kh.out).mono ?_);rintro _ v3 ⟨A4,c4,rfl,o4,f4⟩;have aw:=ch.fr f4 zq;have m4:=(aw.cell 4).trans df.out;have z4:=aw.frozen 4)
   have bw:Fr Non w1 (v3.setCell ⟨gO,4,none⟩ (.slice A4 HL.length c4)):=(bj.trans f4 zr).setNew bt 4 _;have bq:=aw.set 4 (.slice A4 HL.length c4);have b1:=Own.setFar (i:=4) (o9.fr f4 zr) aw (by decide) (.slice A4 HL.length c4);have cc:=Own.setFar (i:=4) (o4.lower dl) aw (by decide) (.slice A4 HL.length c4);have ap:=(bi.non f4).opBlk aw (Lz (i:=4) (.slice A4 HL.length c4));generalize v3.setCell ⟨gO,4,none⟩ (.slice A4 HL.length c4)=w4 at*;clear kh m4 z4 aw ch f4 o4 o9 bi bj dm;have c3:=bg.fr bw zq;have Y4:w4.cell? ⟨gO,0,none⟩=some (.int .i64 (D:Int)):=(bq.cell 0).trans dg.out;go_upto_region 18 with (go_at_call 51;(with_reducible refine (ks.out _ b1).mono ?_);rintro _ v4 ⟨rfl,f5⟩;have av:=bq.fr f5 zq;have m5:v4.cell? ⟨gO,1,none⟩=some (.int .i64 y0.sq):=(av.cell 1).trans cw.out;have z5:=av.frozen 1)
   have bn:Fr Non w1 (v4.setCell ⟨gO,1,none⟩ (.int .i64 (SQ+1))):=(bw.trans f5 zr).setNew bt 1 _;have ca:=av.set 1 (.int .i64 (SQ+1));have ct:=Own.setFar (i:=1) (b1.fr f5 zr) av (by decide) (.int .i64 (SQ+1));have cg:=Own.setFar (i:=1) (cc.fr f5 zr) av (by decide) (.int .i64 (SQ+1));have bf:=(ap.non f5).opBlk av (Lz (i:=1) (.int .i64 (SQ+1)));generalize v4.setCell ⟨gO,1,none⟩ (.int .i64 (SQ+1))=w5 at*;clear ks m5 z5 av bq f5 b1 cc ap bw Y4 c3;have B0:=(bg.fr bn zq).drew;have M0:w5.drew.cell? ⟨b,ah+2,none⟩=some (.int .i64 (k2:Int)):=bn.cell L2 zq;have F0:Fr Non w1 w5.drew:=bn.drew;have dq:IntKind.i64.wrap (LT+(k2:Int)%3)=LT+(k2:Int)%3:=IntWalk.i64_in _ (by omega);refine C3 (S:=fun w'=>Blk w' w.heap.size 32 CS∧w'.cell? ⟨b,ah+2,none⟩=some (.int .i64 (k2:Int))) 9 (by kernel_rfl) ?_;refine tkG 0 ⟨B0,M0⟩ (h:=tkG 1 ⟨B0,M0⟩ (h:=tkG 3 ⟨B0,M0⟩ (h:=tkG 4 ⟨B0,M0⟩ (h:=tkG 5 ⟨B0,M0⟩ (h:=tkG 6 ⟨B0,M0⟩ (h:=?_))))));simp only [List.set];refine Bh 2 (by kernel_rfl) rfl (fun K' hK=> ?_);go_simp;go_wp2_with (go_at_call 52;(with_reducible refine (kl.out _ (a5.trans F0 zr) ct.drew).mono ?_);rintro _ v1 ⟨rfl,ab⟩;go_loud (have B1:=B0.fr ab zq;have M1:=ab.cell M0 zq));refine hK.out _ _ ⟨B1,M1⟩ (fun hZ=> ?_);clear hZ hK K';try simp only [Ad,List.set]
   refine tkG 7 ⟨B1,M1⟩ (h:=tkG 8 ⟨B1,M1⟩ (h:=?_));simp only [List.set];have fq:Fr Non w5 v1:=((Fr.refl Non w5).drew).trans ab zr;have a4:=ca.fr fq zq;have m8:v1.cell? ⟨gO,3,none⟩=some (.int .i64 y0.at_):=(a4.cell 3).trans c6.out;have z8:=a4.frozen 3;refine Cq (by kernel_rfl) ?_;refine oG 9 (fun K' hK=> ?_);go_simp;have AT:(Value.int .i64 (LT+(k2:Int)%3))=.int .i64 (LT+(k2:Int)%3):=rfl;have fv:Fr Non w1 (v1.setCell ⟨gO,3,none⟩ (.int .i64 (LT+(k2:Int)%3))):=(F0.trans ab zr).setNew bt 3 _;have c5:Blk (v1.setCell ⟨gO,3,none⟩ (.int .i64 (LT+(k2:Int)%3))) gO 44 (nxL y0 A4 c4 HL (SQ+1) (LT+(k2:Int)%3)).cells:=a4.set 3 (.int .i64 (LT+(k2:Int)%3));have ck:=Own.setFar (i:=3) (cg.fr fq zr) a4 (by decide) (.int .i64 (LT+(k2:Int)%3));have a9:=(bf.non fq).opBlk a4 (Lz (i:=3) (.int .i64 (LT+(k2:Int)%3)));have bb:=Ai2 (s:=SQ+1) (a:=LT+(k2:Int)%3) a9 (RowAt.of_own ck);have ag:(nxL y0 A4 c4 HL (SQ+1) (LT+(k2:Int)%3)).op.ok:=Ai1 ac cm.out ⟨by omega,by omega⟩ ⟨by omega,by omega⟩;have aj:(nxL y0 A4 c4 HL (SQ+1) (LT+(k2:Int)%3)).by_=(D:Int):=aq;have dc:l≠[]:=fun e=>hz (ad.out e);generalize nxL y0 A4 c4 HL (SQ+1) (LT+(k2:Int)%3)=X at*;refine hK.out _ _ trivial (fun hZ=> ?_);clear hZ hK K';try simp only [Ad,List.set]
   refine oD ?_;go_simp;generalize v1.setCell ⟨gO,3,none⟩ (.int .i64 (LT+(k2:Int)%3))=v2 at*;clear ca a4 m8 z8 ck a9 cg bf ct M0 M1 B0 B1 F0 fq ab kl cm ac AT;have dd:=Az (P:=Tryz.prog) gO 44 Tryz.underlying44 rfl (cs:=X.cells) hi;have fw:Fr Non w v2:=a5.trans fv zr;have b0:=br.fr fv zq;have a0:=Lib.hid (Sc X D (w.heap.size+2) v2 aj (by omega) bb ag)
   have ao:Hid (∀y:OpL,y.op=sgn X.op→y.op.ok∧(l=[]→Ai CD [] y.op=0)):=fun y e=>by
    rw [e];exact ⟨Fy ag,fun e=>absurd e dc⟩
   have dk:(Tryz.prog.info? 44).map (·.size)=some X.cells.size:=hi;clear ax ad bb ag aj;unfold Ma at a0;generalize sgn X.op=SO at*;generalize X.cells=XC at*;go_wp2_with (go_at_call 15;(with_reducible refine (a0.out).mono ?_);rintro _ w5 ⟨y,rfl,bh,bd,f5⟩;go_loud (have a8:=b0.fr f5 zq;have ay:=Lib.hid (ao.out y bh);have hd:=Lib.hid (fun wz hz=>af.out y w5 wz ay.out.1 bd (fw.trans f5 zr) a8 hz ay.out.2);have ba:=Cf (P:=Tryz.prog) (w.heap.size+1) 44 (cs:=y.cells) hi (old:=zO) rfl (Cb y);have bz:(Tryz.prog.info? 44).map (·.size)=some y.cells.size:=hi;clear af ay bh bd ao a0;generalize y.cells=YC at*));have b7:=a8.setRow (cs:=YC);have b5:=Lib.hid (hd.out _ (Dd YC))
   (try simp only [Exit.inBlock,Exit.then])
   refine Dm (t:=44) rfl rfl b7 rfl Tryz.underlying44 bz rfl ?_;exact b5.out
end Oq
end
end Go.Proofs.YtafonabghnogaaaGreatDoor
