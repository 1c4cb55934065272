/-
  Contracts of the functions that the claim's statement reaches, walked one by one (part 16).
  Conditions: as each theorem says.
-/
import Derived.Lib.SlBytesConst
import Derived.Test.YthpkjfliibdnjaaGreatDoorGaM12
import Derived.Test.YthpkjfliibdnjaaGreatDoorGaM13
import Derived.Test.YthpkjfliibdnjaaGreatDoorGaM15
set_option maxRecDepth 100000
set_option maxHeartbeats 16000000
open Array renaming length_toList→An4
open Bool renaming and_eq_true→An6
open Int renaming tmod_eq_emod_of_nonneg→An1
open List renaming not_mem_nil→Am6,mem_singleton→An0,mem_of_getElem?→An2,length_cons→An3,length_drop→An9
open Nat renaming zero_le→Am7,le_refl→Am9,le_trans→An8
open Go.World renaming size_alloc→Am8,setCell→An5,rangeAt→An7
namespace Go.Proofs.YthpkjfliibdnjaaGreatDoor
section
open Go.RowKit
attribute [local go_sem ↓] Go.wp_at_zero Go.wp_at_succ
namespace Oq
attribute [local go_sem] Bool.not_false Bool.not_true
attribute [local go_sem ↓] Ch Ea
def Lw (b:Int) (w:World) (e:Ending) (w':World):Prop:=
 ∃y:OpL,e=.returned (.agg y.cells)∧y.by_=b∧y.op.ok∧y.own w' w.heap.size∧Fr Non w w'
def smL (b k d ol ro:Int) (pA:Option Addr) (ps:List NdL) (ep of:Id) (bA:Option Addr) (bs:List UInt8):OpL:=
 {OpL.zero with by_:=b,kind:=k,dev:=d,old:=ol,role:=ro,pathA:=pA,pathC:=ps.length,path:=ps,epoch:=ep,of:=of,bodyA:=bA,bodyC:=bs.length,body:=bs}
theorem Gk (p:Nat) (h:p<18446744073709551616):(NdL.mk p none 0 []).nd.ok:=⟨h,Am7 _,fun _ h=>absurd h Am6⟩
theorem z64:I64 0:=⟨by decide,by decide⟩
theorem E9:U64 0:=by decide
theorem Fa {b k d ol ro:Int} {pA bA:Option Addr} {ps:List NdL} {ep of:Id} {bs:List UInt8} (hb:I64 b) (hk:I64 k) (hd:I64 d) (ho:I64 ol) (hr:I64 ro) (hp:ps.length≤1∧∀x∈ps,x.nd.ok) (he:ep.ok) (hf:of.ok) (hbs:bs.length≤1):(smL b k d ol ro pA ps ep of bA bs).op.ok:=by
 refine ⟨hb,z64,hk,z64,⟨Am7 _,fun _ h=>absurd h Am6⟩,hd,ho,z64,hr,⟨?_,?_⟩,he,z64,?_,⟨Am7 _,fun _ h=>absurd h Am6⟩,hf,
  ⟨Am7 _,fun _ h=>absurd h Am6⟩,z64,z64,⟨Am7 _,fun _ h=>absurd h Am6⟩,E9,⟨Am7 _,fun _ h=>absurd h Am6⟩,E9,E9⟩
 ·
  show (ps.map NdL.nd).length≤1000;rw [List.length_map];omega
 ·
  intro x hx;obtain ⟨y,hy,rfl⟩:=List.mem_map.1 (show x∈ps.map NdL.nd from hx);exact hp.2 y hy
 ·
  show bs.length≤1000000;omega
theorem Ah6 {b k d ol ro:Int} {pA bA:Option Addr} {ps:List NdL} {ep of:Id} {bs:List UInt8} {w:World} {base:Nat} (hp:Own w base 71 2 pA ps.length ps.length (ps.flatMap NdL.cells)) (hps:∀y∈ps,y.xs=[]∧y.A=none∧y.c=0) (hb:RowAt w base 5 1 bA bs.length bs.length (bs.map Bv)):(smL b k d ol ro pA ps ep of bA bs).own w base:=
 ⟨RowAt.nil _ _ _ _,RowAt.of_own hp,(fun y hy=>by obtain ⟨h1,h2,h3⟩:=hps y hy;rw [h1,h2,h3];exact RowAt.nil _ _ _ _),hb,RowAt.nil _ _ _ _,RowAt.nil _ _ _ _,RowAt.nil _ _ _ _,RowAt.nil _ _ _ _,(fun _ h=>absurd h Am6)⟩
theorem Own.blk {w:World} {base g:Nat} {t:TypeId} {size n:Nat} {cs:Array Value} (h:Blk w g t cs) (hb:base≤g) (hn:0<n) (hs:cs.size=n*size) (h1:n<9223372036854775807):Own w base t size (some ⟨g,0,none⟩) n n cs.toList:=by
 refine ⟨by rw [An4,hs],.inr ⟨g,n,cs,rfl,hb,h,Am9 _,by unfold maxLen;omega,hs,?_⟩⟩;rw [List.take_of_length_le (by rw [An4,hs];exact Am9 _)]
theorem RowAt.blkF {w:World} {base g:Nat} {t:TypeId} {size n:Nat} {cs:Array Value} {fz:Nat × Nat} (h:w.heap[g]? =some (.cells cs t fz)) (hb:base≤g) (hs:cs.size=n*size) (h1:n<9223372036854775807) (hz:∀j,j<n*size→w.frozen? ⟨g,j,none⟩=false):RowAt w base t size (some ⟨g,0,none⟩) n n cs.toList:=by
 have hl:=(Array.getElem?_eq_some_iff.1 h).1;refine ⟨⟨⟨by rw [An4,hs],.inr ⟨g,0,rfl,hl,fun j u hu=> ?_⟩⟩,⟨Am9 _,by omega⟩⟩,.inr ⟨g,cs,fz,rfl,hb,h,hz⟩⟩;rw [Nat.zero_add,cell_of_row w g j cs t fz h];simpa using hu
structure Ap (w v:World) (nm:Array Value) (y:OpL):Prop where
 b:Blk v w.heap.size 44 y.cells
 r:Blk v (w.heap.size+1) 44 OpL.zero.cells
 n:Blk v (w.heap.size+1+1) 36 nm
 f:Fr Non w v
 sz:w.heap.size+3≤v.heap.size
 own:y.own v (w.heap.size+2)
theorem Ap.gen {G:World→Prop} {w v:World} {nm:Array Value} {y:OpL} (s:Ap w v nm y) (k:∀v',Ap w v' nm y→G v'):G v:=k v s
theorem Ap.q {w v:World} {nm:Array Value} {y:OpL} (s:Ap w v nm y) (j:Nat) {x:Value} (h:y.cells[j]? =some x):v.cell? ⟨w.heap.size,j,none⟩=some x∧v.frozen? ⟨w.heap.size,j,none⟩=false:=⟨(s.b.cell j).trans h,s.b.frozen j⟩
theorem Ap.o {w v:World} {a0 a1 a2:Value} {y:OpL} (s:Ap w v #[a0,a1,a2] y):v.cell? ⟨w.heap.size+1+1,0,none⟩=some a0∧v.cell? ⟨w.heap.size+1+1,1,none⟩=some a1∧v.cell? ⟨w.heap.size+1+1,2,none⟩=some a2:=⟨s.n.cell 0,s.n.cell 1,s.n.cell 2⟩
theorem Ah7 {b k d ol ro b' k' d' ol' ro':Int} {pA bA:Option Addr} {ps:List NdL} {ep of ep' of':Id} {bs:List UInt8} {v:World} {B:Nat} (h:(smL b k d ol ro pA ps ep of bA bs).own v B):(smL b' k' d' ol' ro' pA ps ep' of' bA bs).own v B:=
 ⟨h.past,h.path,h.nodes,h.body,h.refs,h.guards,h.boxes,h.hist,h.seals⟩
theorem Jf {v:World} {g:Nat} {t:TypeId} {cs:Array Value} (hb:Blk v g t cs) {y:OpL} {B j:Nat} {x:Value} (h:y.own v B) (ht:t=44):y.own (v.setCell ⟨g,j,none⟩ x) B:=by
 subst ht;exact h.keepP ((Fr.refl (One g) v).setOne j x) (Types.one hb) (by decide) (by decide) (by decide) (by decide) (by decide) (by decide) (by decide)
theorem Ap.base {w v:World} {nm:Array Value} {y y':OpL} (s:Ap w v nm y) (j:Nat) (x:Value) (h:y.cells.setIfInBounds j x=y'.cells) (ho:y'.own (v.setCell ⟨w.heap.size,j,none⟩ x) (w.heap.size+2)):Ap w (v.setCell ⟨w.heap.size,j,none⟩ x) nm y' where
 b:=h▸s.b.set j x
 r:=s.r.far (p:=⟨w.heap.size,j,none⟩) (by show w.heap.size+1≠w.heap.size;omega) x
 n:=s.n.far (p:=⟨w.heap.size,j,none⟩) (by show w.heap.size+1+1≠w.heap.size;omega) x
 f:=s.f.setNew (g:=w.heap.size) (Am9 _) j x
 sz:=by have:=s.sz;first|exact this|(simp [An5];omega)
 own:=ho
theorem Ap.set {w v:World} {nm:Array Value} {b k d ol ro b' k' d' ol' ro':Int} {pA bA:Option Addr} {ps:List NdL} {ep of ep' of':Id} {bs:List UInt8} (s:Ap w v nm (smL b k d ol ro pA ps ep of bA bs)) (j:Nat) (x:Value)
  (h:(smL b k d ol ro pA ps ep of bA bs).cells.setIfInBounds j x=(smL b' k' d' ol' ro' pA ps ep' of' bA bs).cells:=by first|rfl|(simp [smL,OpL.cells,OpL.zero])):Ap w (v.setCell ⟨w.heap.size,j,none⟩ x) nm (smL b' k' d' ol' ro' pA ps ep' of' bA bs):=
 s.base j x h (Ah7 (Jf s.b s.own rfl))
theorem Ap.alloc {w v:World} {nm:Array Value} {y:OpL} (s:Ap w v nm y) (o:Obj):Ap w (v.alloc o) nm y:=
 ⟨s.b.alloc _,s.r.alloc _,s.n.alloc _,s.f.alloc _,by rw [Am8];have:=s.sz;omega,s.own.non ((Fr.refl Non v).alloc o)⟩
theorem Ap.path {w v:World} {nm:Array Value} {b k d ol ro:Int} {bA:Option Addr} {ep of:Id} {bs:List UInt8} (s:Ap w v nm (smL b k d ol ro none [] ep of bA bs)) (p:Nat) (P:Int) (hP:P=(p:Int)):
  Ap w ((v.alloc (.cells #[.int .u64 P,.slice none 0 0] 71)).setCell ⟨w.heap.size,9,none⟩ (.slice (some ⟨v.heap.size,0,none⟩) 1 1)) nm (smL b k d ol ro (some ⟨v.heap.size,0,none⟩) [⟨p,none,0,[]⟩] ep of bA bs):=by
 subst hP;have hs:=s.sz;have s1:=s.alloc (.cells #[.int .u64 (p:Int),.slice none 0 0] 71);refine s1.base 9 _ rfl (Jf s1.b ?_ rfl);have h5:=Own.blk (base:=w.heap.size+2) (n:=1) (size:=2) (Blk.new v 71 #[.int .u64 (p:Int),.slice none 0 0]) (by omega) (by omega) rfl (by omega);have h:=s1.own;exact ⟨h.past,RowAt.of_own h5,(fun y hy=>by rw [List.mem_singleton.1 (show y∈[(⟨p,none,0,[]⟩:NdL)] from hy)];exact RowAt.nil _ _ _ _),h.body,h.refs,h.guards,h.boxes,h.hist,h.seals⟩
theorem Ap.body {w v:World} {nm:Array Value} {b k d ol ro:Int} {ep of:Id} (s:Ap w v nm (smL b k d ol ro none [] ep of none [])) (x:UInt8) (X:Int) (hX:X=(x.toNat:Int)):
  Ap w ((v.alloc (.cells #[.int .u8 X] 5)).setCell ⟨w.heap.size,14,none⟩ (.slice (some ⟨v.heap.size,0,none⟩) 1 1)) nm (smL b k d ol ro none [] ep of (some ⟨v.heap.size,0,none⟩) [x]):=by
 subst hX;have hs:=s.sz;have s1:=s.alloc (.cells #[.int .u8 (x.toNat:Int)] 5);refine s1.base 14 _ rfl (Jf s1.b ?_ rfl);have h5:=Own.blk (base:=w.heap.size+2) (n:=1) (size:=1) (Blk.new v 5 #[.int .u8 (x.toNat:Int)]) (by omega) (by omega) rfl (by omega);have h:=s1.own;exact ⟨h.past,h.path,h.nodes,RowAt.of_own h5,h.refs,h.guards,h.boxes,h.hist,h.seals⟩
theorem Ap.bodyF {w v:World} {nm:Array Value} {b k d ol ro:Int} {ep of:Id} (s:Ap w v nm (smL b k d ol ro none [] ep of none [])) (x:UInt8) (X:Int) (hX:X=(x.toNat:Int)):
  Ap w ((v.alloc (.cells #[.int .u8 X] 5 (1,2))).setCell ⟨w.heap.size,14,none⟩ (.slice (some ⟨v.heap.size,0,none⟩) 1 1)) nm (smL b k d ol ro none [] ep of (some ⟨v.heap.size,0,none⟩) [x]):=by
 subst hX;have hs:=s.sz;have s1:=s.alloc (.cells #[.int .u8 (x.toNat:Int)] 5 (1,2));have aF:=heap_alloc_new v (.cells #[.int .u8 (x.toNat:Int)] 5 (1,2));have hgz:=hs;generalize v.alloc (.cells #[.int .u8 (x.toNat:Int)] 5 (1,2))=v1 at*;generalize v.heap.size=g at*;have h5:RowAt v1 (w.heap.size+2) 5 1 (some ⟨g,0,none⟩) 1 1 [.int .u8 (x.toNat:Int)]:=RowAt.blkF (cs:=#[.int .u8 (x.toNat:Int)]) aF (by omega) rfl (by omega) (fun j hj=>by simp [World.frozen?,aF];omega);have h:=s1.own;refine s1.base 14 _ rfl (Jf s1.b ?_ rfl);exact ⟨h.past,h.path,h.nodes,h5,h.refs,h.guards,h.boxes,h.hist,h.seals⟩
theorem Ah8 (b:Int) (n:Nat) (w:World) (hb:I64 b) (hn:n≤1000000):
  Calls Tryz.prog 27 #[.agg #[.int .i64 b,.int .i64 0,.int .i64 0,.int .i64 0,.slice none 0 0,.int .i64 0,.int .i64 0,.int .i64 0,.int .i64 0,.slice none 0 0,.int .i64 0,.int .i64 0,.int .u64 0,.int .i64 0,.slice none 0 0,.slice none 0 0,.int .i64 0,.int .i64 0,.int .u64 0,.slice none 0 0,.int .i64 0,.int .i64 0,.slice none 0 0,.int .u64 0,.slice none 0 0,.int .u64 0,.int .u64 0],.int .i64 (n:Int)] w (Lw b w):=by
 have hi:(Tryz.prog.info? 44).map (·.size)=some 27:=by kernel_rfl
 have s0:Ap w (((w.alloc (.cells #[.int .i64 b,.int .i64 0,.int .i64 0,.int .i64 0,.slice none 0 0,.int .i64 0,.int .i64 0,.int .i64 0,.int .i64 0,.slice none 0 0,.int .i64 0,.int .i64 0,.int .u64 0,.int .i64 0,.slice none 0 0,.slice none 0 0,.int .i64 0,.int .i64 0,.int .u64 0,.slice none 0 0,.int .i64 0,.int .i64 0,.slice none 0 0,.int .u64 0,.slice none 0 0,.int .u64 0,.int .u64 0] 44)).alloc (.cells zO 44)).alloc (.cells #[.int .i64 (1+(n:Int)%3),.int .i64 1,.int .u64 ((n:Int)/3%3)] 36)) #[.int .i64 (1+(n:Int)%3),.int .i64 1,.int .u64 ((n:Int)/3%3)] (smL b 0 0 0 0 none [] ⟨0,0,0⟩ ⟨0,0,0⟩ none []):=by
  refine ⟨((Blk.new w 44 #[.int .i64 b,.int .i64 0,.int .i64 0,.int .i64 0,.slice none 0 0,.int .i64 0,.int .i64 0,.int .i64 0,.int .i64 0,.slice none 0 0,.int .i64 0,.int .i64 0,.int .u64 0,.int .i64 0,.slice none 0 0,.slice none 0 0,.int .i64 0,.int .i64 0,.int .u64 0,.slice none 0 0,.int .i64 0,.int .i64 0,.slice none 0 0,.int .u64 0,.slice none 0 0,.int .u64 0,.int .u64 0]).alloc (.cells zO 44)).alloc (.cells #[.int .i64 (1+(n:Int)%3),.int .i64 1,.int .u64 ((n:Int)/3%3)] 36),?_,?_,(((Fr.refl Non w).alloc _).alloc _).alloc _,?_,Ah6 (Own.nil _ _ _ _) (fun y hy=>absurd hy Am6) (RowAt.nil _ _ _ _)⟩
  ·
   have r0:=(Blk.new (w.alloc (.cells #[.int .i64 b,.int .i64 0,.int .i64 0,.int .i64 0,.slice none 0 0,.int .i64 0,.int .i64 0,.int .i64 0,.int .i64 0,.slice none 0 0,.int .i64 0,.int .i64 0,.int .u64 0,.int .i64 0,.slice none 0 0,.slice none 0 0,.int .i64 0,.int .i64 0,.int .u64 0,.slice none 0 0,.int .i64 0,.int .i64 0,.slice none 0 0,.int .u64 0,.slice none 0 0,.int .u64 0,.int .u64 0] 44)) 44 zO).alloc (.cells #[.int .i64 (1+(n:Int)%3),.int .i64 1,.int .u64 ((n:Int)/3%3)] 36);rw [Am8] at r0;exact r0
  ·
   have n0:=Blk.new ((w.alloc (.cells #[.int .i64 b,.int .i64 0,.int .i64 0,.int .i64 0,.slice none 0 0,.int .i64 0,.int .i64 0,.int .i64 0,.int .i64 0,.slice none 0 0,.int .i64 0,.int .i64 0,.int .u64 0,.int .i64 0,.slice none 0 0,.slice none 0 0,.int .i64 0,.int .i64 0,.int .u64 0,.slice none 0 0,.int .i64 0,.int .i64 0,.slice none 0 0,.int .u64 0,.slice none 0 0,.int .u64 0,.int .u64 0] 44)).alloc (.cells zO 44)) 36 #[.int .i64 (1+(n:Int)%3),.int .i64 1,.int .u64 ((n:Int)/3%3)];rw [Am8,Am8] at n0;exact n0
  ·
   rw [Am8,Am8,Am8];exact Am9 _
 have kc:=Lib.hid (fun k w'=>Hp k w');have hm:n%8=0∨n%8=1∨n%8=2∨n%8=3∨n%8=4∨n%8=5∨n%8=6∨n%8=7:=by omega
 have aj:Hid (∀(y:OpL) (w1 wz:World),y.by_=b→y.op.ok→y.own w1 (w.heap.size+2)→Fr Non w w1→Fr (One (w.heap.size+1)) w1 wz→Lw b w (.returned (.agg y.cells)) wz):=by
  intro y w1 wz h1 h2 h3 h4 h5;refine ⟨y,rfl,h1,h2,?_,h4.trans h5 (fun k hk e=>absurd hk (by have e2:k=w.heap.size+1:=e;omega))⟩
  have ac:∀(t:TypeId) (sz m c:Nat) (A:Option Addr) (xs:List Value),RowAt w1 (w.heap.size+2) t sz A m c xs→RowAt wz w.heap.size t sz A m c xs:=fun t sz m c A xs ho=>(ho.fr h5 (fun h0 k hk e=>by
   have e2:k=w.heap.size+1:=e
   rcases ho.2 with h6|⟨k',_,_,e3,h6,_⟩
   · exact h0 h6
   ·
    rw [e3] at hk;injection hk with hk
    have a0:k'=k:=hk;omega)).lower (by omega)
  exact ⟨ac _ _ _ _ _ _ h3.past,ac _ _ _ _ _ _ h3.path,(fun z hz=>ac _ _ _ _ _ _ (h3.nodes z hz)),ac _ _ _ _ _ _ h3.body,ac _ _ _ _ _ _ h3.refs,ac _ _ _ _ _ _ h3.guards,ac _ _ _ _ _ _ h3.boxes,ac _ _ _ _ _ _ h3.hist,(fun z hz=>ac _ _ _ _ _ _ (h3.seals z hz))⟩
 generalize Lw b w=POST at*;go_enter Tryz.func27,Tryz.ntmps27;go_upto_region 2 with (fail)
 generalize ((w.alloc (.cells #[.int .i64 b,.int .i64 0,.int .i64 0,.int .i64 0,.slice none 0 0,.int .i64 0,.int .i64 0,.int .i64 0,.int .i64 0,.slice none 0 0,.int .i64 0,.int .i64 0,.int .u64 0,.int .i64 0,.slice none 0 0,.slice none 0 0,.int .i64 0,.int .i64 0,.int .u64 0,.slice none 0 0,.int .i64 0,.int .i64 0,.slice none 0 0,.int .u64 0,.slice none 0 0,.int .u64 0,.int .u64 0] 44)).alloc (.cells zO 44)).alloc (.cells #[.int .i64 (1+(n:Int)%3),.int .i64 1,.int .u64 ((n:Int)/3%3)] 36)=w0 at*
 rcases hm with hm|hm|hm|hm|hm|hm|hm|hm
 focus
  have n8:(n:Int)%8=0:=by omega
  obtain ⟨q2,z2⟩:=(s0.alloc (.cells zK 3)).q 2 (x:=.int .i64 0) rfl;go_upto_region 3 with (fail)
  refine Ap.gen (G:=fun v'=>Code.wp _ _ _ _ v') ((s0.alloc (.cells zK 3)).set (k':=8) (b':=b) (d':=0) (ol':=0) (ro':=0) (ep':=⟨0,0,0⟩) (of':=⟨0,0,0⟩) 2 (.int .i64 8)) ?_;clear q2 z2 s0;intro w1 s1;obtain ⟨ae,ai⟩:=s1.q 16 (x:=.int .i64 0) rfl;obtain ⟨ag,ad⟩:=s1.q 17 (x:=.int .i64 0) rfl;obtain ⟨af,ah⟩:=s1.q 18 (x:=.int .u64 0) rfl;have c2:=(s1.q 2 (x:=.int .i64 8) rfl).1;obtain ⟨e0,e1,e2⟩:=s1.o;go_upto_region 21 with (fail)
  refine Ap.gen (G:=fun v'=>Code.wp _ _ _ _ v') (((s1.set (b':=b) (k':=8) (d':=0) (ol':=0) (ro':=0) (ep':=⟨0,0,0⟩) (of':=⟨1+(n:Int)%3,0,0⟩) 16 (.int .i64 (1+(n:Int)%3))).set (b':=b) (k':=8) (d':=0) (ol':=0) (ro':=0) (ep':=⟨0,0,0⟩) (of':=⟨1+(n:Int)%3,1,0⟩) 17 (.int .i64 1)).set (b':=b) (k':=8) (d':=0) (ol':=0) (ro':=0) (ep':=⟨0,0,0⟩) (of':=⟨1+(n:Int)%3,1,n/3%3⟩) 18 (.int .u64 ((n:Int)/3%3))) ?_;clear c2 e0 e1 e2 s1 ae ai ag ad af ah;intro w2 s2;have c2:=(s2.q 2 (x:=.int .i64 8) rfl).1;obtain ⟨e0,e1,e2⟩:=s2.o;go_upto_region 22 with (go_at_call 61;(with_reducible refine (kc.out 8 _).mono ?_);rintro _ v ⟨rfl,rfl⟩)
  refine Ap.gen (G:=fun v'=>Code.wp _ _ _ _ v') s2 ?_;clear c2 e0 e1 e2 s2;intro wz sz;have ab:(smL b 8 (0) (0) (0) none [] ⟨0,0,0⟩ ⟨1+(n:Int)%3,1,n/3%3⟩ none []).op.ok:=Fa hb ⟨by decide,by decide⟩ ⟨by omega,by omega⟩ ⟨by omega,by omega⟩ ⟨by omega,by omega⟩ ⟨by simp,(fun x hx=>absurd hx Am6)⟩ (C3 _ _ _ ⟨by omega,by omega⟩ ⟨by omega,by omega⟩ (by show _<_;omega)) (C3 _ _ _ ⟨by omega,by omega⟩ ⟨by omega,by omega⟩ (by show _<_;omega)) (by simp);have aa:(smL b 8 (0) (0) (0) none [] ⟨0,0,0⟩ ⟨1+(n:Int)%3,1,n/3%3⟩ none []).by_=b:=rfl;generalize smL b 8 (0) (0) (0) none [] ⟨0,0,0⟩ ⟨1+(n:Int)%3,1,n/3%3⟩ none []=y at*
 rotate_left
 focus
  have n8:(n:Int)%8=1:=by omega
  obtain ⟨q2,z2⟩:=(s0.alloc (.cells zK 3)).q 2 (x:=.int .i64 0) rfl;go_upto_region 3 with (fail)
  refine Ap.gen (G:=fun v'=>Code.wp _ _ _ _ v') ((s0.alloc (.cells zK 3)).set (k':=2) (b':=b) (d':=0) (ol':=0) (ro':=0) (ep':=⟨0,0,0⟩) (of':=⟨0,0,0⟩) 2 (.int .i64 2)) ?_;clear q2 z2 s0;intro w1 s1;obtain ⟨q5,z5⟩:=s1.q 5 (x:=.int .i64 0) rfl;have c2:=(s1.q 2 (x:=.int .i64 2) rfl).1;obtain ⟨e0,e1,e2⟩:=s1.o;go_upto_region 6 with (fail)
  refine Ap.gen (G:=fun v'=>Code.wp _ _ _ _ v') (s1.set (b':=b) (k':=2) (d':=1+(n:Int)/8%5) (ol':=0) (ro':=0) (ep':=⟨0,0,0⟩) (of':=⟨0,0,0⟩) 5 (.int .i64 (1+(n:Int)/8%5))) ?_;clear c2 e0 e1 e2 s1 q5 z5;intro w2 s2;obtain ⟨q8,z8⟩:=s2.q 8 (x:=.int .i64 0) rfl;have c2:=(s2.q 2 (x:=.int .i64 2) rfl).1;obtain ⟨e0,e1,e2⟩:=s2.o;go_upto_region 21 with (fail)
  refine Ap.gen (G:=fun v'=>Code.wp _ _ _ _ v') (s2.set (b':=b) (k':=2) (d':=1+(n:Int)/8%5) (ol':=0) (ro':=1+(n:Int)/40%3) (ep':=⟨0,0,0⟩) (of':=⟨0,0,0⟩) 8 (.int .i64 (1+(n:Int)/40%3))) ?_;clear c2 e0 e1 e2 s2 q8 z8;intro w3 s3;have c2:=(s3.q 2 (x:=.int .i64 2) rfl).1;obtain ⟨e0,e1,e2⟩:=s3.o;go_upto_region 22 with (go_at_call 61;(with_reducible refine (kc.out 2 _).mono ?_);rintro _ v ⟨rfl,rfl⟩)
  obtain ⟨q9,z9⟩:=(s3.alloc (.cells #[.int .u64 (1+(n:Int)/8%90),.slice none 0 0] 71)).q 9 (x:=.slice none 0 0) rfl;go_upto_region 24 with (fail)
  refine Ap.gen (G:=fun v'=>Code.wp _ _ _ _ v') (s3.path (1+n/8%90) (1+(n:Int)/8%90) (by omega)) ?_;generalize w3.heap.size=gp;clear c2 e0 e1 e2 q9 z9 s3;intro wz sz;have ab:(smL b 2 (1+(n:Int)/8%5) (0) (1+(n:Int)/40%3) (some ⟨gp,0,none⟩) [⟨1+n/8%90,none,0,[]⟩] ⟨0,0,0⟩ ⟨0,0,0⟩ none []).op.ok:=Fa hb ⟨by decide,by decide⟩ ⟨by omega,by omega⟩ ⟨by omega,by omega⟩ ⟨by omega,by omega⟩ ⟨by simp,(fun x hx=>by rw [An0] at hx;subst hx;exact Gk _ (by omega))⟩ (C3 _ _ _ ⟨by omega,by omega⟩ ⟨by omega,by omega⟩ (by show _<_;omega)) (C3 _ _ _ ⟨by omega,by omega⟩ ⟨by omega,by omega⟩ (by show _<_;omega)) (by simp);have aa:(smL b 2 (1+(n:Int)/8%5) (0) (1+(n:Int)/40%3) (some ⟨gp,0,none⟩) [⟨1+n/8%90,none,0,[]⟩] ⟨0,0,0⟩ ⟨0,0,0⟩ none []).by_=b:=rfl;generalize smL b 2 (1+(n:Int)/8%5) (0) (1+(n:Int)/40%3) (some ⟨gp,0,none⟩) [⟨1+n/8%90,none,0,[]⟩] ⟨0,0,0⟩ ⟨0,0,0⟩ none []=y at*
 rotate_left
 focus
  have n8:(n:Int)%8=2:=by omega
  obtain ⟨q2,z2⟩:=(s0.alloc (.cells zK 3)).q 2 (x:=.int .i64 0) rfl;go_upto_region 3 with (fail)
  refine Ap.gen (G:=fun v'=>Code.wp _ _ _ _ v') ((s0.alloc (.cells zK 3)).set (k':=3) (b':=b) (d':=0) (ol':=0) (ro':=0) (ep':=⟨0,0,0⟩) (of':=⟨0,0,0⟩) 2 (.int .i64 3)) ?_;clear q2 z2 s0;intro w1 s1;obtain ⟨q5,z5⟩:=s1.q 5 (x:=.int .i64 0) rfl;have c2:=(s1.q 2 (x:=.int .i64 3) rfl).1;obtain ⟨e0,e1,e2⟩:=s1.o;go_upto_region 21 with (fail)
  refine Ap.gen (G:=fun v'=>Code.wp _ _ _ _ v') (s1.set (b':=b) (k':=3) (d':=1+(n:Int)/8%5) (ol':=0) (ro':=0) (ep':=⟨0,0,0⟩) (of':=⟨0,0,0⟩) 5 (.int .i64 (1+(n:Int)/8%5))) ?_;clear c2 e0 e1 e2 s1 q5 z5;intro w2 s2;have c2:=(s2.q 2 (x:=.int .i64 3) rfl).1;obtain ⟨e0,e1,e2⟩:=s2.o;go_upto_region 22 with (go_at_call 61;(with_reducible refine (kc.out 3 _).mono ?_);rintro _ v ⟨rfl,rfl⟩)
  obtain ⟨q9,z9⟩:=(s2.alloc (.cells #[.int .u64 (1+(n:Int)/8%90),.slice none 0 0] 71)).q 9 (x:=.slice none 0 0) rfl;go_upto_region 24 with (fail)
  refine Ap.gen (G:=fun v'=>Code.wp _ _ _ _ v') (s2.path (1+n/8%90) (1+(n:Int)/8%90) (by omega)) ?_;generalize w2.heap.size=gp;clear c2 e0 e1 e2 q9 z9 s2;intro wz sz;have ab:(smL b 3 (1+(n:Int)/8%5) (0) (0) (some ⟨gp,0,none⟩) [⟨1+n/8%90,none,0,[]⟩] ⟨0,0,0⟩ ⟨0,0,0⟩ none []).op.ok:=Fa hb ⟨by decide,by decide⟩ ⟨by omega,by omega⟩ ⟨by omega,by omega⟩ ⟨by omega,by omega⟩ ⟨by simp,(fun x hx=>by rw [An0] at hx;subst hx;exact Gk _ (by omega))⟩ (C3 _ _ _ ⟨by omega,by omega⟩ ⟨by omega,by omega⟩ (by show _<_;omega)) (C3 _ _ _ ⟨by omega,by omega⟩ ⟨by omega,by omega⟩ (by show _<_;omega)) (by simp);have aa:(smL b 3 (1+(n:Int)/8%5) (0) (0) (some ⟨gp,0,none⟩) [⟨1+n/8%90,none,0,[]⟩] ⟨0,0,0⟩ ⟨0,0,0⟩ none []).by_=b:=rfl;generalize smL b 3 (1+(n:Int)/8%5) (0) (0) (some ⟨gp,0,none⟩) [⟨1+n/8%90,none,0,[]⟩] ⟨0,0,0⟩ ⟨0,0,0⟩ none []=y at*
 rotate_left
 focus
  have n8:(n:Int)%8=3:=by omega
  obtain ⟨q2,z2⟩:=(s0.alloc (.cells zK 3)).q 2 (x:=.int .i64 0) rfl;go_upto_region 3 with (fail)
  refine Ap.gen (G:=fun v'=>Code.wp _ _ _ _ v') ((s0.alloc (.cells zK 3)).set (k':=4) (b':=b) (d':=0) (ol':=0) (ro':=0) (ep':=⟨0,0,0⟩) (of':=⟨0,0,0⟩) 2 (.int .i64 4)) ?_;clear q2 z2 s0;intro w1 s1;have c2:=(s1.q 2 (x:=.int .i64 4) rfl).1;obtain ⟨e0,e1,e2⟩:=s1.o;go_upto_region 21 with (fail)
  refine Ap.gen (G:=fun v'=>Code.wp _ _ _ _ v') s1 ?_;clear c2 e0 e1 e2 s1;intro w2 s2;have c2:=(s2.q 2 (x:=.int .i64 4) rfl).1;obtain ⟨e0,e1,e2⟩:=s2.o;go_upto_region 22 with (go_at_call 61;(with_reducible refine (kc.out 4 _).mono ?_);rintro _ v ⟨rfl,rfl⟩)
  obtain ⟨q9,z9⟩:=(s2.alloc (.cells #[.int .u64 (1+(n:Int)/8%90),.slice none 0 0] 71)).q 9 (x:=.slice none 0 0) rfl;go_upto_region 24 with (fail)
  refine Ap.gen (G:=fun v'=>Code.wp _ _ _ _ v') (s2.path (1+n/8%90) (1+(n:Int)/8%90) (by omega)) ?_;generalize w2.heap.size=gp;clear c2 e0 e1 e2 q9 z9 s2;intro wz sz;have ab:(smL b 4 (0) (0) (0) (some ⟨gp,0,none⟩) [⟨1+n/8%90,none,0,[]⟩] ⟨0,0,0⟩ ⟨0,0,0⟩ none []).op.ok:=Fa hb ⟨by decide,by decide⟩ ⟨by omega,by omega⟩ ⟨by omega,by omega⟩ ⟨by omega,by omega⟩ ⟨by simp,(fun x hx=>by rw [An0] at hx;subst hx;exact Gk _ (by omega))⟩ (C3 _ _ _ ⟨by omega,by omega⟩ ⟨by omega,by omega⟩ (by show _<_;omega)) (C3 _ _ _ ⟨by omega,by omega⟩ ⟨by omega,by omega⟩ (by show _<_;omega)) (by simp);have aa:(smL b 4 (0) (0) (0) (some ⟨gp,0,none⟩) [⟨1+n/8%90,none,0,[]⟩] ⟨0,0,0⟩ ⟨0,0,0⟩ none []).by_=b:=rfl;generalize smL b 4 (0) (0) (0) (some ⟨gp,0,none⟩) [⟨1+n/8%90,none,0,[]⟩] ⟨0,0,0⟩ ⟨0,0,0⟩ none []=y at*
 rotate_left
 focus
  have n8:(n:Int)%8=4:=by omega
  obtain ⟨q2,z2⟩:=(s0.alloc (.cells zK 3)).q 2 (x:=.int .i64 0) rfl;go_upto_region 3 with (fail)
  refine Ap.gen (G:=fun v'=>Code.wp _ _ _ _ v') ((s0.alloc (.cells zK 3)).set (k':=2) (b':=b) (d':=0) (ol':=0) (ro':=0) (ep':=⟨0,0,0⟩) (of':=⟨0,0,0⟩) 2 (.int .i64 2)) ?_;clear q2 z2 s0;intro w1 s1;obtain ⟨q5,z5⟩:=s1.q 5 (x:=.int .i64 0) rfl;have c2:=(s1.q 2 (x:=.int .i64 2) rfl).1;obtain ⟨e0,e1,e2⟩:=s1.o;go_upto_region 6 with (fail)
  refine Ap.gen (G:=fun v'=>Code.wp _ _ _ _ v') (s1.set (b':=b) (k':=2) (d':=1+(n:Int)/8%5) (ol':=0) (ro':=0) (ep':=⟨0,0,0⟩) (of':=⟨0,0,0⟩) 5 (.int .i64 (1+(n:Int)/8%5))) ?_;clear c2 e0 e1 e2 s1 q5 z5;intro w2 s2;obtain ⟨q8,z8⟩:=s2.q 8 (x:=.int .i64 0) rfl;have c2:=(s2.q 2 (x:=.int .i64 2) rfl).1;obtain ⟨e0,e1,e2⟩:=s2.o;go_upto_region 21 with (fail)
  refine Ap.gen (G:=fun v'=>Code.wp _ _ _ _ v') (s2.set (b':=b) (k':=2) (d':=1+(n:Int)/8%5) (ol':=0) (ro':=1+(n:Int)/40%3) (ep':=⟨0,0,0⟩) (of':=⟨0,0,0⟩) 8 (.int .i64 (1+(n:Int)/40%3))) ?_;clear c2 e0 e1 e2 s2 q8 z8;intro w3 s3;have c2:=(s3.q 2 (x:=.int .i64 2) rfl).1;obtain ⟨e0,e1,e2⟩:=s3.o;go_upto_region 22 with (go_at_call 61;(with_reducible refine (kc.out 2 _).mono ?_);rintro _ v ⟨rfl,rfl⟩)
  obtain ⟨q9,z9⟩:=(s3.alloc (.cells #[.int .u64 (1+(n:Int)/8%90),.slice none 0 0] 71)).q 9 (x:=.slice none 0 0) rfl;go_upto_region 24 with (fail)
  refine Ap.gen (G:=fun v'=>Code.wp _ _ _ _ v') (s3.path (1+n/8%90) (1+(n:Int)/8%90) (by omega)) ?_;generalize w3.heap.size=gp;clear c2 e0 e1 e2 q9 z9 s3;intro wz sz;have ab:(smL b 2 (1+(n:Int)/8%5) (0) (1+(n:Int)/40%3) (some ⟨gp,0,none⟩) [⟨1+n/8%90,none,0,[]⟩] ⟨0,0,0⟩ ⟨0,0,0⟩ none []).op.ok:=Fa hb ⟨by decide,by decide⟩ ⟨by omega,by omega⟩ ⟨by omega,by omega⟩ ⟨by omega,by omega⟩ ⟨by simp,(fun x hx=>by rw [An0] at hx;subst hx;exact Gk _ (by omega))⟩ (C3 _ _ _ ⟨by omega,by omega⟩ ⟨by omega,by omega⟩ (by show _<_;omega)) (C3 _ _ _ ⟨by omega,by omega⟩ ⟨by omega,by omega⟩ (by show _<_;omega)) (by simp);have aa:(smL b 2 (1+(n:Int)/8%5) (0) (1+(n:Int)/40%3) (some ⟨gp,0,none⟩) [⟨1+n/8%90,none,0,[]⟩] ⟨0,0,0⟩ ⟨0,0,0⟩ none []).by_=b:=rfl;generalize smL b 2 (1+(n:Int)/8%5) (0) (1+(n:Int)/40%3) (some ⟨gp,0,none⟩) [⟨1+n/8%90,none,0,[]⟩] ⟨0,0,0⟩ ⟨0,0,0⟩ none []=y at*
 rotate_left
 focus
  have n8:(n:Int)%8=5:=by omega
  obtain ⟨q2,z2⟩:=(s0.alloc (.cells zK 3)).q 2 (x:=.int .i64 0) rfl;go_upto_region 3 with (fail)
  refine Ap.gen (G:=fun v'=>Code.wp _ _ _ _ v') ((s0.alloc (.cells zK 3)).set (k':=6) (b':=b) (d':=0) (ol':=0) (ro':=0) (ep':=⟨0,0,0⟩) (of':=⟨0,0,0⟩) 2 (.int .i64 6)) ?_;clear q2 z2 s0;intro w1 s1;obtain ⟨av,ax⟩:=s1.q 10 (x:=.int .i64 0) rfl;obtain ⟨ay,az⟩:=s1.q 11 (x:=.int .i64 0) rfl;obtain ⟨au,aq⟩:=s1.q 12 (x:=.int .u64 0) rfl;have c2:=(s1.q 2 (x:=.int .i64 6) rfl).1;obtain ⟨e0,e1,e2⟩:=s1.o;go_upto_region 11 with (fail)
  refine Ap.gen (G:=fun v'=>Code.wp _ _ _ _ v') (((s1.set (b':=b) (k':=6) (d':=0) (ol':=0) (ro':=0) (ep':=⟨1+(n:Int)%3,0,0⟩) (of':=⟨0,0,0⟩) 10 (.int .i64 (1+(n:Int)%3))).set (b':=b) (k':=6) (d':=0) (ol':=0) (ro':=0) (ep':=⟨1+(n:Int)%3,1,0⟩) (of':=⟨0,0,0⟩) 11 (.int .i64 1)).set (b':=b) (k':=6) (d':=0) (ol':=0) (ro':=0) (ep':=⟨1+(n:Int)%3,1,n/3%3⟩) (of':=⟨0,0,0⟩) 12 (.int .u64 ((n:Int)/3%3))) ?_;clear c2 e0 e1 e2 s1 av ax ay az au aq;intro w2 s2;obtain ⟨al,ap⟩:=(s2.alloc (.cells #[.int .u8 ((n:Int)/8%256)] 5)).q 14 (x:=.slice none 0 0) rfl;have c2:=(s2.q 2 (x:=.int .i64 6) rfl).1;obtain ⟨e0,e1,e2⟩:=s2.o;go_upto_region 21 with (fail)
  refine Ap.gen (G:=fun v'=>Code.wp _ _ _ _ v') (s2.body (UInt8.ofNat (n/8)) ((n:Int)/8%256) (by rw [UInt8.toNat_ofNat'];omega)) ?_;generalize w2.heap.size=gb;clear c2 e0 e1 e2 s2 al ap;intro w3 s3;have c2:=(s3.q 2 (x:=.int .i64 6) rfl).1;obtain ⟨e0,e1,e2⟩:=s3.o;go_upto_region 22 with (go_at_call 61;(with_reducible refine (kc.out 6 _).mono ?_);rintro _ v ⟨rfl,rfl⟩)
  refine Ap.gen (G:=fun v'=>Code.wp _ _ _ _ v') s3 ?_;clear c2 e0 e1 e2 s3;intro wz sz;have ab:(smL b 6 (0) (0) (0) none [] ⟨1+(n:Int)%3,1,n/3%3⟩ ⟨0,0,0⟩ (some ⟨gb,0,none⟩) [UInt8.ofNat (n/8)]).op.ok:=Fa hb ⟨by decide,by decide⟩ ⟨by omega,by omega⟩ ⟨by omega,by omega⟩ ⟨by omega,by omega⟩ ⟨by simp,(fun x hx=>absurd hx Am6)⟩ (C3 _ _ _ ⟨by omega,by omega⟩ ⟨by omega,by omega⟩ (by show _<_;omega)) (C3 _ _ _ ⟨by omega,by omega⟩ ⟨by omega,by omega⟩ (by show _<_;omega)) (by simp);have aa:(smL b 6 (0) (0) (0) none [] ⟨1+(n:Int)%3,1,n/3%3⟩ ⟨0,0,0⟩ (some ⟨gb,0,none⟩) [UInt8.ofNat (n/8)]).by_=b:=rfl;generalize smL b 6 (0) (0) (0) none [] ⟨1+(n:Int)%3,1,n/3%3⟩ ⟨0,0,0⟩ (some ⟨gb,0,none⟩) [UInt8.ofNat (n/8)]=y at*
 rotate_left
 focus
  have n8:(n:Int)%8=6:=by omega
  obtain ⟨q2,z2⟩:=(s0.alloc (.cells zK 3)).q 2 (x:=.int .i64 0) rfl;go_upto_region 3 with (fail)
  refine Ap.gen (G:=fun v'=>Code.wp _ _ _ _ v') ((s0.alloc (.cells zK 3)).set (k':=7) (b':=b) (d':=0) (ol':=0) (ro':=0) (ep':=⟨0,0,0⟩) (of':=⟨0,0,0⟩) 2 (.int .i64 7)) ?_;clear q2 z2 s0;intro w1 s1;obtain ⟨ae,ai⟩:=s1.q 16 (x:=.int .i64 0) rfl;obtain ⟨ag,ad⟩:=s1.q 17 (x:=.int .i64 0) rfl;obtain ⟨af,ah⟩:=s1.q 18 (x:=.int .u64 0) rfl;have c2:=(s1.q 2 (x:=.int .i64 7) rfl).1;obtain ⟨e0,e1,e2⟩:=s1.o;go_upto_region 14 with (fail)
  refine Ap.gen (G:=fun v'=>Code.wp _ _ _ _ v') (((s1.set (b':=b) (k':=7) (d':=0) (ol':=0) (ro':=0) (ep':=⟨0,0,0⟩) (of':=⟨1+(n:Int)%3,0,0⟩) 16 (.int .i64 (1+(n:Int)%3))).set (b':=b) (k':=7) (d':=0) (ol':=0) (ro':=0) (ep':=⟨0,0,0⟩) (of':=⟨1+(n:Int)%3,1,0⟩) 17 (.int .i64 1)).set (b':=b) (k':=7) (d':=0) (ol':=0) (ro':=0) (ep':=⟨0,0,0⟩) (of':=⟨1+(n:Int)%3,1,n/3%3⟩) 18 (.int .u64 ((n:Int)/3%3))) ?_;clear c2 e0 e1 e2 s1 ae ai ag ad af ah;intro w2 s2;obtain ⟨al,ap⟩:=(s2.alloc (.cells #[.int .u8 43] 5 (1,2))).q 14 (x:=.slice none 0 0) rfl;have a1:=fun (w:World) (C:Array Value) (n c:Nat)=>Lib.run_convert_bytes_const (P:=Tryz.prog) w 37 5 C n c Tryz.underlying37 Tryz.underlying5;have c2:=(s2.q 2 (x:=.int .i64 7) rfl).1;obtain ⟨e0,e1,e2⟩:=s2.o;go_upto_region 21 with (fail)
  refine Ap.gen (G:=fun v'=>Code.wp _ _ _ _ v') (s2.bodyF (43) (43) rfl) ?_;generalize w2.heap.size=gb;clear c2 e0 e1 e2 s2 al ap;intro w3 s3;have c2:=(s3.q 2 (x:=.int .i64 7) rfl).1;obtain ⟨e0,e1,e2⟩:=s3.o;go_upto_region 22 with (go_at_call 61;(with_reducible refine (kc.out 7 _).mono ?_);rintro _ v ⟨rfl,rfl⟩)
  refine Ap.gen (G:=fun v'=>Code.wp _ _ _ _ v') s3 ?_;clear c2 e0 e1 e2 s3;intro wz sz;have ab:(smL b 7 (0) (0) (0) none [] ⟨0,0,0⟩ ⟨1+(n:Int)%3,1,n/3%3⟩ (some ⟨gb,0,none⟩) [43]).op.ok:=Fa hb ⟨by decide,by decide⟩ ⟨by omega,by omega⟩ ⟨by omega,by omega⟩ ⟨by omega,by omega⟩ ⟨by simp,(fun x hx=>absurd hx Am6)⟩ (C3 _ _ _ ⟨by omega,by omega⟩ ⟨by omega,by omega⟩ (by show _<_;omega)) (C3 _ _ _ ⟨by omega,by omega⟩ ⟨by omega,by omega⟩ (by show _<_;omega)) (by simp);have aa:(smL b 7 (0) (0) (0) none [] ⟨0,0,0⟩ ⟨1+(n:Int)%3,1,n/3%3⟩ (some ⟨gb,0,none⟩) [43]).by_=b:=rfl;generalize smL b 7 (0) (0) (0) none [] ⟨0,0,0⟩ ⟨1+(n:Int)%3,1,n/3%3⟩ (some ⟨gb,0,none⟩) [43]=y at*
 rotate_left
 focus
  have n8:(n:Int)%8=7:=by omega
  obtain ⟨q2,z2⟩:=(s0.alloc (.cells zK 3)).q 2 (x:=.int .i64 0) rfl;go_upto_region 3 with (fail)
  refine Ap.gen (G:=fun v'=>Code.wp _ _ _ _ v') ((s0.alloc (.cells zK 3)).set (k':=13) (b':=b) (d':=0) (ol':=0) (ro':=0) (ep':=⟨0,0,0⟩) (of':=⟨0,0,0⟩) 2 (.int .i64 13)) ?_;clear q2 z2 s0;intro w1 s1;obtain ⟨ae,ai⟩:=s1.q 16 (x:=.int .i64 0) rfl;obtain ⟨ag,ad⟩:=s1.q 17 (x:=.int .i64 0) rfl;obtain ⟨af,ah⟩:=s1.q 18 (x:=.int .u64 0) rfl;have c2:=(s1.q 2 (x:=.int .i64 13) rfl).1;obtain ⟨e0,e1,e2⟩:=s1.o;go_upto_region 17 with (fail)
  refine Ap.gen (G:=fun v'=>Code.wp _ _ _ _ v') (((s1.set (b':=b) (k':=13) (d':=0) (ol':=0) (ro':=0) (ep':=⟨0,0,0⟩) (of':=⟨1+(n:Int)%3,0,0⟩) 16 (.int .i64 (1+(n:Int)%3))).set (b':=b) (k':=13) (d':=0) (ol':=0) (ro':=0) (ep':=⟨0,0,0⟩) (of':=⟨1+(n:Int)%3,1,0⟩) 17 (.int .i64 1)).set (b':=b) (k':=13) (d':=0) (ol':=0) (ro':=0) (ep':=⟨0,0,0⟩) (of':=⟨1+(n:Int)%3,1,n/3%3⟩) 18 (.int .u64 ((n:Int)/3%3))) ?_;clear c2 e0 e1 e2 s1 ae ai ag ad af ah;intro w2 s2;obtain ⟨q5,z5⟩:=s2.q 5 (x:=.int .i64 0) rfl;have c2:=(s2.q 2 (x:=.int .i64 13) rfl).1;obtain ⟨e0,e1,e2⟩:=s2.o;go_upto_region 18 with (fail)
  refine Ap.gen (G:=fun v'=>Code.wp _ _ _ _ v') (s2.set (b':=b) (k':=13) (d':=1+(n:Int)/8%5) (ol':=0) (ro':=0) (ep':=⟨0,0,0⟩) (of':=⟨1+(n:Int)%3,1,n/3%3⟩) 5 (.int .i64 (1+(n:Int)/8%5))) ?_;clear c2 e0 e1 e2 s2 q5 z5;intro w3 s3;obtain ⟨q6,z6⟩:=s3.q 6 (x:=.int .i64 0) rfl;have c2:=(s3.q 2 (x:=.int .i64 13) rfl).1;obtain ⟨e0,e1,e2⟩:=s3.o;go_upto_region 21 with (fail)
  refine Ap.gen (G:=fun v'=>Code.wp _ _ _ _ v') (s3.set (b':=b) (k':=13) (d':=1+(n:Int)/8%5) (ol':=1+(n:Int)/40%5) (ro':=0) (ep':=⟨0,0,0⟩) (of':=⟨1+(n:Int)%3,1,n/3%3⟩) 6 (.int .i64 (1+(n:Int)/40%5))) ?_;clear c2 e0 e1 e2 s3 q6 z6;intro w4 s4;have c2:=(s4.q 2 (x:=.int .i64 13) rfl).1;obtain ⟨e0,e1,e2⟩:=s4.o;go_upto_region 22 with (go_at_call 61;(with_reducible refine (kc.out 13 _).mono ?_);rintro _ v ⟨rfl,rfl⟩)
  obtain ⟨q9,z9⟩:=(s4.alloc (.cells #[.int .u64 (1+(n:Int)/8%90),.slice none 0 0] 71)).q 9 (x:=.slice none 0 0) rfl;go_upto_region 24 with (fail)
  refine Ap.gen (G:=fun v'=>Code.wp _ _ _ _ v') (s4.path (1+n/8%90) (1+(n:Int)/8%90) (by omega)) ?_;generalize w4.heap.size=gp;clear c2 e0 e1 e2 q9 z9 s4;intro wz sz;have ab:(smL b 13 (1+(n:Int)/8%5) (1+(n:Int)/40%5) (0) (some ⟨gp,0,none⟩) [⟨1+n/8%90,none,0,[]⟩] ⟨0,0,0⟩ ⟨1+(n:Int)%3,1,n/3%3⟩ none []).op.ok:=Fa hb ⟨by decide,by decide⟩ ⟨by omega,by omega⟩ ⟨by omega,by omega⟩ ⟨by omega,by omega⟩ ⟨by simp,(fun x hx=>by rw [An0] at hx;subst hx;exact Gk _ (by omega))⟩ (C3 _ _ _ ⟨by omega,by omega⟩ ⟨by omega,by omega⟩ (by show _<_;omega)) (C3 _ _ _ ⟨by omega,by omega⟩ ⟨by omega,by omega⟩ (by show _<_;omega)) (by simp);have aa:(smL b 13 (1+(n:Int)/8%5) (1+(n:Int)/40%5) (0) (some ⟨gp,0,none⟩) [⟨1+n/8%90,none,0,[]⟩] ⟨0,0,0⟩ ⟨1+(n:Int)%3,1,n/3%3⟩ none []).by_=b:=rfl;generalize smL b 13 (1+(n:Int)/8%5) (1+(n:Int)/40%5) (0) (some ⟨gp,0,none⟩) [⟨1+n/8%90,none,0,[]⟩] ⟨0,0,0⟩ ⟨1+(n:Int)%3,1,n/3%3⟩ none []=y at*
 all_goals
  have ao:=Bm y;have ak:(Tryz.prog.info? 44).map (·.size)=some y.cells.size:=hi;have bz:=sz.b;have rz:=sz.r;have hd:=Lib.hid (fun wq hq=>aj.out y wz wq aa ab sz.own sz.f hq);clear aj ab aa sz;generalize y.cells=CS at*;have hl:=Aq (P:=Tryz.prog) w.heap.size 44 Tryz.underlying44 rfl ak;have a2:=Bf (P:=Tryz.prog) (w.heap.size+1) 44 ak (old:=OpL.zero.cells) (by have h:=hi;rw [ak] at h;injection h with h;rw [h];rfl) ao;go_wp2_with (fail);have ar:=rz.setRow (cs:=CS);have aw:=Lib.hid (hd.out _ ((Fr.refl (One (w.heap.size+1)) wz).setRow (g:=w.heap.size+1) (fun _=>rfl) CS))
  (try simp only [Exit.inBlock,Exit.then])
  refine Cu (t:=44) rfl rfl ar rfl Tryz.underlying44 ak rfl ?_;exact aw.out
end Oq
end
section
open Go.RowKit
namespace Oq
def Jg (d a v:Int):Op:={base d 1 1 a [] [⟨5,[]⟩] with need:=v}
theorem Ah9 {d a:Int} (hd:1≤d∧d≤12) (ha:0≤a∧a≤2147483647):Pre d 1 1 a [] [⟨5,[]⟩]:=by
 refine ⟨⟨by omega,by omega⟩,hd,⟨by omega,by omega⟩,ha,⟨by simp,by simp,List.Pairwise.nil,by simp⟩,⟨by simp,?_,.inr rfl⟩⟩;intro x hx;rw [An0] at hx;subst hx;exact ⟨⟨by decide,by decide⟩,by simp,by simp⟩
theorem Ai0 {d a v:Int} (hd:1≤d∧d≤12) (ha:0≤a∧a≤2147483647) (hv:0≤v∧v≤20):(Jg d a v).chk=0:=
 Ns (Ah9 hd ha) (by unfold inR;simp;omega)
theorem Ai1 {cards:List Cd} {d a v:Int} {c:Cd} (hd:1≤d∧d≤12) (ha:0≤a∧a≤2147483647) (hv:0≤v∧v≤20) (hc:Bj cards d=some c) (hs:c.s=Sg.pub (sec Bb d.toNat)):Ag cards [] (sgn (Jg d a v))=0:=by
 refine Gz (c:=c) (Ai0 hd ha hv) rfl (by simp) hc hs (.inr rfl) rfl ?_ ?_ ?_
 ·
  unfold clash;rw [List.any_eq_false];intro q _;simp [Bw,Jg,base]
 ·
  show (0:Int)≤a;exact ha.1
 ·
  unfold Ay;show (decide ((1:Int)≤0)||(decide ((1:Int)<1)&&_))=false;rfl
theorem Ss {cards:List Cd} {l:List Pn} (h:Rows cards l) (hok:∀n∈l,n.o.ok∧n.id.ok) {id:Id} (hp:(plc l id).isSome=true):id.ok∧1≤id.s∧id.s≤2147483647:=by
 cases hq:plc l id with
 |none=>rw [hq] at hp;cases hp
 |some i=>
  obtain ⟨n,hn,e⟩:=Dj hq;have k:=h.ok i n hn;have h1:=hok n (An2 hn);have h2:=Sj k.chk
  have h3:id.s=n.o.sq:=by
   rw [← e,k.id];rfl
  exact ⟨e▸h1.2,by omega,by omega⟩
theorem Ai2 {cards:List Cd} {l:List Pn} (h:Rows cards l) (ids:List Id):0≤late l ids∧late l ids≤2147483647:=by
 have hat:∀n∈l,n.o.at_≤2147483647:=by
  intro n hn;obtain ⟨i,hi⟩:=List.getElem?_of_mem hn;have h1:=(chk_ok.1 (h.ok i n hi).chk).2.2.1;unfold Op.numsB at h1;simp only [An6] at h1;have h3:=h1.1.2;unfold inR at h3;simp only [An6,decide_eq_true_eq] at h3;exact h3.2
 refine ⟨?_,Xd l _ (by omega) hat ids⟩;unfold late
 have mono:∀(r:List Id) (t:Int),t≤r.foldl (fun t id=>max t (Cb l id)) t:=by
  intro r
  induction r with
  |nil=>intro t;exact Int.le_refl _
  |cons y r ih=>intro t;exact Int.le_trans (Int.le_max_left _ _) (ih _)
 exact mono ids 0
theorem St {l:List Pn} {above ids:List Id}:∀(k:Nat) (id:Id),id∈Ca l above ids k→id∈ids∧(plc l id).isSome=true∧Bh above id=false
 |0,id,h=>absurd h Am6
 |k+1,id,h=>by
  have ih:=St (l:=l) (above:=above) (ids:=ids) k id;unfold Ca at h
  split at h
  ·
   rename_i y hy
   split at h
   ·
    rename_i hc;simp only [An6,Bool.not_eq_true'] at hc
    rcases List.mem_append.1 h with h1|h1
    · exact ih h1
    ·
     rw [An0] at h1;rw [h1];exact ⟨An2 hy,hc.1.1,hc.1.2⟩
   · exact ih h
  · exact ih h
theorem Ai3 {l:List Pn} {ids:List Id} {id:Id} (h:id∈E8 l ids):id∈ids∧(plc l id).isSome=true∧Bh (Cp l ids) id=false:=
 St _ id ((Di _).subset h)
theorem Ai4 (l:List Pn) (ids:List Id):(E8 l ids).length≤ids.length:=by
 unfold E8;rw [Ej];exact Ls _ _ _ _
theorem Su {α:Type} [DecidableEq α]:∀{l m:List α},l.Nodup→(∀x∈l,x∈m)→l.length≤m.length
 |[],_,_,_=>Am7 _
 |a::l,m,h,hs=>by
  have ha:=hs a (List.mem_cons_self);have hn:=List.nodup_cons.1 h
  have ih:=Su (l:=l) (m:=m.erase a) hn.2 (fun x hx=>by
   have h1:=hs x (List.mem_cons_of_mem _ hx);have h2:x≠a:=fun e=>hn.1 (e▸hx);exact (List.mem_erase_of_ne h2).2 h1)
  rw [List.length_erase_of_mem ha] at ih;have hp:=List.length_pos_of_mem ha;show l.length+1≤_;omega
theorem Ai5 {cards:List Cd} {l:List Pn} (_h:Rows cards l) {cs:List Id} (hc:Ed l cs):cs.length≤l.length:=by
 have hs:∀id∈cs,id∈l.map Pn.id:=by
  intro id hid;have h1:=hc.2 id hid
  cases hq:plc l id with
  |none=>rw [hq] at h1;cases h1
  |some i=>
   obtain ⟨n,hn,e⟩:=Dj hq;rw [← e];exact List.mem_map_of_mem (An2 hn)
 have:=Su hc.1 hs;rwa [List.length_map] at this
def nxL (y:OpL) (A:Option Addr) (c:Nat) (ids:List Id) (s a:Int):OpL:={y with pastA:=A,pastC:=c,past:=ids,sq:=s,at_:=a}
theorem Ai6 {y:OpL} {A:Option Addr} {c:Nat} {ids:List Id} {s a:Int} (h:y.op.ok) (hi:ids.length≤1000∧∀x∈ids,x.ok) (hs:I64 s) (ha:I64 a):(nxL y A c ids s a).op.ok where
 by_:=h.by_
 sq:=hs
 kind:=h.kind
 at_:=ha
 past:=hi
 dev:=h.dev
 old:=h.old
 mem:=h.mem
 role:=h.role
 path:=h.path
 epoch:=h.epoch
 n:=h.n
 body:=h.body
 refs:=h.refs
 of:=h.of
 guards:=h.guards
 need:=h.need
 wait:=h.wait
 boxes:=h.boxes
 pub:=h.pub
 hist:=h.hist
 r:=h.r
 s:=h.s
theorem Ai7 {y:OpL} {A:Option Addr} {c:Nat} {ids:List Id} {s a:Int} {w:World} {base:Nat} (h:y.own w base) (hi:RowAt w base 36 3 A ids.length c (ids.flatMap Id.cells)):(nxL y A c ids s a).own w base:=
 ⟨hi,h.path,h.nodes,h.body,h.refs,h.guards,h.boxes,h.hist,h.seals⟩
def fsL (d a v:Int) (A:Option Addr):OpL:={OpL.zero with by_:=d,sq:=1,kind:=1,at_:=a,pathA:=A,pathC:=1,path:=[⟨5,none,0,[]⟩],need:=v}
theorem Ai8 {d a v:Int} {A:Option Addr} (hd:I64 d) (ha:I64 a) (hv:I64 v):(fsL d a v A).op.ok:=
 ⟨hd,(show I64 1 from ⟨by decide,by decide⟩),(show I64 1 from ⟨by decide,by decide⟩),ha,⟨Am7 _,fun _ h=>absurd h Am6⟩,z64,z64,z64,z64,⟨by show (1:Nat)≤1000;decide,fun x hx=>by obtain rfl:=List.mem_singleton.1 hx;exact Gk 5 (by decide)⟩,⟨z64,z64,E9⟩,z64,Am7 _,⟨Am7 _,fun _ h=>absurd h Am6⟩,⟨z64,z64,E9⟩,
  ⟨Am7 _,fun _ h=>absurd h Am6⟩,hv,z64,⟨Am7 _,fun _ h=>absurd h Am6⟩,E9,⟨Am7 _,fun _ h=>absurd h Am6⟩,E9,E9⟩
theorem Ai9 {d a v:Int} {A:Option Addr} {w:World} {base:Nat} (h:RowAt w base 71 2 A 1 1 (([⟨5,none,0,[]⟩]:List NdL).flatMap NdL.cells)):(fsL d a v A).own w base:=
 ⟨RowAt.nil _ _ _ _,h,(fun y hy=>by obtain rfl:=List.mem_singleton.1 hy;exact RowAt.nil _ _ _ _),RowAt.nil _ _ _ _,RowAt.nil _ _ _ _,RowAt.nil _ _ _ _,RowAt.nil _ _ _ _,RowAt.nil _ _ _ _,(fun _ h=>absurd h Am6)⟩
theorem OpL.own.opBlk {x:OpL} {w w':World} {base g:Nat} {cs:Array Value} (h:x.own w base) (hb:Blk w g 44 cs) (hf:Fr (One g) w w'):x.own w' base:=
 h.keepP hf (Types.one hb) (by decide) (by decide) (by decide) (by decide) (by decide) (by decide) (by decide)
theorem Lx {w:World} {g i:Nat} (u:Value):Fr (One g) w (w.setCell ⟨g,i,none⟩ u):=(Fr.refl (One g) w).setCell (p:=⟨g,i,none⟩) (fun _=>rfl) u
theorem Bp {w:World} {g:Nat} (cs:Array Value):Fr (One g) w (w.setRow g cs):=(Fr.refl (One g) w).setRow (fun _=>rfl) cs
def Ly (o:Op) (base:Nat) (w:World) (e:Ending) (w':World):Prop:=∃y:OpL,e=.returned (.agg y.cells)∧y.op=sgn o∧y.own w' base∧Fr Non w w'
theorem Sv (x:OpL) (d base:Nat) (w:World) (hd:x.by_=(d:Int)) (hd':d≤1000) (ho:x.own w base) (hok:x.op.ok):
  Calls Tryz.prog 28 #[.agg x.cells] w (Ly x.op base w):=by
 have h:=Ic x d w (by rw [hd,IntKind.wrap_u64];omega) (by omega) ho.at hok;refine Calls.mono h ?_;rintro r w' ⟨h1,h2⟩;exact ⟨_,h1,I1 x x.op rfl d (by show x.by_.toNat=d;omega) _ rfl,Lf (ho.non h2) _ _,h2⟩
theorem Aj0 {cards:List Cd} (hc:cards=Ba 0 [1,2,3,1]) {d:Int} (hd:1≤d∧d≤4):∃c,Bj cards d=some c∧c.s=Sg.pub (sec Bb d.toNat):=by
 subst hc;have h4:d=1∨d=2∨d=3∨d=4:=by omega
 rcases h4 with rfl|rfl|rfl|rfl
 · exact ⟨Bt 0 1,rfl,rfl⟩
 · exact ⟨Bt 1 2,rfl,rfl⟩
 · exact ⟨Bt 2 3,rfl,rfl⟩
 · exact ⟨Bt 3 1,rfl,rfl⟩
theorem Aj1 {cards:List Cd} (hc:cards=Ba 0 [1,2,3,1]) {d a v:Int} (hd:1≤d∧d≤4) (ha:0≤a∧a≤4) (hv:0≤v∧v≤4):Ag cards [] (sgn (Jg d a v))=0:=by
 obtain ⟨c,h1,h2⟩:=Aj0 hc hd;exact Ai1 ⟨by omega,by omega⟩ ⟨by omega,by omega⟩ ⟨by omega,by omega⟩ h1 h2
def FewN (o:Op):Prop:=o.past.length≤500∧1≤o.by_∧o.by_≤4
theorem FewN.sgn {o:Op} (h:FewN o):FewN (sgn o):=by
 unfold FewN at*;rw [Rb,I0];exact h
def Lz (cards:List Cd) (l:List Pn) (w:World) (e:Ending) (w':World):Prop:=
 ∃y:OpL,e=.returned (.agg y.cells)∧y.op.ok∧y.own w' w.heap.size∧Fr Non w w'∧(l=[]→Ag cards [] y.op=0)∧FewN y.op
end Oq
end
section
open Go.RowKit
attribute [local go_sem ↓] Go.wp_at_zero Go.wp_at_succ
namespace Oq
attribute [local go_sem] Bool.not_false Bool.not_true
attribute [local go_sem ↓] Ch Ea Ei
theorem Aj2 {x:OpL} {w:World} {base:Nat} (h:x.lies w base) (R S:Nat):({x with r:=R,s:=S}:OpL).lies w base:=⟨h.past,h.path,h.nodes,h.body,h.refs,h.guards,h.boxes,h.hist,h.seals⟩
def Sw (o:Op) (base:Nat) (w:World) (e:Ending) (w':World):Prop:=∃y:OpL,e=.returned (.agg y.cells)∧y.op=sgn o∧y.lies w' base∧Fr Non w w'
theorem Aj3 (x:OpL) (d base:Nat) (w:World) (hd:x.by_=(d:Int)) (hd':d≤1000) (ho:x.lies w base) (hok:x.op.ok):
  Calls Tryz.prog 28 #[.agg x.cells] w (Sw x.op base w):=by
 have h:=Ic x d w (by rw [hd,IntKind.wrap_u64];omega) (by omega) ho.at hok;refine Calls.mono h ?_;rintro r w' ⟨h1,h2⟩;exact ⟨_,h1,I1 x x.op rfl d (by show x.by_.toNat=d;omega) _ rfl,Aj2 (ho.non h2) _ _,h2⟩
def RgB (w:World) (b o:Nat) (l:List Value):Prop:=An7 w b o l
theorem RgB.fr {S:Nat→Prop} {w w':World} {b o:Nat} {l:List Value} (h:RgB w b o l) (hf:Fr S w w') (hb:¬S b):RgB w' b o l:=fun k v hv=>hf.cell (h k v hv) hb
structure Bst (w v:World) (base:Nat) (CS:Array Value) (y:OpL):Prop where
 g:Blk v w.heap.size 29 CS
 b:Blk v (w.heap.size+1) 44 y.cells
 r:Blk v (w.heap.size+1+1) 44 OpL.zero.cells
 f:Fr Non w v
 sz:w.heap.size+3≤v.heap.size
 lies:y.lies v base
 ok:y.op.ok
 dev:∃d:Nat,y.by_=(d:Int)∧d≤1000
theorem Bst.put {w v:World} {base:Nat} {CS:Array Value} {y:OpL} (s:Bst w v base CS y) (j:Nat) (u:Value) (y':OpL) (hc:y.cells.setIfInBounds j u=y'.cells) (hl:∀v',y.lies v' base→y'.lies v' base) (hk:y'.op.ok) (hd:∃d:Nat,y'.by_=(d:Int)∧d≤1000):
  Bst w (v.setCell ⟨w.heap.size+1,j,none⟩ u) base CS y' where
 g:=s.g.far (p:=⟨w.heap.size+1,j,none⟩) (by show w.heap.size≠w.heap.size+1;omega) u
 b:=hc▸s.b.set j u
 r:=s.r.far (p:=⟨w.heap.size+1,j,none⟩) (by show w.heap.size+1+1≠w.heap.size+1;omega) u
 f:=s.f.setNew (g:=w.heap.size+1) (by omega) j u
 sz:=by have:=s.sz;first|exact this|(simp [An5];omega)
 lies:=hl _ (s.lies.keepP ((Fr.refl (One (w.heap.size+1)) v).setOne j u) (Types.one s.b) (by decide) (by decide) (by decide) (by decide) (by decide) (by decide) (by decide))
 ok:=hk
 dev:=hd
theorem Bst.non {w v v':World} {base:Nat} {CS:Array Value} {y:OpL} (s:Bst w v base CS y) (hf:Fr Non v v'):Bst w v' base CS y:=
 ⟨s.g.fr hf zq,s.b.fr hf zq,s.r.fr hf zq,s.f.trans hf zr,An8 s.sz hf.size,s.lies.non hf,s.ok,s.dev⟩
theorem Bst.past {w v:World} {base:Nat} {CS:Array Value} {y:OpL} (s:Bst w v base CS y) {A:Option Addr} {n c:Nat} {ps:List Id} (hn:ps.length=n) (ho:RowLies v base 36 3 A n c (ps.flatMap Id.cells)) (hk:ps.length≤1000∧∀x∈ps,x.ok):
  Bst w (v.setCell ⟨w.heap.size+1,4,none⟩ (.slice A n c)) base CS (y.past! A c ps) where
 g:=s.g.far (p:=⟨w.heap.size+1,4,none⟩) (by show w.heap.size≠w.heap.size+1;omega) _
 b:=by subst hn;exact s.b.set 4 (.slice A ps.length c)
 r:=s.r.far (p:=⟨w.heap.size+1,4,none⟩) (by show w.heap.size+1+1≠w.heap.size+1;omega) _
 f:=s.f.setNew (g:=w.heap.size+1) (by omega) 4 _
 sz:=by have:=s.sz;first|exact this|(simp [An5];omega)
 lies:=by subst hn;exact ((s.lies.past! ho).keepP ((Fr.refl (One (w.heap.size+1)) v).setOne 4 _) (Types.one s.b) (by decide) (by decide) (by decide) (by decide) (by decide) (by decide) (by decide))
 ok:={s.ok with past:=hk}
 dev:=s.dev
theorem RowLies.tail {w:World} {base:Nat} {t:TypeId} {A:Option Addr} {n c:Nat} {xs:List Value} (h:RowLies w base t 3 A n c xs):
  RowLies w base t 3 (if c=1 then A else A.map (fun x=>⟨x.block,x.off+3,none⟩)) (n-1) (c-1) (xs.drop 3):=by
 obtain ⟨⟨⟨h1,h2⟩,h3,h5⟩,h4⟩:=h;have hl:(xs.drop 3).length=(n-1)*3:=by rw [An9,h1];omega
 by_cases h0:n-1=0
 · exact ⟨⟨⟨hl,.inl h0⟩,by omega,by omega⟩,.inl h0⟩
 ·
  have hc1:¬c=1:=by omega
  rw [if_neg hc1]
  rcases h4 with h4|⟨k,off,cs,fr,rfl,hk,hb⟩
  · omega
  ·
   have e1:n-1≤c-1:=Nat.sub_le_sub_right h3 1;have e2:c-1≤9223372036854775807:=An8 (Nat.sub_le _ _) h5;refine ⟨⟨⟨hl,?_⟩,e1,e2⟩,.inr ⟨k,off+3,cs,fr,rfl,hk,hb⟩⟩
   rcases h2 with h2|⟨b,o,e,hlt,hc⟩
   · omega
   ·
    injection e with e
    injection e with e1 e2
    subst e1 e2;refine .inr ⟨k,off+3,rfl,hlt,fun j u hu=> ?_⟩;rw [List.getElem?_drop] at hu;have:=hc _ u hu;rw [← Nat.add_assoc] at this;exact this
theorem Aj4 (l:List Id):(l.drop 1).flatMap Id.cells=(l.flatMap Id.cells).drop 3:=by
 cases l with
 |nil=>rfl
 |cons a t=>rfl
theorem Bst.sorted {w w0 w3:World} {base B:Nat} {CS:Array Value} {y:OpL} (s:Bst w w0 base CS y) (hb:base≤w.heap.size) (hB:w0.heap.size≤B) (hpl:y.past.length≤500) (i:Id) (hi:i.ok) (hf:Fr Non w0 w3) {A:Option Addr} {n c:Nat} (hn:(i::y.past).length=n) (ho:Own w3 B 36 3 A n c ((Am (i::y.past)).flatMap Id.cells)):
  ∃z:OpL,Bst w (w3.setCell ⟨w.heap.size+1,4,none⟩ (.slice A n c)) base CS z:=by
 have hsz:=s.sz;have hl:(Am (i::y.past)).length=n:=by rw [Ej];exact hn
 refine ⟨_,(s.non hf).past hl ((RowAt.of_own ho).lies.lower (by omega)) ⟨by rw [Ej];simp;omega,fun x hx=> ?_⟩⟩
 rcases List.mem_cons.1 ((Di _).mem_iff.1 hx) with rfl|h
 · exact hi
 · exact s.ok.past.2 x h
def Jh (base:Nat) (w:World) (e:Ending) (w':World):Prop:=∃y:OpL,e=.returned (.agg y.cells)∧y.op.ok∧y.lies w' base∧Fr Non w w'
theorem Aj5 {w v:World} {base:Nat} {CS:Array Value} {y z:OpL} (s:Bst w v base CS y) (hz:z.lies v base) (hk:z.op.ok):Jh base w (.returned (.agg z.cells)) (v.setRow (w.heap.size+1+1) z.cells):=by
 refine ⟨z,rfl,hk,?_,s.f.trans (Bp z.cells) (fun k hk e=>absurd hk (by have e2:k=w.heap.size+1+1:=e;omega))⟩;exact hz.keepP (Bp z.cells) (Types.one s.r) (by decide) (by decide) (by decide) (by decide) (by decide) (by decide) (by decide)
theorem Aj6 (base:Nat) (r:RG) (x:OpL) (how n:Int) (w:World) (h:r.own w base) (hx:x.lies w base) (hb:base≤w.heap.size) (hok:x.op.ok) (hfew:FewN x.op) (hhow:I64 how) (hn:I64 n):
  Calls Tryz.prog 7 #[.agg r.cells,.agg x.cells,.int .i64 how,.int .i64 n] w (Jh base w):=by
 have hi:(Tryz.prog.info? 44).map (·.size)=some OpL.zero.cells.size:=by rw [show OpL.zero.cells.size=27 from rfl];kernel_rfl
 have s0:Bst w (((w.alloc (.cells r.cells 29)).alloc (.cells x.cells 44)).alloc (.cells OpL.zero.cells 44)) base r.cells x:=by
  have f0:Fr Non w (((w.alloc (.cells r.cells 29)).alloc (.cells x.cells 44)).alloc (.cells OpL.zero.cells 44)):=(((Fr.refl Non w).alloc _).alloc _).alloc _;have b1:=(Blk.new (w.alloc (.cells r.cells 29)) 44 x.cells).alloc (.cells OpL.zero.cells 44);have b2:=Blk.new ((w.alloc (.cells r.cells 29)).alloc (.cells x.cells 44)) 44 OpL.zero.cells;simp only [Am8] at b1 b2;refine ⟨((Blk.new w 29 r.cells).alloc _).alloc _,b1,b2,f0,by simp only [Am8];omega,hx.non f0,hok,⟨x.by_.toNat,?_,?_⟩⟩
  ·
   have h1:1≤x.by_:=hfew.2.1;omega
  ·
   have h1:x.by_≤4:=hfew.2.2;omega
 have a7:x.past.length≤500:=hfew.1;have bz:=Lib.hid hok.past;have ab:=hok;have ag:=Lib.hid (fun (p:Nat) (hp:p<r.l.length)=>h.idAt hp)
 have af:=Lib.hid (fun (i:Nat) (nd:Pn) (hi:r.l[i]? =some nd)=>show ∃(x:OpL) (bx ox:Nat),x.op.ok∧x.lies w base∧r.lA=some ⟨bx,ox,none⟩∧An7 w bx (ox+i*27) x.cells.toList from by
  obtain ⟨x,bx,ox,_,h1,h2,h3,_,h4⟩:=h.xAt hi;exact ⟨x,bx,ox,by rw [h1];exact (h.ok nd (An2 hi)).1,h2,h3,fun k v hv=>h4 k (List.getElem?_eq_some_iff.1 hv).1 v hv⟩)
 have aq:Hid (∀n∈r.l,n.id.ok):=fun n hn=>(h.ok n hn).2;have g1:r.cells[1]? =some (.slice r.lA r.l.length r.lC):=rfl;have g2:r.cells[2]? =some (.slice r.iA r.l.length r.iC):=rfl;have ap:=h.few;have ao:=Lib.hid (fun w'=>Hc n 1000000 w' hn.1 hn.2 (by decide) (by decide));have au:=Lib.hid (fun w'=>Hc how 12 w' hhow.1 hhow.2 (by decide) (by decide));obtain ⟨cp,cx⟩:=Hb (n:=n) (m:=1000000) (by decide);obtain ⟨cd,cj⟩:=Hb (n:=how) (m:=12) (by decide);obtain ⟨k,bu⟩:∃k:Nat,Cy n 1000000=(k:Int):=⟨(Cy n 1000000).toNat,by omega⟩;rw [bu] at ao cx;generalize Cy how 12=m at*;have aa:=Lib.hid (fun (v:World) (y z:OpL) (s:Bst w v base r.cells y)=>Aj5 (z:=z) s);generalize hP:Jh base w=POST at*;clear h hx hok hfew hhow hn bu cp;go_enter Tryz.func7,Tryz.ntmps7;go_upto_region 1 with (fail)
 show Code.wp _ _ _ _ (((w.alloc (.cells r.cells 29)).alloc (.cells x.cells 44)).alloc (.cells OpL.zero.cells 44));generalize ((w.alloc (.cells r.cells 29)).alloc (.cells x.cells 44)).alloc (.cells OpL.zero.cells 44)=w0 at*
 go_upto_block 0 with (first
  |(go_at_call 26;(first|(with_reducible refine (ao.out _).mono ?_;rintro _ wz ⟨rfl,rfl⟩)|(with_reducible refine (au.out _).mono ?_;rintro _ wz ⟨rfl,rfl⟩))))
 have a3:m=0∨m=1∨m=2∨m=3∨m=4∨m=5∨m=6∨m=7∨m=8∨m=9∨m=10∨m=11:=by omega
 go_cut [] (fun wc=>∃y:OpL,Bst w wc base r.cells y)
 case first=>
  clear ao au cd cj
  rcases a3 with rfl|rfl|rfl|rfl|rfl|rfl|rfl|rfl|rfl|rfl|rfl|rfl
  ·
   as_aux_lemma=>
   have z:w0.cell? ⟨w.heap.size+1,0,none⟩=some _:=s0.b.cell 0;have z2:=s0.b.frozen 0;have ht:(k:Int).tmod 7=((k%7:Nat):Int):=by rw [An1 (by omega)];rfl
   clear ag af aa hP;go_wp2_with (fail);go_meet;exact ⟨{x with by_:=((k%7:Nat):Int)},s0.put 0 _ _ rfl (fun v' h=>⟨h.past,h.path,h.nodes,h.body,h.refs,h.guards,h.boxes,h.hist,h.seals⟩) {ab with by_:=(show I64 ((k%7:Nat):Int) from ⟨by omega,by omega⟩)} ⟨k%7,rfl,by omega⟩⟩
  ·
   as_aux_lemma=>
   have z:w0.cell? ⟨w.heap.size+1,1,none⟩=some _:=s0.b.cell 1;have z2:=s0.b.frozen 1;have ht:(k:Int).tmod 9=((k%9:Nat):Int):=by rw [An1 (by omega)];rfl
   clear ag af aa hP;go_wp2_with (fail);go_meet;exact ⟨{x with sq:=((k%9:Nat):Int)},s0.put 1 _ _ rfl (fun v' h=>⟨h.past,h.path,h.nodes,h.body,h.refs,h.guards,h.boxes,h.hist,h.seals⟩) {ab with sq:=(show I64 ((k%9:Nat):Int) from ⟨by omega,by omega⟩)} s0.dev⟩
  ·
   as_aux_lemma=>
   have z:w0.cell? ⟨w.heap.size+1,3,none⟩=some _:=s0.b.cell 3;have z2:=s0.b.frozen 3;have ht:(k:Int).tmod 12=((k%12:Nat):Int):=by rw [An1 (by omega)];rfl
   clear ag af aa hP;go_wp2_with (fail);go_meet;exact ⟨{x with at_:=((k%12:Nat):Int)},s0.put 3 _ _ rfl (fun v' h=>⟨h.past,h.path,h.nodes,h.body,h.refs,h.guards,h.boxes,h.hist,h.seals⟩) {ab with at_:=(show I64 ((k%12:Nat):Int) from ⟨by omega,by omega⟩)} s0.dev⟩
  ·
   as_aux_lemma=>
   have z:w0.cell? ⟨w.heap.size+1,4,none⟩=some (.slice x.pastA x.past.length x.pastC):=s0.b.cell 4;have z2:=s0.b.frozen 4;have hw:IntKind.u64.wrap (k:Int)=(k:Int):=by rw [IntKind.wrap_u64];omega
   have bk:=Blk.new w0 36 #[.int .i64 1,.int .i64 9,.int .u64 (k:Int)];have bh:=Own.blk (base:=w0.heap.size) (n:=1) (size:=3) bk (Am9 _) (by omega) rfl (by omega);have cc:=s0.lies.past.1.1.alloc (.cells #[.int .i64 1,.int .i64 9,.int .u64 (k:Int)] 36);have bn:Fr Non w0 (w0.alloc (.cells #[.int .i64 1,.int .i64 9,.int .u64 (k:Int)] 36)):=(Fr.refl Non w0).alloc _;have za:(w0.alloc (.cells #[.int .i64 1,.int .i64 9,.int .u64 (k:Int)] 36)).cell? ⟨w.heap.size+1,4,none⟩=some (.slice x.pastA x.past.length x.pastC):=bn.cell z zq;have b6:Id.ok ⟨1,9,k⟩:=⟨(⟨by decide,by decide⟩:I64 1),(⟨by decide,by decide⟩:I64 9),by show k<18446744073709551616;omega⟩;have ck:=Lib.hid s0;have av:=Lib.hid (fun (w3:World) (B:Nat) (A:Option Addr) (n c:Nat) (h1:w0.heap.size≤B) (h2:Fr Non w0 w3)=>s0.sorted (B:=B) (w3:=w3) (A:=A) (n:=n) (c:=c) hb h1 a7 ⟨1,9,k⟩ b6 h2);clear ag af aa hP s0
   go_wp2_with (first
    |(at_builtin;go_loud (refine Az (base:=w0.heap.size) (.tmp 34) (.tmp 36) 25 rfl rfl rfl rfl Cw bh cc (Id.cells_one _) (by omega) (by omega) (by rw [Am8];omega) ?_);intro A2 c2 w2 a8 cm c1;have f2:Fr Non w0 w2:=bn.trans cm (fun j hj e=>by have e':w0.heap.size=j:=Option.some.inj e;omega);have ks:=Lib.hid (Fi w2.heap.size (1+x.past.length) c2 A2 (⟨1,9,k⟩::x.past) w2 (by show _=_;rw [An3];omega) a8.rd (by omega)))
    |(go_at_call 33;(with_reducible refine (ks.out).mono ?_);rintro _ w3 ⟨A5,c5,rfl,h5,h6⟩;have f3:Fr Non w0 w3:=f2.trans h6 zr;have z3:=(ck.out.non f3).b.frozen 4;have z4:=f3.cell z zq;have hd:=Lib.hid (av.out w3 w2.heap.size A5 (1+x.past.length) c5 f2.size f3 (by rw [An3];omega) h5)))
   go_meet;exact hd.out
  ·
   as_aux_lemma=>
   obtain ⟨N,hN⟩:=Aa r.l.length;rw [hN.out] at g2 ap;have z1:=(s0.g.cell 2).trans g2;have z2:=s0.b.frozen 4;have zp:w0.cell? ⟨w.heap.size+1,4,none⟩=some (.slice x.pastA x.past.length x.pastC):=s0.b.cell 4;have ar:=Lib.hid s0
   by_cases hNz:N=0
   ·
    subst hNz;clear ag af aa hP s0;go_upto_region 12 with (fail)
    have G0:=z1;have P0:=zp;refine wp_region_held_drew (S:=fun w'=>w'.cell? ⟨w.heap.size,2,none⟩=some (.slice r.iA 0 r.iC)∧w'.cell? ⟨w.heap.size+1,4,none⟩=some (.slice x.pastA x.past.length x.pastC)) (by kernel_rfl) ⟨G0,P0⟩ (fun hHeld=> ?_);clear hHeld;refine tkH 0 ⟨G0,P0⟩ (h:=tkH 1 ⟨G0,P0⟩ (h:=tkH 2 ⟨G0,P0⟩ (h:=tkH 3 ⟨G0,P0⟩ (h:=tkH 4 ⟨G0,P0⟩ (h:=skH 5 ⟨G0,P0⟩ (h:=skH 6 ⟨G0,P0⟩ (h:=skH 7 ⟨G0,P0⟩ (h:=skH 8 ⟨G0,P0⟩ (h:=skH 9 ⟨G0,P0⟩ (h:=skH 10 ⟨G0,P0⟩ (h:=skH 11 ⟨G0,P0⟩ (h:=?_))))))))))));simp only [List.set];refine skH 12 ⟨G0,P0⟩ (h:=skH 13 ⟨G0,P0⟩ (h:=skH 14 ⟨G0,P0⟩ (h:=skH 15 ⟨G0,P0⟩ (h:=skH 16 ⟨G0,P0⟩ (h:=skH 17 ⟨G0,P0⟩ (h:=tkH 18 ⟨G0,P0⟩ (h:=?_)))))));simp only [List.set];refine oD ?_;go_simp;go_wp2_with (fail);go_meet;exact ⟨x,ar.out.non ((Fr.refl Non w0).drew)⟩
   ·
    have t1:decide ((N:Int)>0)=true:=decide_eq_true (by omega);have c0:decide (0<N)=true:=decide_eq_true (by omega);have ht:(k:Int).tmod (N:Int)=((k%N:Nat):Int):=by rw [An1 (by omega)];rfl
    have ax:k%N<N:=Nat.mod_lt _ (by omega);obtain ⟨m0,bi,oi,hm,bo,i0,i1,i2⟩:=ag.out (k%N) (by rw [hN.out];exact ax);have a1:Hid (m0.id.ok):=aq.out m0 (An2 hm);obtain ⟨p,hp⟩:∃p:Nat,k%N=p:=⟨_,rfl⟩;rw [hp] at ht ax i0 i1 i2;rw [bo] at z1;have p1:(0:Int)≤p:=by omega
    have p2:(p:Int)<N:=by omega
    have p3:(p:Int).toNat=p:=by omega
    have ct:¬(N:Int)=0:=by omega
    have G0:=z1;have P0:=zp;have F0:Fr Non w0 w0.drew:=(Fr.refl Non w0).drew;have ac:w0.cell? ⟨bi,oi+p*3,none⟩=some (.int .i64 m0.id.b):=s0.f.cell i0 zq;have ae:w0.cell? ⟨bi,oi+p*3+1,none⟩=some (.int .i64 m0.id.s):=s0.f.cell i1 zq;have ad:w0.cell? ⟨bi,oi+p*3+2,none⟩=some (.int .u64 (m0.id.u:Int)):=s0.f.cell i2 zq;have cy:x.past.length≤1000000:=by omega
    have kH:=Lib.hid (Hj w0.heap.size x.past.length x.pastC x.pastA x.past m0.id w0.drew rfl s0.lies.past.1.1.drew cy);have av:=Lib.hid (fun (w3:World) (B:Nat) (A:Option Addr) (n c:Nat) (h1:w0.heap.size≤B) (h2:Fr Non w0 w3)=>s0.sorted (B:=B) (w3:=w3) (A:=A) (n:=n) (c:=c) hb h1 a7 m0.id a1.out h2);have co:=Lib.hid s0.lies.past.1.1;clear ag af aa hP s0 hm i0 i1 i2 ax a1 bo;generalize Bh x.past m0.id=bb at*;generalize m0.id=y at*;go_upto_region 12 with (fail)
    refine wp_region_held_drew (S:=fun w'=>w'.cell? ⟨w.heap.size,2,none⟩=some (.slice (some ⟨bi,oi,none⟩) N r.iC)∧w'.cell? ⟨w.heap.size+1,4,none⟩=some (.slice x.pastA x.past.length x.pastC)∧w'.cell? ⟨bi,oi+p*3,none⟩=some (.int .i64 y.b)∧w'.cell? ⟨bi,oi+p*3+1,none⟩=some (.int .i64 y.s)∧w'.cell? ⟨bi,oi+p*3+2,none⟩=some (.int .u64 (y.u:Int))) (by kernel_rfl) ⟨G0,P0,ac,ae,ad⟩ (fun hHeld=> ?_);clear hHeld;refine tkH 0 ⟨G0,P0,ac,ae,ad⟩ (h:=tkH 1 ⟨G0,P0,ac,ae,ad⟩ (h:=tkH 2 ⟨G0,P0,ac,ae,ad⟩ (h:=tkH 3 ⟨G0,P0,ac,ae,ad⟩ (h:=tkH 4 ⟨G0,P0,ac,ae,ad⟩ (h:=tkH 5 ⟨G0,P0,ac,ae,ad⟩ (h:=tkH 6 ⟨G0,P0,ac,ae,ad⟩ (h:=tkH 7 ⟨G0,P0,ac,ae,ad⟩ (h:=tkH 8 ⟨G0,P0,ac,ae,ad⟩ (h:=tkH 9 ⟨G0,P0,ac,ae,ad⟩ (h:=tkH 10 ⟨G0,P0,ac,ae,ad⟩ (h:=tkH 11 ⟨G0,P0,ac,ae,ad⟩ (h:=?_))))))))))));simp only [List.set];refine tkH 12 ⟨G0,P0,ac,ae,ad⟩ (h:=tkH 13 ⟨G0,P0,ac,ae,ad⟩ (h:=tkH 14 ⟨G0,P0,ac,ae,ad⟩ (h:=tkH 15 ⟨G0,P0,ac,ae,ad⟩ (h:=?_))));simp only [List.set];refine oG 16 (fun K hK=> ?_);go_simp;go_wp2_with (go_at_call 34;(with_reducible refine (kH.out).mono ?_);rintro _ v1 ⟨rfl,cg⟩;have F1:=F0.trans cg zr;have G1:=F1.cell G0 zq;have P1:=F1.cell P0 zq;have aw:=F1.cell ac zq;have ay:=F1.cell ae zq;have az:=F1.cell ad zq);refine hK.out _ _ ⟨G1,P1,aw,ay,az⟩ (fun hZ=> ?_);clear hZ hK K;try simp only [Ab,List.set]
    refine tkH 17 ⟨G1,P1,aw,ay,az⟩ (h:=tkH 18 ⟨G1,P1,aw,ay,az⟩ (h:=?_));simp only [List.set];refine oD ?_;go_simp;generalize (!bb)=nb at*
    cases nb
    case false=>
     go_wp2_with (fail);go_meet;exact ⟨x,ar.out.non F1⟩
    case true=>
     go_upto_region 13 with (fail)
     have H0:=G1;have Q0:=P1;have bg:=aw;have bl:=ay;have bd:=az;have H4:=G1;have Q4:=P1;have al:=aw;have ak:=ay;have aj:=az;have FF:=F1;have F4:Fr Non v1 v1:=Fr.refl Non v1;clear G0 G1 P0 P1 ac aw ae ay ad az kH;refine Cq (S:=fun w'=>w'.cell? ⟨w.heap.size,2,none⟩=some (.slice (some ⟨bi,oi,none⟩) N r.iC)∧w'.cell? ⟨w.heap.size+1,4,none⟩=some (.slice x.pastA x.past.length x.pastC)∧w'.cell? ⟨bi,oi+p*3,none⟩=some (.int .i64 y.b)∧w'.cell? ⟨bi,oi+p*3+1,none⟩=some (.int .i64 y.s)∧w'.cell? ⟨bi,oi+p*3+2,none⟩=some (.int .u64 (y.u:Int))) 15 (by kernel_rfl) ?_;refine tkG 0 ⟨H4,Q4,al,ak,aj⟩ (h:=tkG 1 ⟨H4,Q4,al,ak,aj⟩ (h:=tkG 2 ⟨H4,Q4,al,ak,aj⟩ (h:=tkG 3 ⟨H4,Q4,al,ak,aj⟩ (h:=tkG 4 ⟨H4,Q4,al,ak,aj⟩ (h:=tkG 5 ⟨H4,Q4,al,ak,aj⟩ (h:=tkG 6 ⟨H4,Q4,al,ak,aj⟩ (h:=tkG 7 ⟨H4,Q4,al,ak,aj⟩ (h:=tkG 8 ⟨H4,Q4,al,ak,aj⟩ (h:=tkG 10 ⟨H4,Q4,al,ak,aj⟩ (h:=tkG 11 ⟨H4,Q4,al,ak,aj⟩ (h:=?_)))))))))));simp only [List.set];refine Bc 9 (by kernel_rfl) rfl (fun K hK=> ?_);go_simp;have br:Fr Non v1 (v1.alloc (.cells y.V 36)).drew:=((Fr.refl _ _).alloc _).drew;have bk:=(Blk.new v1 36 y.V).drew;have ce:=((co.out.fr FF zr).alloc (.cells y.V 36)).drew;have F5:=F4.trans br zr;have H5:=F5.cell H0 zq;have Q5:=F5.cell Q0 zq;have cn:=F5.cell bg zq;have b3:=F5.cell bl zq;have cu:=F5.cell bd zq;have b8:v1.heap.size≤(v1.alloc (.cells y.V 36)).drew.heap.size:=br.size;refine hK.out _ _ ⟨H5,Q5,cn,b3,cu⟩ (fun hZ=> ?_);clear hZ hK K;try simp only [Ab,List.set]
     generalize (v1.alloc (.cells y.V 36)).drew=v5 at*;have bc:=Own.blk (base:=v1.heap.size) (n:=1) (size:=3) bk (Am9 _) (by omega) rfl (by omega);refine Bc 12 (by kernel_rfl) rfl (fun K hK=> ?_);refine Dy (base:=v1.heap.size) (.tmp 70) (.tmp 72) 25 rfl rfl rfl Cw bc ce (Id.cells_one _) (by omega) (by omega) b8 ?_;intro A6 c6 v6 bf cz cr;have b0:Fr Non v1 v6:=F5.trans cz (fun j hj e=>by have e':v1.heap.size=j:=Option.some.inj e;omega);have F6:Fr Non v1 v6:=b0;have H6:=F6.cell H0 zq;have Q6:=F6.cell Q0 zq;have cw:=F6.cell bg zq;have b9:=F6.cell bl zq;have ca:=F6.cell bd zq;refine hK.out _ _ ⟨H6,Q6,cw,b9,ca⟩ (fun hZ=> ?_);clear hZ hK K;try simp only [Ab,List.set]
     have ks:=Lib.hid (Fi v6.heap.size (1+x.past.length) c6 A6 (y::x.past) v6 (by show _=_;rw [An3];omega) bf.rd (by omega));refine Bc 13 (by kernel_rfl) rfl (fun K hK=> ?_);go_simp;go_wp2_with (go_at_call 33;(with_reducible refine (ks.out).mono ?_);rintro _ v7 ⟨A5,c5,rfl,h5,b5⟩;have F7:=F6.trans b5 zr;have H7:=F7.cell H0 zq;have Q7:=F7.cell Q0 zq;have bq:=F7.cell bg zq;have bw:=F7.cell bl zq;have bm:=F7.cell bd zq);refine hK.out _ _ ⟨H7,Q7,bq,bw,bm⟩ (fun hZ=> ?_);clear hZ hK K;try simp only [Ab,List.set]
     have f3:Fr Non w0 v7:=FF.trans F7 zr;have z3:=(ar.out.non f3).b.frozen 4;have hd:=Lib.hid (av.out v7 v6.heap.size A5 (1+x.past.length) c5 (An8 FF.size F6.size) f3 (by rw [An3];omega) h5);refine tkG 14 ⟨H7,Q7,bq,bw,bm⟩ (h:=?_);simp only [List.set];refine Co (by kernel_rfl) ?_;refine oG 15 (fun K hK=> ?_);go_simp;refine hK.out _ _ trivial (fun hZ=> ?_);clear hZ hK K;try simp only [Ab,List.set]
     refine oD ?_;go_simp;go_wp2_with (fail);go_meet;exact hd.out
  ·
   as_aux_lemma=>
   have b7:=s0.lies.past.1.2;have ar:=Lib.hid s0;obtain ⟨N,hN⟩:=Aa x.past.length;have z:w0.cell? ⟨w.heap.size+1,4,none⟩=some (.slice x.pastA x.past.length x.pastC):=s0.b.cell 4;have z2:=s0.b.frozen 4;rw [hN.out] at z a7 b7;clear ag af aa hP s0
   by_cases hNz:N=0
   ·
    subst hNz;go_wp2_with (fail);go_meet;exact ⟨x,ar.out⟩
   ·
    have t1:decide ((N:Int)>0)=true:=decide_eq_true (by omega);have t2:decide (0<N)=true:=decide_eq_true (by omega);have t3:(1:Int)≤(N:Int):=by omega
    have hd:=ar.out.past (A:=if x.pastC=1 then x.pastA else x.pastA.map (fun x=>⟨x.block,x.off+3,none⟩)) (n:=N-1) (c:=x.pastC-1) (ps:=x.past.drop 1) (by rw [An9,hN.out]) (by rw [Aj4,← hN.out];exact ar.out.lies.past.tail) ⟨by rw [An9];have:=ab.past.1;have e:x.op.past=x.past:=rfl;rw [e] at this;omega,fun z hz=>ab.past.2 z (List.mem_of_mem_drop hz)⟩;go_upto_region 16 with (fail)
    iterate 30 (try first|go_values|go_skip|go_guarded|go_step)
    go_meet;exact ⟨_,hd⟩
  ·
   as_aux_lemma=>
   have z:w0.cell? ⟨w.heap.size+1,2,none⟩=some _:=s0.b.cell 2;have z2:=s0.b.frozen 2;have ht:(k:Int).tmod 13=((k%13:Nat):Int):=by rw [An1 (by omega)];rfl
   have hw:IntKind.i64.wrap (1+((k%13:Nat):Int))=((1+k%13:Nat):Int):=by rw [IntWalk.i64_in _ (by omega)];omega
   clear ag af aa hP;go_wp2_with (fail);go_meet;exact ⟨{x with kind:=((1+k%13:Nat):Int)},s0.put 2 _ _ rfl (fun v' h=>⟨h.past,h.path,h.nodes,h.body,h.refs,h.guards,h.boxes,h.hist,h.seals⟩) {ab with kind:=(show I64 ((1+k%13:Nat):Int) from ⟨by omega,by omega⟩)} s0.dev⟩
  ·
   as_aux_lemma=>
   have z:w0.cell? ⟨w.heap.size+1,25,none⟩=some (.int .u64 (x.r:Int)):=s0.b.cell 25;have z2:=s0.b.frozen 25;obtain ⟨RR,c7⟩:∃RR:Nat,(x.r+1)%18446744073709551616=RR:=⟨_,rfl⟩;have hw:IntKind.u64.wrap ((x.r:Int)+1)=(RR:Int):=by rw [IntKind.wrap_u64];omega
   have c8:((x.r:Int)+1)%18446744073709551616=(RR:Int):=by omega
   have s1:=s0.put 25 (.int .u64 (RR:Int)) {x with r:=RR} rfl (fun v' h=>⟨h.past,h.path,h.nodes,h.body,h.refs,h.guards,h.boxes,h.hist,h.seals⟩) {ab with r:=(show RR<18446744073709551616 by omega)} s0.dev;have ah:(Tryz.prog.info? 44).map (·.size)=some ({x with r:=RR}:OpL).cells.size:=hi;have hl:=Aq (P:=Tryz.prog) (w.heap.size+1) 44 Tryz.underlying44 rfl ah;have a4:=Bf (P:=Tryz.prog) (w.heap.size+1+1) 44 (cs:=({x with r:=RR}:OpL).cells) ah (old:=OpL.zero.cells) rfl (Bm _);have hd:=Lib.hid (aa.out _ _ _ s1 s1.lies s1.ok);have b1:=s1.b;have r1:=s1.r;generalize ({x with r:=RR}:OpL).cells=YC at*;clear ag af aa hP s1 s0;go_wp2_with (fail);have ai:=r1.setRow (cs:=YC);have ai:=r1.setRow (cs:=YC);refine Cu (t:=44) rfl rfl ai rfl Tryz.underlying44 ah rfl ?_;exact hd.out
  ·
   as_aux_lemma=>
   have z:w0.cell? ⟨w.heap.size+1,26,none⟩=some (.int .u64 (x.s:Int)):=s0.b.cell 26;have z2:=s0.b.frozen 26;have hw:IntKind.u64.wrap (k:Int)=(k:Int):=by rw [IntKind.wrap_u64];omega
   have s1:=s0.put 26 (.int .u64 (k:Int)) {x with s:=k} rfl (fun v' h=>⟨h.past,h.path,h.nodes,h.body,h.refs,h.guards,h.boxes,h.hist,h.seals⟩) {ab with s:=(show k<18446744073709551616 by omega)} s0.dev;have ah:(Tryz.prog.info? 44).map (·.size)=some ({x with s:=k}:OpL).cells.size:=hi;have hl:=Aq (P:=Tryz.prog) (w.heap.size+1) 44 Tryz.underlying44 rfl ah;have a4:=Bf (P:=Tryz.prog) (w.heap.size+1+1) 44 (cs:=({x with s:=k}:OpL).cells) ah (old:=OpL.zero.cells) rfl (Bm _);have hd:=Lib.hid (aa.out _ _ _ s1 s1.lies s1.ok);have b1:=s1.b;have r1:=s1.r;generalize ({x with s:=k}:OpL).cells=YC at*;clear ag af aa hP s1 s0;go_wp2_with (fail);have ai:=r1.setRow (cs:=YC);have ai:=r1.setRow (cs:=YC);refine Cu (t:=44) rfl rfl ai rfl Tryz.underlying44 ah rfl ?_;exact hd.out
  ·
   as_aux_lemma=>
   have z:w0.cell? ⟨w.heap.size+1,3,none⟩=some (.int .i64 x.at_):=s0.b.cell 3;have z2:=s0.b.frozen 3;obtain ⟨AT,bs⟩:∃AT:Int,IntKind.i64.wrap (x.at_+1)=AT:=⟨_,rfl⟩;have b4:wrap64 (x.at_+1)=AT:=by rw [← IntWalk.i64_left];exact bs
   have cl: -9223372036854775808≤AT∧AT≤9223372036854775807:=by rw [← bs,IntKind.wrap_i64];omega
   have s1:=s0.put 3 (.int .i64 AT) {x with at_:=AT} rfl (fun v' h=>⟨h.past,h.path,h.nodes,h.body,h.refs,h.guards,h.boxes,h.hist,h.seals⟩) {ab with at_:=(show I64 AT from cl)} s0.dev;have ah:(Tryz.prog.info? 44).map (·.size)=some ({x with at_:=AT}:OpL).cells.size:=hi;have hl:=Aq (P:=Tryz.prog) (w.heap.size+1) 44 Tryz.underlying44 rfl ah;have a4:=Bf (P:=Tryz.prog) (w.heap.size+1+1) 44 (cs:=({x with at_:=AT}:OpL).cells) ah (old:=OpL.zero.cells) rfl (Bm _);have hd:=Lib.hid (aa.out _ _ _ s1 s1.lies s1.ok);have b1:=s1.b;have r1:=s1.r;generalize ({x with at_:=AT}:OpL).cells=YC at*;clear ag af aa hP s1 s0;go_wp2_with (fail);have ai:=r1.setRow (cs:=YC);have ai:=r1.setRow (cs:=YC);refine Cu (t:=44) rfl rfl ai rfl Tryz.underlying44 ah rfl ?_;exact hd.out
  ·
   as_aux_lemma=>
   obtain ⟨N,hN⟩:=Aa r.l.length;rw [hN.out] at g1 ap;have z1:=(s0.g.cell 1).trans g1
   by_cases hNz:N=0
   ·
    subst hNz;clear ag af aa hP;go_wp2_with (fail);go_meet;exact ⟨x,s0⟩
   ·
    have t1:decide ((N:Int)>0)=true:=decide_eq_true (by omega);have c0:decide (0<N)=true:=decide_eq_true (by omega);have ht:(k:Int).tmod (N:Int)=((k%N:Nat):Int):=by rw [An1 (by omega)];rfl
    have ax:k%N<N:=Nat.mod_lt _ (by omega);obtain ⟨nd,bt⟩:∃nd,r.l[k%N]? =some nd:=⟨_,List.getElem?_eq_getElem (by rw [hN.out];exact ax)⟩;obtain ⟨z,bx,ox,cq,ba,ch,a5⟩:=af.out _ nd bt;obtain ⟨p,hp⟩:∃p:Nat,k%N=p:=⟨_,rfl⟩;rw [hp] at ht ax a5;have a0:An7 w0 bx (ox+p*27) z.cells.toList:=fun j v hv=>s0.f.cell (a5 j v hv) zq;have bv:=Ii (P:=Tryz.prog) z.cells bx (ox+p*27) Tryz.underlying44 rfl hi;have p1:(0:Int)≤p:=by omega
    have p2:(p:Int)<N:=by omega
    have p3:(p:Int).toNat=p:=by omega
    have ct:¬(N:Int)=0:=by omega
    rw [ch] at z1;have a4:=Bf (P:=Tryz.prog) (w.heap.size+1+1) 44 (cs:=z.cells) hi (old:=OpL.zero.cells) rfl (Bm z);have ah:(Tryz.prog.info? 44).map (·.size)=some z.cells.size:=hi;have be:=s0.non ((Fr.refl Non w0).drew);have a9:=Lib.hid (aa.out w0.drew x z be (ba.non be.f) cq);have r1:=s0.r
    have bj:bx≠w.heap.size+1+1:=fun e=>by
     have h0:=a5 0 (.int .i64 z.by_) rfl;have:=World.block_lt_of_cell? w _ h0;have e2:bx<w.heap.size:=this;omega
    generalize z.cells=YC at*;clear ag af aa hP bt s0 be;go_upto_region 30 with (fail)
    have Z0:=z1;have R0:RgB w0 bx (ox+p*27) YC.toList:=a0;have c4:∀w',RgB w' bx (ox+p*27) YC.toList→(ldS 44 (.pointer (some ⟨bx,ox+p*27,none⟩))).run Tryz.prog w'=.ok (.agg YC) w':=fun w' h=>bv w' h;have cb:bx≠w.heap.size+1+1:=fun e=>bj e;clear bv a5 a0;refine wp_region_held_drew (S:=fun w'=>w'.cell? ⟨w.heap.size,1,none⟩=some (.slice (some ⟨bx,ox,none⟩) N r.lC)∧RgB w' bx (ox+p*27) YC.toList) (by kernel_rfl) ⟨Z0,R0⟩ (fun hHeld=> ?_);clear hHeld;refine tkH 0 ⟨Z0,R0⟩ (h:=tkH 1 ⟨Z0,R0⟩ (h:=tkH 2 ⟨Z0,R0⟩ (h:=tkH 3 ⟨Z0,R0⟩ (h:=tkH 4 ⟨Z0,R0⟩ (h:=tkH 5 ⟨Z0,R0⟩ (h:=tkH 6 ⟨Z0,R0⟩ (h:=tkH 7 ⟨Z0,R0⟩ (h:=tkH 8 ⟨Z0,R0⟩ (h:=?_)))))))));simp only [List.set];refine oG 9 (fun K hK=> ?_);have r2:Blk w0.drew (w.heap.size+1+1) 44 OpL.zero.cells:=r1.drew;go_simp;have ai:=r2.setRow (cs:=YC);have Z1:(w0.drew.setRow (w.heap.size+1+1) YC).cell? ⟨w.heap.size,1,none⟩=some (.slice (some ⟨bx,ox,none⟩) N r.lC):=(Bp (w:=w0.drew) YC).cell Z0 (fun e=>by have e':w.heap.size=w.heap.size+1+1:=e;omega);have R1:RgB (w0.drew.setRow (w.heap.size+1+1) YC) bx (ox+p*27) YC.toList:=RgB.fr (w:=w0.drew) R0 (Bp YC) (fun e=>cb e);refine hK.out _ _ ⟨Z1,R1⟩ (fun hZ=> ?_);clear hZ hK K;try simp only [Ab,List.set]
    refine oD ?_;go_simp;go_wp2_with (fail);refine Cu (t:=44) rfl rfl ai rfl Tryz.underlying44 ah rfl ?_;exact a9.out
  ·
   as_aux_lemma=>
   clear ag af aa hP;go_wp2_with (fail);go_meet;exact ⟨x,s0⟩
 case rest=>
 obtain ⟨y,s⟩:=hcut;clear s0 ag af bz ab aq g1 g2 ao au a3;obtain ⟨d,c3,a9⟩:=s.dev;have kb:=s.b;have cv:(Tryz.prog.info? 44).map (·.size)=some y.cells.size:=hi;have hl:=Aq (P:=Tryz.prog) (w.heap.size+1) 44 Tryz.underlying44 rfl (cs:=y.cells) cv;have bp:=Lib.hid (Aj3 y d base wc c3 a9 s.lies s.ok);have a6:Hid ((sgn y.op).ok):=Fm s.ok;unfold Sw at bp;have s':=Lib.hid s;clear s;generalize wc=w4 at*;generalize sgn y.op=SO at*;have a2:Hid (∀(v:World) (z:OpL),Bst w v base r.cells y→z.lies v base→z.op.ok→POST (.returned (.agg z.cells)) (v.setRow (w.heap.size+1+1) z.cells)):=fun v z s h1 h2=>aa.out v y z s h1 h2;generalize hYC:y.cells=YC at*;go_wp2_with (go_at_call 28;(with_reducible refine (bp.out).mono ?_);rintro _ w5 ⟨z,rfl,ci,ba,f5⟩;go_loud (have s5:=s'.out.non f5;have hd:=Lib.hid (a2.out w5 z s5 ba (by rw [ci];exact a6.out));have a4:=Bf (P:=Tryz.prog) (w.heap.size+1+1) 44 (cs:=z.cells) hi (old:=OpL.zero.cells) rfl (Bm z);have cf:(Tryz.prog.info? 44).map (·.size)=some z.cells.size:=hi;have r5:=s5.r;generalize z.cells=ZC at*));have ai:=r5.setRow (cs:=ZC)
 (try simp only [Exit.inBlock,Exit.then])
 refine Cu (t:=44) rfl rfl ai rfl Tryz.underlying44 cf rfl ?_;exact hd.out
end Oq
end
section
open Go.RowKit
namespace Oq
theorem RG.own.adds {w w':World} {base base2:Nat} {r:RG} {g:Gph} (h:r.own w base) (hg:GAt w base2 g) (hf:Fr g.own w w'):r.own w' base:=
 h.keepP hf hg.types (by unfold Gty;decide) (by unfold Gty;decide) (by unfold Gty;decide) (by unfold Gty;decide) (by unfold Gty;decide) (by unfold Gty;decide) (by unfold Gty;decide) (by unfold Gty;decide) (by unfold Gty;decide) (by unfold Gty;decide) (by unfold Gty;decide) (by unfold Gty;decide)
theorem OpL.lies.adds {w w':World} {base base2:Nat} {x:OpL} {g:Gph} (h:x.lies w base) (hg:GAt w base2 g) (hf:Fr g.own w w'):x.lies w' base:=
 h.keepP hf hg.types (by unfold Gty;decide) (by unfold Gty;decide) (by unfold Gty;decide) (by unfold Gty;decide) (by unfold Gty;decide) (by unfold Gty;decide) (by unfold Gty;decide)
theorem RowLies.zero {w:World} {base size:Nat} {t:TypeId}:RowLies w base t size none 0 0 []:=⟨SlAt.nil _ _ _,.inl rfl⟩
theorem Aj7 {g:Gph} {l:List Pn} (h:g.pns=l) (ids:List Id):ids.filter (fun id=> !(Ae g.nodes id).isSome)=Cr l ids:=by
 subst h;unfold Cr;congr 1;funext id;rw [show plc g.pns id=Ae g.nodes id from by unfold Gph.pns;rw [Eu]]
 cases Ae g.nodes id<;>rfl
def Sx (b gb:Nat) (g:Gph) (o:Op) (l:List Pn) (E:Int) (w:World) (e:Ending) (w':World):Prop:=
 e=.returned (.int .i64 E)∧∃g2:Gph,Hid (GAt w' b g2)∧Hid (g2.gb=gb)∧Hid (g2.cards=g.cards)∧Hid (g2.pns=if E=0 then l++[As l o] else l)∧Fr g.own w w'
theorem Aj8 {b gb:Nat} {g:Gph} {x:OpL} {w:World} {l:List Pn} {E:Int} (hg:GAt w b g) (hgb:g.gb=gb) (hl:g.pns=l) (hE:Ag g.cards l x.op=E) (hat:x.at w w.heap.size) (hok:x.op.ok) (hkn:KindsAt w):
  Calls Tryz.prog 12 #[.pointer (some ⟨gb,0,none⟩),.agg x.cells] w (Sx b gb g x.op l E w):=by
 subst hl hE hgb;refine (Gs b g x w hg hat hok hkn).mono ?_;rintro e w' ⟨rfl,h⟩;refine ⟨rfl,?_⟩
 rcases h with ⟨h0,h1⟩|⟨h0,g',h1,h2,_,h4,h5,h6,_⟩
 · exact ⟨g,hg.fr h1,rfl,rfl,(if_neg h0).symm,Fr.of_non h1 _⟩
 · exact ⟨g',h1,h2,h4,h5.trans (if_pos h0).symm,h6⟩
def Ma (l:List Pn) (nm:Id) (w:World) (e:Ending) (w':World):Prop:=
 ∃(y:OpL) (is:Bool),e=.returned (.tuple #[.agg y.cells,.bool is])∧Hid ((plc l nm).isSome=is)∧Hid (∀i p,plc l nm=some i→l[i]? =some p→y.op=p.o)∧Hid (y.lies w' w.heap.size)∧Fr Non w w'
theorem Aj9 {b gb:Nat} {g:Gph} {l:List Pn} (nm:Id) {w:World} (hg:GAt w b g) (hgb:g.gb=gb) (hl:g.pns=l) (hok:nm.ok):
  Calls Tryz.prog 14 #[.pointer (some ⟨gb,0,none⟩),.agg nm.V] w (Ma l nm w):=by
 subst hgb hl;have hp:plc g.pns nm=Ae g.nodes nm:=by unfold Gph.pns;rw [Eu]
 refine (W7 b g nm w hg hok).mono ?_;intro e w' h;unfold Ma;rw [hp];unfold Ga Gph.opOf at h
 cases hq:Ae g.nodes nm with
 |none=>
  rw [hq] at h;obtain ⟨rfl,hf⟩:=h;exact ⟨OpL.zero,false,rfl,rfl,fun i p hi=>(by cases hi),⟨RowLies.zero,RowLies.zero,fun y hy=>absurd hy Am6,RowLies.zero,RowLies.zero,RowLies.zero,RowLies.zero,RowLies.zero,fun y hy=>absurd hy Am6⟩,hf⟩
 |some i=>
  rw [hq] at h
  cases hn:g.nodes[i]? with
  |none=>
   obtain ⟨n,h1,_⟩:=E1 hq;rw [hn] at h1
   cases h1
  |some n=>
   simp only [hn,Option.map_some] at h;obtain ⟨y,rfl,h1,h2,h3⟩:=h;refine ⟨y,true,rfl,rfl,?_,h2.lies,h3⟩;intro j p hj hp';injection hj with hj
   subst hj;unfold Gph.pns at hp';rw [List.getElem?_map,hn] at hp';injection hp' with hp'
   rw [h1,← hp'];rfl
end Oq
end
end Go.Proofs.YthpkjfliibdnjaaGreatDoor
