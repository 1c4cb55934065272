/-
  Contracts of the functions that the claim's statement reaches, walked one by one (part 11).
  Conditions: as each theorem says.
-/
import Derived.Handy
import Derived.Great.BuildSlice
import Derived.Lib.SlBytesConst
import Derived.Test.YtkanjaikgphjfaaGreatDoorFkM1
import Derived.Test.YtkanjaikgphjfaaGreatDoorFkM2
import Derived.Test.YtkanjaikgphjfaaGreatDoorFkM3
import Derived.Test.YtkanjaikgphjfaaGreatDoorFkM5
import Derived.Test.YtkanjaikgphjfaaGreatDoorFkM6
import Derived.Test.YtkanjaikgphjfaaGreatDoorFkM8
import Derived.Test.YtkanjaikgphjfaaGreatDoorFkM9
import Derived.Test.YtkanjaikgphjfaaGreatDoorFkM10
set_option maxRecDepth 100000
set_option maxHeartbeats 16000000
open Array renaming length_toList→Aj0
open Bool renaming and_eq_true→Af8,not_false→Ag3,not_true→Ag4,false_ne_true→Ag6,eq_iff_iff→Ag9,or_eq_true→Ah4,or_eq_false_iff→Aj4,and_eq_false_iff→Aj5,not_eq_false'→Aj6
open Int renaming le_refl→Ah0,le_trans→Ai3,le_max_left→Ai4
open List renaming mem_of_getElem?→Af9,getElem?_of_mem→Ag0,mem_cons_self→Ag1,getElem?_eq_getElem→Ag2,length_map→Ag5,filter_cons_of_neg→Ah1,take_of_length_le→Ah2,mem_cons_of_mem→Ah3,getElem?_map→Ah5,filter_cons_of_pos→Ah6,Nodup→Ah7,length_append→Ah8,mem_map_of_mem→Ah9,range→Ai0,nodup_nil→Ai1,not_mem_nil→Ai2,any_cons→Ai5,contains_iff_mem→Ai6,filter_congr→Ai7,filterMap_append→Ai8,mem_singleton→Ai9,getElem_map→Aj1,length_singleton→Aj2,any_eq_true→Aj3,length_take→Aj7,mem_append_left→Aj8,mem_append_right→Aj9,perm_ext_iff_of_nodup→Ak1,pairwise_map→Ak2,any_eq_false→Ak3,pairwise_filterMap→Ak4,take_length→Ak5,flatMap_cons→Ak6,flatMap_nil→Ak7
open Nat renaming le_refl→Ag7,lt_or_ge→Ag8,eq_zero_or_pos→Ak0
namespace Go.Proofs.YtkanjaikgphjfaaGreatDoor
section
open Go.RowKit
attribute [local go_sem ↓] Go.wp_at_zero Go.wp_at_succ
namespace Oq
attribute [local go_sem] Ag3 Ag4
attribute [local go_sem ↓] Et
def Fw (l:List Id) (w:World) (e:Ending) (w':World):Prop:=∃A c,e=.returned (.slice A l.length c)∧Own w' w.heap.size 41 3 A l.length c (l.flatMap Id.cells)∧Fr Non w w'
end Oq
namespace Oq
attribute [local go_sem] Ag3 Ag4
def C6 (l:List Pn) (p:Nat→Bool) (k:Nat):List Id:=(Ai0 k).filterMap (fun i=>if p i then l[i]?.map Pn.id else none)
theorem Zj (l:List Pn) (p:Nat→Bool) (k:Nat) {n:Pn} (h:l[k]? =some n):C6 l p (k+1)=C6 l p k++(if p k then [n.id] else []):=by
 unfold C6;rw [List.range_succ,Ai8];congr 1
 cases hp:p k<;>simp [hp,h]
theorem P8 (l:List Id):(Ak l).length=l.length:=(Cg l).length_eq
end Oq
end
section
open Go.RowKit
namespace Oq
end Oq
end
section
open Go.RowKit
attribute [local go_sem ↓] Go.wp_at_zero Go.wp_at_succ
namespace Oq
attribute [local go_sem] Ag3 Ag4
theorem Du {P:Program} {o:Oper} {a:Act} {K:Act→World→Prop} {Q:Exit→Act→World→Prop} {w:World} (s x:Operand) (t:TypeId)
  (ho:o.op=.call {callee:=.builtin .append,args:=#[s,x],argTypes:=#[t,t]})
  {base size n c:Nat} {e:TypeId} {A:Option Addr} {xs:List Value} {z:Value} {bytes m cx B:Nat} {Ax:Option Addr} {news:List Value}
  (hs:a.eval s=.slice A n c) (hx:a.eval x=.slice Ax m cx)
  (hT:SlT P t e z size bytes) (h:Own w base e size A n c xs) (hr:Rd w B size Ax m news)
  (h1:∀u∈news,u.oneCell'=true) (hbytes:(n+m)*bytes≤140737488355328) (hmax:n+m≤9223372036854775807) (hbase:base≤w.heap.size)
  (hk:∀A' c' w',Own w' base e size A' (n+m) c' (xs++news)→Fr (fun k=>Ab A=some k) w w'→(Ab A'=Ab A∨Ab A'=some w.heap.size)→
   K (a.put o.dst (.slice A' (n+m) c')) w'):Oper.wp P o a w K Q:=by
 obtain ⟨A',c',w',hrun,h2,h3,h4⟩:=Gd (P:=P) (ty:=o.type) (cx:=cx) hT h hr h1 hbytes hmax hbase;unfold Oper.wp execOp;simp only [ho,resolve,invoke,builtin,Sem.run_bind,Sem.run_pure,Result.andThen_ok,List.map_toArray,List.map_cons,List.map_nil,hs,hx,hrun];exact hk A' c' w' h2 h3 h4
theorem P9 (l:List Pn) (p:Nat→Bool):∀k,∀id∈C6 l p k,∃i m,i<k∧p i=true∧l[i]? =some m∧m.id=id:=by
 intro k id hid;unfold C6 at hid;obtain ⟨i,hi,h⟩:=List.mem_filterMap.1 hid;rw [List.mem_range] at hi
 cases hp:p i with
 |false=>rw [hp] at h;cases h
 |true=>
  rw [hp,if_pos rfl] at h
  cases hm:l[i]? with
  |none=>rw [hm] at h;cases h
  |some m=>rw [hm] at h;injection h with h;exact ⟨i,m,hi,hp,hm,h⟩
theorem Qa {cards:List Cd} {l:List Pn} (h:Rows cards l) (p:Nat→Bool):∀k,(C6 l p k).Nodup:=by
 intro k
 induction k with
 |zero=>exact Ai1
 |succ k ih=>
  cases hm:l[k]? with
  |none=>
   have:C6 l p (k+1)=C6 l p k:=by
    unfold C6;rw [List.range_succ,Ai8];simp [hm]
   rw [this];exact ih
  |some m=>
   rw [Zj l p k hm]
   cases hp:p k with
   |false=>simpa using ih
   |true=>
    rw [if_pos rfl,List.nodup_append];refine ⟨ih,List.nodup_cons.2 ⟨Ai2,Ai1⟩,?_⟩;intro a ha b hb e;rw [Ai9] at hb;obtain ⟨i,m',hi,_,hm',e'⟩:=P9 l p k a ha;have h1:=(h.ok i m' hm').plc;have h2:=(h.ok k m hm).plc;rw [e',e,hb,h2] at h1;injection h1 with h1
    omega
end Oq
namespace Oq
attribute [local go_sem] Ag3 Ag4
attribute [local go_sem ↓] Ce
theorem Zk (y:OpL) (nm:Id) (hn:y.op.name=nm) (w:World) (hat:y.at w w.heap.size) (hok:y.op.ok):Calls Tryz.prog 55 #[.agg y.cells] w fun e w'=>e=.returned (.agg nm.V)∧Fr Non w w':=by
 have k:=Ul y w hat hok;obtain ⟨b,s,u⟩:=nm;unfold Op.name at hn;injection hn with h1 h2 h3
 rw [h3,show y.by_=b from h1,show y.sq=s from h2] at k;exact k
end Oq
end
section
open Go.RowKit
namespace Oq
theorem Kr:SlT Tryz.prog 24 67 (.agg zO) 27 328:=⟨Tryz.underlying24,by kernel_rfl,rfl,by decide⟩
theorem slIi:SlT Tryz.prog 26 22 (.slice none 0 0) 1 24:=⟨Tryz.underlying26,by kernel_rfl,rfl,by decide⟩
theorem Own.ne2 {w:World} {b b' size size' n n' c c':Nat} {t t':TypeId} {A A':Option Addr} {xs xs':List Value} (h:Own w b t size A n c xs) (h':Own w b' t' size' A' n' c' xs') (hne:t≠t'):∀k,Ab A=some k→Ab A'≠some k:=by
 intro k hk hk'
 rcases h.2 with ⟨hv,_⟩|⟨g,cap,cur,hv,_,hg,_⟩
 ·
  injection hv with hA
  subst hA
  cases hk
 ·
  injection hv with hA
  subst hA;injection hk with hk
  have hk2:g=k:=hk;subst hk2;exact Own.ne h' (g:=g) (t:=t) (cs:=cur) hg (fun e=>hne e.symm) hk'
theorem Own.setFar {w:World} {b size n c nb i:Nat} {t:TypeId} {A:Option Addr} {xs:List Value} {cs:Array Value} {t':TypeId} (h:Own w b t size A n c xs) (hb:Blk w nb t' cs) (hne:t≠t') (v:Value):Own (w.setCell ⟨nb,i,none⟩ v) b t size A n c xs:=
 h.setOne (h.ne hb hne)
theorem Own.grow2 {w w':World} {b b' size size' n n' c c':Nat} {t t':TypeId} {A A':Option Addr} {xs xs':List Value} (h:Own w b t size A n c xs) (h':Own w b' t' size' A' n' c' xs') (hne:t≠t') (hf:Fr (fun k=>Ab A'=some k) w w'):Own w' b t size A n c xs:=
 h.fr hf (fun k hk e=>Own.ne2 h h' hne k hk e)
theorem Gs {w w':World} (h:Fr (fun k=>Ab none=some k) w w'):Fr Non w w':=h.mono (fun _ _ e=>by cases e)
theorem Qc (l:List Pn) (o:Op):(Aq l o).id=o.name:=rfl
theorem Gt (l:List Pn) (o:Op):(Aq l o).o=o:=rfl
theorem id_okL (b s:Int) (u:Nat) (hb:I64 b) (hs:I64 s) (hu:U64 u):(Id.mk b s u).ok:=⟨hb,hs,hu⟩
structure KR (b:Nat) (wv:World) (lA:Option Addr) (nL lC:Nat) (LX:List Value) (iA:Option Addr) (nI iC:Nat) (IX:List Value) (uA:Option Addr) (nU uC:Nat) (UX:List Value) (A1:Option Addr) (M c1:Nat) (UP:List Value) (A2:Option Addr) (N c2:Nat) (BX:List Value):Prop where
 oL:Own wv b 67 27 lA nL lC LX
 oI:Own wv b 41 3 iA nI iC IX
 oU:Own wv b 22 1 uA nU uC UX
 oA:Own wv b 3 1 A1 M c1 UP
 oB:Own wv b 4 1 A2 N c2 BX
section
variable {b : Nat} {wv w' : World} {lA iA uA A1 A2 : Option Addr} {nL lC nI iC nU uC M c1 N c2 : Nat} {LX IX UX UP BX : List Value}
theorem KR.non (h:KR b wv lA nL lC LX iA nI iC IX uA nU uC UX A1 M c1 UP A2 N c2 BX) (hf:Fr Non wv w'):KR b w' lA nL lC LX iA nI iC IX uA nU uC UX A1 M c1 UP A2 N c2 BX:=
 ⟨h.oL.fr hf zr,h.oI.fr hf zr,h.oU.fr hf zr,h.oA.fr hf zr,h.oB.fr hf zr⟩
end
end Oq
end
section
open Go.RowKit
attribute [local go_sem ↓] Go.wp_at_zero Go.wp_at_succ
namespace Oq
attribute [local go_sem] Ag3 Ag4
def bsO (t:TypeId) (len:Nat) (parts:Array (Nat × Value)):=Instr.buildSlice t len parts
theorem Zl (n:Nat) (p:Array (Nat × Value)):Instr.buildSlice 24 n p=bsO 24 n p:=rfl
attribute [local go_sem ↓] Ce Zl
end Oq
namespace Oq
attribute [local go_sem] Ag3 Ag4
attribute [local go_sem ↓] Ce Ep
def smL (b k d ol ro:Int) (pA:Option Addr) (ps:List NdL) (ep of:Id) (bA:Option Addr) (bs:List UInt8):OpL:=
 {OpL.zero with by_:=b,kind:=k,dev:=d,old:=ol,role:=ro,pathA:=pA,pathC:=ps.length,path:=ps,epoch:=ep,of:=of,bodyA:=bA,bodyC:=bs.length,body:=bs}
theorem Own.blk {w:World} {base g:Nat} {t:TypeId} {size n:Nat} {cs:Array Value} (h:Blk w g t cs) (hb:base≤g) (hn:0<n) (hs:cs.size=n*size) (h1:n<9223372036854775807):Own w base t size (some ⟨g,0,none⟩) n n cs.toList:=by
 refine ⟨by rw [Aj0,hs],.inr ⟨g,n,cs,rfl,hb,h,Ag7 _,by unfold maxLen;omega,hs,?_⟩⟩;rw [Ah2 (by rw [Aj0,hs];exact Ag7 _)]
structure Bz (w v:World) (nm:Array Value) (y:OpL):Prop where
 b:Blk v w.heap.size 67 y.cells
 r:Blk v (w.heap.size+1) 67 OpL.zero.cells
 n:Blk v (w.heap.size+1+1) 41 nm
 f:Fr Non w v
 sz:w.heap.size+3≤v.heap.size
 own:y.own v (w.heap.size+2)
theorem Bz.gen {G:World→Prop} {w v:World} {nm:Array Value} {y:OpL} (s:Bz w v nm y) (k:∀v',Bz w v' nm y→G v'):G v:=k v s
theorem Bz.q {w v:World} {nm:Array Value} {y:OpL} (s:Bz w v nm y) (j:Nat) {x:Value} (h:y.cells[j]? =some x):v.cell? ⟨w.heap.size,j,none⟩=some x∧v.frozen? ⟨w.heap.size,j,none⟩=false:=⟨(s.b.cell j).trans h,s.b.frozen j⟩
theorem Bz.o {w v:World} {a0 a1 a2:Value} {y:OpL} (s:Bz w v #[a0,a1,a2] y):v.cell? ⟨w.heap.size+1+1,0,none⟩=some a0∧v.cell? ⟨w.heap.size+1+1,1,none⟩=some a1∧v.cell? ⟨w.heap.size+1+1,2,none⟩=some a2:=⟨s.n.cell 0,s.n.cell 1,s.n.cell 2⟩
theorem Zm {b k d ol ro b' k' d' ol' ro':Int} {pA bA:Option Addr} {ps:List NdL} {ep of ep' of':Id} {bs:List UInt8} {v:World} {B:Nat} (h:(smL b k d ol ro pA ps ep of bA bs).own v B):(smL b' k' d' ol' ro' pA ps ep' of' bA bs).own v B:=
 ⟨h.past,h.path,h.nodes,h.body,h.refs,h.guards,h.boxes,h.hist,h.seals⟩
theorem Ks {v:World} {g:Nat} {t:TypeId} {cs:Array Value} (hb:Blk v g t cs) {y:OpL} {B j:Nat} {x:Value} (h:y.own v B) (ht:t=67):y.own (v.setCell ⟨g,j,none⟩ x) B:=by
 subst ht;exact h.keepP ((Fr.refl (One g) v).setOne j x) (Types.one hb) (by decide) (by decide) (by decide) (by decide) (by decide) (by decide) (by decide)
theorem Bz.base {w v:World} {nm:Array Value} {y y':OpL} (s:Bz w v nm y) (j:Nat) (x:Value) (h:y.cells.setIfInBounds j x=y'.cells) (ho:y'.own (v.setCell ⟨w.heap.size,j,none⟩ x) (w.heap.size+2)):Bz w (v.setCell ⟨w.heap.size,j,none⟩ x) nm y' where
 b:=h▸s.b.set j x
 r:=s.r.far (p:=⟨w.heap.size,j,none⟩) (by show w.heap.size+1≠w.heap.size;omega) x
 n:=s.n.far (p:=⟨w.heap.size,j,none⟩) (by show w.heap.size+1+1≠w.heap.size;omega) x
 f:=s.f.setNew (g:=w.heap.size) (Ag7 _) j x
 sz:=by have:=s.sz;first|exact this|(simp [World.setCell];omega)
 own:=ho
theorem Bz.set {w v:World} {nm:Array Value} {b k d ol ro b' k' d' ol' ro':Int} {pA bA:Option Addr} {ps:List NdL} {ep of ep' of':Id} {bs:List UInt8} (s:Bz w v nm (smL b k d ol ro pA ps ep of bA bs)) (j:Nat) (x:Value)
  (h:(smL b k d ol ro pA ps ep of bA bs).cells.setIfInBounds j x=(smL b' k' d' ol' ro' pA ps ep' of' bA bs).cells:=by first|rfl|(simp [smL,OpL.cells,OpL.zero])):Bz w (v.setCell ⟨w.heap.size,j,none⟩ x) nm (smL b' k' d' ol' ro' pA ps ep' of' bA bs):=
 s.base j x h (Zm (Ks s.b s.own rfl))
theorem Bz.alloc {w v:World} {nm:Array Value} {y:OpL} (s:Bz w v nm y) (o:Obj):Bz w (v.alloc o) nm y:=
 ⟨s.b.alloc _,s.r.alloc _,s.n.alloc _,s.f.alloc _,by rw [World.size_alloc];have:=s.sz;omega,s.own.non ((Fr.refl Non v).alloc o)⟩
theorem Bz.path {w v:World} {nm:Array Value} {b k d ol ro:Int} {bA:Option Addr} {ep of:Id} {bs:List UInt8} (s:Bz w v nm (smL b k d ol ro none [] ep of bA bs)) (p:Nat) (P:Int) (hP:P=(p:Int)):
  Bz w ((v.alloc (.cells #[.int .u64 P,.slice none 0 0] 137)).setCell ⟨w.heap.size,9,none⟩ (.slice (some ⟨v.heap.size,0,none⟩) 1 1)) nm (smL b k d ol ro (some ⟨v.heap.size,0,none⟩) [⟨p,none,0,[]⟩] ep of bA bs):=by
 subst hP;have hs:=s.sz;have s1:=s.alloc (.cells #[.int .u64 (p:Int),.slice none 0 0] 137);refine s1.base 9 _ rfl (Ks s1.b ?_ rfl);have h5:=Own.blk (base:=w.heap.size+2) (n:=1) (size:=2) (Blk.new v 137 #[.int .u64 (p:Int),.slice none 0 0]) (by omega) (by omega) rfl (by omega);have h:=s1.own;exact ⟨h.past,RowAt.of_own h5,(fun y hy=>by rw [List.mem_singleton.1 (show y∈[(⟨p,none,0,[]⟩:NdL)] from hy)];exact RowAt.nil _ _ _ _),h.body,h.refs,h.guards,h.boxes,h.hist,h.seals⟩
theorem Bz.body {w v:World} {nm:Array Value} {b k d ol ro:Int} {ep of:Id} (s:Bz w v nm (smL b k d ol ro none [] ep of none [])) (x:UInt8) (X:Int) (hX:X=(x.toNat:Int)):
  Bz w ((v.alloc (.cells #[.int .u8 X] 5)).setCell ⟨w.heap.size,14,none⟩ (.slice (some ⟨v.heap.size,0,none⟩) 1 1)) nm (smL b k d ol ro none [] ep of (some ⟨v.heap.size,0,none⟩) [x]):=by
 subst hX;have hs:=s.sz;have s1:=s.alloc (.cells #[.int .u8 (x.toNat:Int)] 5);refine s1.base 14 _ rfl (Ks s1.b ?_ rfl);have h5:=Own.blk (base:=w.heap.size+2) (n:=1) (size:=1) (Blk.new v 5 #[.int .u8 (x.toNat:Int)]) (by omega) (by omega) rfl (by omega);have h:=s1.own;exact ⟨h.past,h.path,h.nodes,RowAt.of_own h5,h.refs,h.guards,h.boxes,h.hist,h.seals⟩
end Oq
end
section
open Go.RowKit
namespace Oq
theorem Rows.idAt {cards:List Cd} {l:List Pn} (h:Rows cards l) {i:Nat} {n:Pn} (hi:l[i]? =some n):n.id.b=n.o.by_∧n.id.s=n.o.sq:=by
 rw [(h.ok i n hi).id];exact ⟨rfl,rfl⟩
theorem Rows.seqLt {cards:List Cd} {l:List Pn} (h:Rows cards l) {x z:Id} (hb:x.b=z.b) (hz:bef l z x=true):z.s<x.s:=by
 obtain ⟨i,j,m,h1,h2,h3,h4⟩:=bef_iff.1 hz;obtain ⟨n,hn,e1⟩:=Bm h1;obtain ⟨m',hm',e2⟩:=Bm h2;rw [h3] at hm';injection hm' with e
 subst e;obtain ⟨k1,k2⟩:=h.idAt hn;obtain ⟨k3,k4⟩:=h.idAt h3;rw [e1] at k1 k2;rw [e2] at k3 k4;have:=(h.ok j m h3).seqs i n h4 hn (by omega);omega
theorem Rows.nodup {cards:List Cd} {l:List Pn} (h:Rows cards l):(l.map Pn.id).Nodup:=by
 rw [Ah7,List.pairwise_iff_getElem];intro i j hi hj hij e;rw [Aj1,Aj1] at e;rw [Ag5] at hi hj;have k1:=(h.ok i _ (Ag2 hi)).plc;have k2:=(h.ok j _ (Ag2 hj)).plc;rw [e,k2] at k1;injection k1 with k1
 omega
theorem Zn {l:List Pn} {p:Nat→Bool} {id:Id}:id∈C6 l p l.length↔∃i m,p i=true∧l[i]? =some m∧m.id=id:=by
 constructor
 ·
  intro h;obtain ⟨i,m,_,h1,h2,h3⟩:=P9 l p l.length id h;exact ⟨i,m,h1,h2,h3⟩
 ·
  rintro ⟨i,m,h1,h2,h3⟩;unfold C6;refine List.mem_filterMap.2 ⟨i,List.mem_range.2 (List.getElem?_eq_some_iff.1 h2).1,?_⟩;rw [if_pos h1,h2];exact congrArg some h3
def Ff (l m:List Pn):Prop:=∀n'∈m,∃n∈l,n.o=n'.o
theorem Rows.take {cards:List Cd} {l:List Pn} (h:Rows cards l):∀i,Rows cards (l.take i):=by
 induction h with
 |nil=>intro i;rw [List.take_nil];exact .nil
 |snoc l o hl ho ih=>
  intro i
  rcases Ag8 l.length i with hi|hi
  ·
   rw [Ah2 (by rw [Ah8,Aj2];omega)];exact .snoc l o hl ho
  ·
   rw [List.take_append_of_le_length hi];exact ih i
theorem Zo (l:List Pn) (i:Nat):Ff l (l.take i):=fun n hn=>⟨n,List.mem_of_mem_take hn,rfl⟩
theorem Iq {cards:List Cd} {l m:List Pn} (hl:Rows cards l) (hm:Rows cards m) (hs:Ff l m) {id:Id} {j:Nat} {n':Pn} (hj:plc m id=some j) (hn:m[j]? =some n'):
  ∃i n,plc l id=some i∧l[i]? =some n∧n.o=n'.o:=by
 obtain ⟨n,h1,h2⟩:=hs n' (Af9 hn);obtain ⟨i,hi⟩:=Ag0 h1;have e1:=(hl.ok i n hi).id;have e2:=(hm.ok j n' hn).id;have e3:=(hm.node hn).1 hj;refine ⟨i,n,?_,hi,h2⟩;rw [← e3,e2,← h2,← e1];exact (hl.ok i n hi).plc
theorem Qd {cards:List Cd} {l:List Pn} (h:Rows cards l) {a b:Id} {j:Nat} {n:Pn} (hj:plc l b=some j) (hn:l[j]? =some n):bef l a b=true↔∃id∈n.o.past,id=a∨bef l a id=true:=by
 have k:=h.ok j n hn;rw [bef_iff];constructor
 ·
  rintro ⟨i,j',m,h1,h2,h3,h4⟩;rw [hj] at h2;injection h2 with e
  subst e;rw [hn] at h3;injection h3 with e
  subst e;obtain ⟨id,hid,p,m,h5,h6,h7⟩:=(k.ps i).1 h4;refine ⟨id,hid,?_⟩
  rcases h7 with rfl|h7
  ·
   left;obtain ⟨x,hx,e1⟩:=Bm h5;obtain ⟨y,hy,e2⟩:=Bm h1;rw [hx] at hy;injection hy with e
   rw [← e1,← e2,e]
  ·
   right;exact bef_iff.2 ⟨i,p,m,h1,h5,h6,h7⟩
 ·
  rintro ⟨id,hid,h1⟩;obtain ⟨p,hp,hq⟩:=k.par id hid;obtain ⟨m,hm,e⟩:=Bm hq
  rcases h1 with rfl|h1
  · exact ⟨p,j,n,hq,hj,hn,(k.ps p).2 ⟨id,hid,p,m,hq,hm,.inl rfl⟩⟩
  ·
   obtain ⟨i,p',m',h2,h3,h4,h5⟩:=bef_iff.1 h1;exact ⟨i,j,n,h2,hj,hn,(k.ps i).2 ⟨id,hid,p',m',h3,h4,.inr h5⟩⟩
theorem Ku {cards:List Cd} {l m:List Pn} (hl:Rows cards l) (hm:Rows cards m) (hs:Ff l m):∀(j:Nat) (b a:Id),plc m b=some j→bef m a b=bef l a b:=by
 intro j
 induction j using Nat.strongRecOn with
 |_ j ih=>
  intro b a hj;obtain ⟨n',hn',_⟩:=Bm hj;obtain ⟨i,n,hi,hn,ho⟩:=Iq hl hm hs hj hn';rw [Ag9,Qd hm hj hn',Qd hl hi hn,ho];constructor
  ·
   rintro ⟨id,hid,h⟩;obtain ⟨p,hp,hq⟩:=(hm.ok j n' hn').par id hid;exact ⟨id,hid,h.imp zq (fun e=>by rw [← ih p hp id a hq];exact e)⟩
  ·
   rintro ⟨id,hid,h⟩;obtain ⟨p,hp,hq⟩:=(hm.ok j n' hn').par id hid;exact ⟨id,hid,h.imp zq (fun e=>by rw [ih p hp id a hq];exact e)⟩
theorem Zp {cards:List Cd} {l m:List Pn} (hl:Rows cards l) (hm:Rows cards m) (hs:Ff l m):∀(j:Nat) (b:Id),plc m b=some j→Az m b=Az l b:=by
 intro j
 induction j using Nat.strongRecOn with
 |_ j ih=>
  intro b hj;obtain ⟨n',hn',_⟩:=Bm hj;obtain ⟨i,n,hi,hn,ho⟩:=Iq hl hm hs hj hn';rw [Gm hj hn',Gm hi hn,(hm.ok j n' hn').lev,(hl.ok i n hn).lev,ho];refine Kc (fun id hid=> ?_);obtain ⟨p,hp,hq⟩:=(hm.ok j n' hn').par id hid;exact ih p hp id hq
theorem Qe {cards:List Cd} {l m:List Pn} (hl:Rows cards l) (hm:Rows cards m) (hs:Ff l m) {j:Nat} {b:Id} (hj:plc m b=some j):Bo m b=Bo l b:=by
 obtain ⟨n',hn',_⟩:=Bm hj;obtain ⟨i,n,hi,hn,ho⟩:=Iq hl hm hs hj hn';rw [Fc hj hn',Fc hi hn,ho]
theorem Zq {l l':List Pn} {ids:List Id} (h:∀id∈ids,Bo l' id=Bo l id):late l' ids=late l ids:=by
 unfold late
 suffices H:∀t:Int,ids.foldl (fun t id=>max t (Bo l' id)) t=ids.foldl (fun t id=>max t (Bo l id)) t from H 0
 induction ids with
 |nil=>intro t;rfl
 |cons x r ih=>intro t;rw [List.foldl_cons,List.foldl_cons,h x Ag1];exact ih (fun y hy=>h y (Ah3 _ hy)) _
theorem Kv {l:List Pn} {ids:List Id} (hlen:l.length≤200):clash l ids=true↔∃x∈ids,∃y∈ids,bef l x y=true:=by
 unfold clash;rw [Aj3];constructor
 ·
  rintro ⟨q,_,h⟩;rw [Af8] at h;obtain ⟨x,hx,h1⟩:=List.any_eq_true.1 h.1;obtain ⟨y,hy,h2⟩:=List.any_eq_true.1 h.2;have h1':plc l x=some q:=by simpa using h1
  obtain ⟨p,m,h3,h4,h5⟩:=upB_iff.1 h2;exact ⟨x,hx,y,hy,bef_iff.2 ⟨q,p,m,h1',h3,h4,h5⟩⟩
 ·
  rintro ⟨x,hx,y,hy,h⟩;obtain ⟨i,j,m,h1,h2,h3,h4⟩:=bef_iff.1 h;have:=Ef h1;refine ⟨i,List.mem_range.2 (by omega),?_⟩;rw [Af8];exact ⟨List.any_eq_true.2 ⟨x,hx,by rw [h1];exact beq_self_eq_true _⟩,List.any_eq_true.2 ⟨y,hy,upB_iff.2 ⟨j,m,h2,h3,h4⟩⟩⟩
theorem Fx {cards:List Cd} {l:List Pn} (h:Rows cards l) {ids:List Id} {q:Nat} {n:Pn} (hq:l[q]? =some n):Ad l ids q=true↔∃id∈ids,(plc l id).isSome=true∧(id=n.id∨bef l n.id id=true):=by
 rw [Oh h.few (fun p m hm=>(h.ok p m hm).lt)];constructor
 ·
  rintro ⟨id,hid,p,m,h1,h2,h3⟩;refine ⟨id,hid,by rw [h1];rfl,?_⟩
  rcases h3 with rfl|h3
  ·
   rw [hq] at h2;injection h2 with e
   subst e;exact .inl ((h.node hq).1 h1).symm
  · exact .inr (bef_iff.2 ⟨q,p,m,(h.ok q n hq).plc,h1,h2,h3⟩)
 ·
  rintro ⟨id,hid,h1,h2⟩;obtain ⟨p,hp⟩:=Option.isSome_iff_exists.1 h1;obtain ⟨m,hm,_⟩:=Bm hp;refine ⟨id,hid,p,m,hp,hm,?_⟩
  rcases h2 with rfl|h2
  ·
   rw [(h.ok q n hq).plc] at hp;injection hp with e
   exact .inl e
  ·
   obtain ⟨i,j,m',h3,h4,h5,h6⟩:=bef_iff.1 h2;rw [(h.ok q n hq).plc] at h3;injection h3 with e
   subst e;rw [hp] at h4;injection h4 with e
   subst e;rw [hm] at h5;injection h5 with e
   subst e;exact .inr h6
theorem Zr {l:List Pn} {p:Nat→Bool} {d s:Int} (h0:0<s) (h:∀k m,l[k]? =some m→m.o.by_=d→p k=true→m.o.sq<s):∀K,Aj l p d K<s:=by
 intro K
 induction K with
 |zero=>exact h0
 |succ K ih=>
  unfold Aj
  split
  ·
   rename_i n hn
   split
   ·
    rename_i hc;rw [Af8,beq_iff_eq] at hc;have:=h K n hn hc.1 hc.2;omega
   · exact ih
  · exact ih
theorem Zs {cards:List Cd} {l m:List Pn} {o:Op} (hl:Rows cards l) (hm:Rows cards m) (hp:∀id∈o.past,(plc m id).isSome=true∧(plc l id).isSome=true∧∀a,bef m a id=bef l a id) (h0:Bu l (Ad l o.past) o=false):Bu m (Ad m o.past) o=false:=by
 unfold Bu at h0 ⊢;rw [Aj4,decide_eq_false_iff_not] at h0 ⊢;obtain ⟨h1,h2⟩:=h0
 have key:∀(q:Nat) (n:Pn),m[q]? =some n→Ad m o.past q=true→∃q' n',l[q']? =some n'∧Ad l o.past q'=true∧n'.id=n.id:=by
  intro q n hq hps;obtain ⟨id,hid,_,h4⟩:=(Fx hm hq).1 hps;obtain ⟨_,h6,h7⟩:=hp id hid
  rcases h4 with rfl|h4
  ·
   obtain ⟨q',hq'⟩:=Option.isSome_iff_exists.1 h6;obtain ⟨n',hn',e⟩:=Bm hq';exact ⟨q',n',hn',(Fx hl hn').2 ⟨n.id,hid,h6,.inl e.symm⟩,e⟩
  ·
   rw [h7] at h4;obtain ⟨i,j,x,h8,_⟩:=bef_iff.1 h4;obtain ⟨n',hn',e⟩:=Bm h8;exact ⟨i,n',hn',(Fx hl hn').2 ⟨id,hid,h6,.inr (by rw [e];exact h4)⟩,e⟩
 have yek:∀(q:Nat) (n:Pn),l[q]? =some n→Ad l o.past q=true→∃q' n',m[q']? =some n'∧Ad m o.past q'=true∧n'.id=n.id:=by
  intro q n hq hps;obtain ⟨id,hid,_,h4⟩:=(Fx hl hq).1 hps;obtain ⟨h6,_,h7⟩:=hp id hid
  rcases h4 with rfl|h4
  ·
   obtain ⟨q',hq'⟩:=Option.isSome_iff_exists.1 h6;obtain ⟨n',hn',e⟩:=Bm hq';exact ⟨q',n',hn',(Fx hm hn').2 ⟨n.id,hid,h6,.inl e.symm⟩,e⟩
  ·
   rw [← h7] at h4;obtain ⟨i,j,x,h8,_⟩:=bef_iff.1 h4;obtain ⟨n',hn',e⟩:=Bm h8;exact ⟨i,n',hn',(Fx hm hn').2 ⟨id,hid,h6,.inr (by rw [e];exact h4)⟩,e⟩
 have h0':0<o.sq:=by
  have:0≤Aj l (Ad l o.past) o.by_ l.length:=by
   have h0:∀K,0≤Aj l (Ad l o.past) o.by_ K:=by
    intro K
    induction K with
    |zero=>exact Ah0 _
    |succ K ih=>
     unfold Aj
     split
     ·
      split
      · exact Ai3 ih (Ai4 _ _)
      · exact ih
     · exact ih
   exact h0 _
  omega
 constructor
 ·
  refine Int.not_le.2 (Zr h0' (fun k n hk hb hps=> ?_) _);obtain ⟨q',n',h3,h4,h5⟩:=key k n hk hps;obtain ⟨e1,e2⟩:=hm.idAt hk;obtain ⟨e3,e4⟩:=hl.idAt h3;have h6:=Kd (p:=Ad l o.past) (d:=o.by_) (List.getElem?_eq_some_iff.1 h3).1 h3 (by rw [← e3,h5,e1,hb]) h4;rw [← e2,← h5,e4];omega
 ·
  rw [Aj5] at h2 ⊢;refine h2.imp zq (fun e=> ?_);rw [Aj6] at e ⊢;obtain ⟨k,n,_,h3,h4,h5,h6⟩:=aheadTo_iff.1 e;obtain ⟨q',n',h7,h8,h9⟩:=yek k n h3 h5;obtain ⟨e1,e2⟩:=hl.idAt h3;obtain ⟨e3,e4⟩:=hm.idAt h7;exact aheadTo_iff.2 ⟨q',n',(List.getElem?_eq_some_iff.1 h7).1,h7,by rw [← e3,h9,e1,h4],h8,by rw [← e4,h9,e2,h6]⟩
theorem Qf {cards:List Cd} {l:List Pn} {o:Op} (h:An cards l o=0):(∃c,Dn cards o.by_=some c∧Sg.check c.s o.bare o.r o.s=true)∧(o.kind=1→l=[]):=by
 unfold An at h
 by_cases h1:o.chk≠0
 · rw [if_pos h1] at h;exact absurd h h1
 rw [if_neg h1] at h
 by_cases h2:(plc l o.name).isSome=true
 · rw [if_pos h2] at h;omega
 rw [if_neg h2] at h
 by_cases h3:200≤l.length
 · rw [if_pos h3] at h;omega
 rw [if_neg h3] at h
 cases hc:Dn cards o.by_ with
 |none=>rw [hc] at h;dsimp only at h;omega
 |some c=>
  rw [hc] at h;dsimp only at h
  by_cases h4:Sg.check c.s o.bare o.r o.s=false
  · rw [if_pos h4] at h;omega
  rw [if_neg h4] at h
  by_cases h5:o.kind=1∧l≠[]
  · rw [if_pos h5] at h;omega
  refine ⟨⟨c,rfl,Bool.not_eq_false _▸h4⟩,fun hk=> ?_⟩;exact Decidable.byContradiction fun hne=>h5 ⟨hk,hne⟩
theorem Zt {o:Op} (h:o.chk=0):o.past=[]↔o.kind=1:=(chk_ok.1 h).2.2.2.2.2.2
theorem Rows.first {cards:List Cd} {l:List Pn} (h:Rows cards l) {i:Nat} {n:Pn} (hi:l[i]? =some n):n.o.kind=1↔i=0:=by
 constructor
 ·
  intro hk;have h1:=(Qf (h.step hi).1).2 hk;have h2:=(List.getElem?_eq_some_iff.1 hi).1;have h3:=congrArg List.length h1;rw [Aj7,List.length_nil] at h3;omega
 ·
  rintro rfl;refine (Zt (h.ok 0 n hi).chk).1 ?_
  cases hp:n.o.past with
  |nil=>rfl
  |cons x r=>
   obtain ⟨p,hp,_⟩:=(h.ok 0 n hi).par x (by rw [hp];exact Ag1);omega
theorem Zu {cards:List Cd} {l m:List Pn} (hl:Rows cards l) (hm:Rows cards m) (hs:Ff l m) {i:Nat} {n:Pn} (hi:l[i]? =some n) (hnew:plc m n.id=none) (hroom:m.length<200):
  An cards m n.o=if n.o.past.any (fun id=>(plc m id).isNone)=true then 10 else 0:=by
 have k:=hl.ok i n hi;have hstep:=(hl.step hi).1;obtain ⟨⟨c,hc,hsg⟩,hkd⟩:=Qf hstep;have hT:=Ka hstep;have h1:¬n.o.chk≠0:=fun h=>h k.chk;have h2:¬(plc m n.o.name).isSome=true:=by rw [← k.id,hnew];exact Ag6
 have h5:¬(n.o.kind=1∧m≠[]):=by
  rintro ⟨hk,hne⟩;have e0:=(hl.first hi).1 hk
  cases hm0:m[0]? with
  |none=>
   rw [List.getElem?_eq_none_iff] at hm0;exact hne (List.length_eq_zero_iff.1 (by omega))
  |some n'=>
   have hk':=(hm.first hm0).2 rfl;obtain ⟨j,n2,h6,h7,h8⟩:=Iq hl hm hs (hm.ok 0 n' hm0).plc hm0;rw [← h8] at hk';have e1:=(hl.first h7).1 hk';rw [e1,← e0,hi] at h7;injection h7 with h7
   have h9:=(hm.ok 0 n' hm0).plc;have e3:n'.id=n.id:=by rw [(hm.ok 0 n' hm0).id,k.id,h7,h8]
   rw [e3,hnew] at h9
   cases h9
 unfold An;rw [if_neg h1,if_neg h2,if_neg (by omega),hc];dsimp only;rw [if_neg (by rw [hsg];decide),if_neg h5]
 by_cases hp:n.o.past.any (fun id=>(plc m id).isNone)=true
 · rw [if_pos hp,if_pos hp]
 rw [if_neg hp,if_neg hp]
 have hpar:∀id∈n.o.past,∃j,plc m id=some j:=by
  intro id hid
  cases hq:plc m id with
  |some j=>exact ⟨j,rfl⟩
  |none=>exact absurd (List.any_eq_true.2 ⟨id,hid,by rw [hq];rfl⟩) hp
 have hl0:=hl.take i;have hs0:=Zo l i
 have hbm:∀id∈n.o.past,∀a,bef m a id=bef (l.take i) a id:=by
  intro id hid a;obtain ⟨j,hj⟩:=hpar id hid;obtain ⟨p,hp⟩:=hT.past id hid;rw [Ku hl hm hs j id a hj,Ku hl hl0 hs0 p id a hp]
 have h7:¬(clash m n.o.past=true∨n.o.at_<late m n.o.past):=by
  rintro (h|h)
  ·
   obtain ⟨x,hx,y,hy,hb⟩:=(Kv hm.few).1 h;rw [hbm y hy] at hb;have:=(Kv hl0.few).2 ⟨x,hx,y,hy,hb⟩;rw [hT.clash] at this
   cases this
  ·
   have e:late m n.o.past=late (l.take i) n.o.past:=Zq (fun id hid=>by
    obtain ⟨j,hj⟩:=hpar id hid;obtain ⟨p,hp⟩:=hT.past id hid;rw [Qe hl hm hs hj,Qe hl hl0 hs0 hp])
   rw [e] at h;exact absurd hT.late (Int.not_le.2 h)
 have h8:Bu m (Ad m n.o.past) n.o=false:=Zs hl0 hm (fun id hid=>by
  obtain ⟨j,hj⟩:=hpar id hid;obtain ⟨p,hp⟩:=hT.past id hid;exact ⟨by rw [hj];rfl,by rw [hp];rfl,hbm id hid⟩) hT.seq
 rw [if_neg h7,h8];rfl
def ready (m:List Pn) (o:Op):Bool:=!o.past.any (fun id=>(plc m id).isNone)
structure Cp (cards:List Cd) (l m:List Pn) (left:List Op):Prop where
 rl:Rows cards l
 rm:Rows cards m
 perm:(m.map Pn.o++left).Perm (l.map Pn.o)
theorem Cp.among {cards:List Cd} {l m:List Pn} {left:List Op} (h:Cp cards l m left):Ff l m:=by
 intro n' hn;have h1:n'.o∈l.map Pn.o:=h.perm.mem_iff.1 (Aj8 _ (Ah9 hn));obtain ⟨n,h2,h3⟩:=List.mem_map.1 h1;exact ⟨n,h2,h3⟩
theorem Rows.names {cards:List Cd} {l:List Pn} (h:Rows cards l):(l.map Pn.o).map Op.name=l.map Pn.id:=by
 rw [List.map_map];refine List.map_congr_left (fun n hn=> ?_);obtain ⟨i,hi⟩:=Ag0 hn;exact (h.ok i n hi).id.symm
theorem Cp.nodup {cards:List Cd} {l m:List Pn} {left:List Op} (h:Cp cards l m left):(m.map Pn.id++left.map Op.name).Nodup:=by
 have h1:=h.perm.map Op.name;rw [List.map_append,h.rm.names,h.rl.names] at h1;exact h1.nodup_iff.2 h.rl.nodup
theorem Cp.of {cards:List Cd} {l m:List Pn} {left:List Op} (h:Cp cards l m left) {o:Op} (ho:o∈left):∃(i:Nat) (n:Pn),l[i]? =some n∧n.o=o∧plc m n.id=none:=by
 have h1:o∈l.map Pn.o:=h.perm.mem_iff.1 (Aj9 _ ho);obtain ⟨n,h2,h3⟩:=List.mem_map.1 h1;obtain ⟨i,hi⟩:=Ag0 h2;refine ⟨i,n,hi,h3,?_⟩
 cases hp:plc m n.id with
 |none=>rfl
 |some j=>
  obtain ⟨n',hn',e⟩:=Bm hp;have h4:=(List.nodup_append.1 h.nodup).2.2 n'.id (Ah9 (Af9 hn')) o.name (Ah9 ho);rw [e,(h.rl.ok i n hi).id,h3] at h4;exact absurd rfl h4
theorem Cp.err {cards:List Cd} {l m:List Pn} {left:List Op} (h:Cp cards l m left) (hlen:l.length<200) {o:Op} (ho:o∈left):An cards m o=if ready m o=true then 0 else 10:=by
 obtain ⟨i,n,h1,rfl,h3⟩:=h.of ho
 have hle:m.length≤l.length:=by
  have:=h.perm.length_eq;rw [Ah8,Ag5,Ag5] at this;omega
 rw [Zu h.rl h.rm h.among h1 h3 (by omega)];unfold ready
 cases n.o.past.any (fun id=>(plc m id).isNone)<;>rfl
theorem Cp.take {cards:List Cd} {l m:List Pn} {left:List Op} (h:Cp cards l m left) (hlen:l.length<200) {k:Nat} {o:Op} (hk:left[k]? =some o) (hr:ready m o=true):Cp cards l (m++[Aq m o]) (left.eraseIdx k):=by
 have he:=h.err hlen (Af9 hk);rw [if_pos hr] at he;refine ⟨h.rl,.snoc m o h.rm he,?_⟩;refine List.Perm.trans ?_ h.perm;rw [List.map_append,List.append_assoc];refine List.Perm.append_left _ ?_;obtain ⟨hlt,rfl⟩:=List.getElem?_eq_some_iff.1 hk;rw [List.eraseIdx_eq_take_drop_succ];conv=>rhs;rw [← List.take_append_drop k left,List.drop_eq_getElem_cons hlt]
 exact (List.perm_middle (a:=left[k]) (l₁:=left.take k) (l₂:=left.drop (k+1))).symm
def Tried (m:List Pn) (left:List Op) (i:Nat):Prop:=
 ∃j,i≤60+14*(14-left.length)+j∧(0<j→60+j≤i∧j<left.length∧∀t,t<j→∀o,left[(i-1-t)%left.length]? =some o→ready m o=false)
theorem Tried.few {m:List Pn} {left:List Op} {i:Nat} (h:Tried m left i) (hlen:left.length≤14) (hne:left≠[]):i<400:=by
 obtain ⟨j,h1,h2⟩:=h;have h3:0<left.length:=List.length_pos_iff.2 hne
 rcases Ak0 j with h0|h0
 · omega
 ·
  have:=(h2 h0).2.1;omega
theorem Tried.hit {m m':List Pn} {left:List Op} {i k:Nat} (h:Tried m left i) (hlen:left.length≤14) (hk:k<left.length):Tried m' (left.eraseIdx k) (i+1):=by
 obtain ⟨j,h1,h2⟩:=h;have h3:(left.eraseIdx k).length=left.length-1:=List.length_eraseIdx_of_lt hk;refine ⟨0,?_,fun e=>absurd e (Nat.lt_irrefl 0)⟩;rw [h3]
 rcases Ak0 j with h0|h0
 · omega
 ·
  have:=(h2 h0).2.1;omega
theorem Cp.ends {cards:List Cd} {l m:List Pn} (h:Cp cards l m []):(m.map Pn.id).Perm (l.map Pn.id):=by
 have h1:=h.perm.map Op.name;rw [List.append_nil,h.rm.names,h.rl.names] at h1;exact h1
theorem Cp.lev {cards:List Cd} {l m:List Pn} (h:Cp cards l m []) {x:Id} (hx:x∈l.map Pn.id):Az m x=Az l x:=by
 obtain ⟨n,h1,rfl⟩:=List.mem_map.1 (h.ends.mem_iff.2 hx);obtain ⟨j,hj⟩:=Ag0 h1;exact Zp h.rl h.rm h.among j _ (h.rm.ok j n hj).plc
theorem Qg {cards:List Cd} {l:List Pn} (h:Rows cards l) {x id:Id}:id∈C6 l (Bn l [x]) l.length↔bef l id x=true:=by
 rw [Zn,bef_iff];unfold Bn;constructor
 ·
  rintro ⟨i,n,h1,h2,rfl⟩;rw [Ai5,List.any_nil,Bool.or_false] at h1;obtain ⟨p,m,h3,h4,h5⟩:=upB_iff.1 h1;exact ⟨i,p,m,(h.ok i n h2).plc,h3,h4,h5⟩
 ·
  rintro ⟨i,j,m,h1,h2,h3,h4⟩;obtain ⟨n,hn,e⟩:=Bm h1;refine ⟨i,n,?_,hn,e⟩;rw [Ai5,List.any_nil,Bool.or_false];exact upB_iff.2 ⟨j,m,h2,h3,h4⟩
theorem Cp.past {cards:List Cd} {l m:List Pn} (h:Cp cards l m []) {x:Id} (hx:x∈l.map Pn.id):(C6 m (Bn m [x]) m.length).Perm (C6 l (Bn l [x]) l.length):=by
 obtain ⟨n,h1,rfl⟩:=List.mem_map.1 (h.ends.mem_iff.2 hx);obtain ⟨j,hj⟩:=Ag0 h1;refine (Ak1 (Qa h.rm _ _) (Qa h.rl _ _)).2 fun id=> ?_;rw [Qg h.rm,Qg h.rl,Ku h.rl h.rm h.among j _ _ (h.rm.ok j n hj).plc]
def inP (l:List Pn) (k p:Nat):Bool:=(l[k]?.map (fun n=>n.ps p)).getD false
def nmP (l:List Pn) (p:Nat):Id:=(l[p]?.map Pn.id).getD ⟨0,0,0⟩
theorem Dw {l:List Pn} {p:Nat} {n:Pn} (h:l[p]? =some n):nmP l p=n.id:=by unfold nmP;rw [h];rfl
theorem Fy {l:List Pn} {k p:Nat} {n:Pn} (h:l[k]? =some n):inP l k p=n.ps p:=by unfold inP;rw [h];rfl
def Br (l:List Pn) (places:List Nat):Nat→List Nat
 |0=>[]
 |k+1=>match places[k]? with
  |some p=>if ((Br l places k).contains p||places.any (fun q=>inP l q p))=true then Br l places k else Br l places k++[p]
  |none=>Br l places k
def Cl (l:List Pn) (places:List Nat):List Nat:=Br l places places.length
theorem Ir (l:List Pn) (places:List Nat):∀k,(Br l places k).length≤k
 |0=>Ag7 _
 |k+1=>by
  have ih:=Ir l places k;unfold Br
  split
  ·
   split
   · omega
   · rw [Ah8,Aj2];omega
  · omega
theorem Qh (l:List Pn) (places:List Nat):∀k,(Br l places k).Nodup
 |0=>Ai1
 |k+1=>by
  have ih:=Qh l places k;unfold Br
  split
  ·
   rename_i p _
   split
   · exact ih
   ·
    rename_i hc;refine List.nodup_append.2 ⟨ih,by simp,fun a ha b hb=> ?_⟩;obtain rfl:=List.mem_singleton.1 hb;rintro rfl;rw [List.contains_iff_mem.2 ha] at hc;exact hc rfl
  · exact ih
theorem Gu {l:List Pn} {places:List Nat}:∀(k:Nat) {p:Nat},p∈Br l places k→p∈places∧∀q∈places,inP l q p=false
 |0,p,h=>by unfold Br at h;cases h
 |k+1,p,h=>by
  have ih:=Gu (l:=l) (places:=places) k (p:=p);unfold Br at h
  cases hx:places[k]? with
  |none=>rw [hx] at h;exact ih h
  |some y=>
   rw [hx] at h;dsimp only at h
   by_cases hc:((Br l places k).contains y||places.any (fun q=>inP l q y))=true
   · rw [if_pos hc] at h;exact ih h
   ·
    rw [if_neg hc] at h
    rcases List.mem_append.1 h with h|h
    · exact ih h
    ·
     obtain rfl:=List.mem_singleton.1 h;refine ⟨Af9 hx,fun q hq=> ?_⟩
     cases hi:inP l q p with
     |false=>rfl
     |true=>
      refine absurd ?_ hc;rw [Ah4];exact .inr (List.any_eq_true.2 ⟨q,hq,hi⟩)
theorem Qi {l:List Pn} {places:List Nat} {p:Nat} (hp:∀q∈places,inP l q p=false):∀(k j:Nat),j<k→places[j]? =some p→p∈Br l places k
 |0,j,h,_=>absurd h (Nat.not_lt_zero j)
 |k+1,j,h,hj=>by
  have ih:=Qi (l:=l) (places:=places) hp k j;unfold Br
  rcases Ag8 j k with hjk|hjk
  ·
   have:=ih hjk hj
   split
   ·
    split
    · exact this
    · exact Aj8 _ this
   · exact this
  ·
   obtain rfl:j=k:=by omega
   rw [hj];dsimp only
   split
   ·
    rename_i hc;rw [Ah4] at hc
    rcases hc with hc|hc
    · exact List.contains_iff_mem.1 hc
    ·
     obtain ⟨q,hq,h2⟩:=List.any_eq_true.1 hc;rw [hp q hq] at h2
     cases h2
   · exact Aj9 _ Ag1
theorem Zv {cards:List Cd} {l:List Pn} (h:Rows cards l) {places:List Nat} (hne:places≠[]) (hlt:∀p∈places,p<l.length):Cl l places≠[]:=by
 have hmax:∃p∈places,∀q∈places,q≤p:=by
  clear hlt
  induction places with
  |nil=>exact absurd rfl hne
  |cons x r ih=>
   cases r with
   |nil=>exact ⟨x,Ag1,fun q hq=>by rw [List.mem_singleton.1 hq];exact Ag7 _⟩
   |cons y r=>
    obtain ⟨p,hp,hq⟩:=ih (by simp)
    rcases Ag8 p x with hx|hx
    ·
     refine ⟨x,Ag1,fun q hq2=> ?_⟩
     rcases List.mem_cons.1 hq2 with rfl|h2
     · exact Ag7 _
     · have:=hq q h2;omega
    ·
     refine ⟨p,Ah3 _ hp,fun q hq2=> ?_⟩
     rcases List.mem_cons.1 hq2 with rfl|h2
     · exact hx
     · exact hq q h2
 obtain ⟨p,hp,hq⟩:=hmax;obtain ⟨j,hj⟩:=Ag0 hp
 have hm:=Qi (l:=l) (places:=places) (p:=p) (fun q hq2=>by
  cases hi:inP l q p with
  |false=>rfl
  |true=>
   have hql:=hlt q hq2;have hn:l[q]? =some l[q]:=Ag2 hql;rw [Fy hn] at hi;have:=(h.ok q _ hn).lt p hi;have:=hq q hq2;omega) places.length j (List.getElem?_eq_some_iff.1 hj).1 hj
 intro e;unfold Cl at e;rw [e] at hm
 cases hm
theorem Kw {l:List Pn} {p:Nat→Bool} {d:Int}:∀(K:Nat),0<Aj l p d K→∃k m,k<K∧l[k]? =some m∧m.o.by_=d∧p k=true∧m.o.sq=Aj l p d K
 |0,h=>by unfold Aj at h;omega
 |K+1,h=>by
  have ih:=Kw (l:=l) (p:=p) (d:=d) K;unfold Aj at h ⊢
  cases hK:l[K]? with
  |none=>
   rw [hK] at h;dsimp only at h ⊢;obtain ⟨k,m,h1,h2⟩:=ih h;exact ⟨k,m,by omega,h2⟩
  |some n=>
   rw [hK] at h;dsimp only at h ⊢
   by_cases hc:(n.o.by_==d&&p K)=true
   ·
    rw [if_pos hc] at h ⊢
    rcases Int.le_total (Aj l p d K) n.o.sq with hle|hle
    ·
     rw [Int.max_eq_right hle];rw [Af8,beq_iff_eq] at hc;exact ⟨K,n,by omega,hK,hc.1,hc.2,rfl⟩
    ·
     rw [Int.max_eq_left hle] at h ⊢;obtain ⟨k,m,h1,h2⟩:=ih h;exact ⟨k,m,by omega,h2⟩
   ·
    rw [if_neg hc] at h ⊢;obtain ⟨k,m,h1,h2⟩:=ih h;exact ⟨k,m,by omega,h2⟩
theorem Is (l:List Pn) (p:Nat→Bool) (d:Int):∀K,0≤Aj l p d K
 |0=>Ah0 _
 |K+1=>by
  have ih:=Is l p d K;unfold Aj
  split
  ·
   split
   · exact Ai3 ih (Ai4 _ _)
   · exact ih
  · exact ih
theorem Ky {l:List Pn} {p:Nat→Bool} {d m:Int} (h0:0≤m) (h:∀n∈l,n.o.sq≤m):∀K,Aj l p d K≤m
 |0=>h0
 |K+1=>by
  have ih:=Ky (l:=l) (p:=p) (d:=d) h0 h K;unfold Aj
  split
  ·
   rename_i n hn
   split
   · exact Int.max_le.2 ⟨ih,h n (Af9 hn)⟩
   · exact ih
  · exact ih
theorem Qj {l:List Pn} {ids:List Id} {m:Int} (h0:0≤m) (h:∀id∈ids,Bo l id≤m):late l ids≤m:=by
 unfold late
 suffices H:∀t:Int,t≤m→ids.foldl (fun t id=>max t (Bo l id)) t≤m from H 0 h0
 induction ids with
 |nil=>intro t ht;exact ht
 |cons x r ih=>intro t ht;exact ih (fun y hy=>h y (Ah3 _ hy)) _ (Int.max_le.2 ⟨ht,h x Ag1⟩)
theorem Qk (l:List Pn) (ids:List Id):0≤late l ids:=by
 unfold late
 suffices H:∀t:Int,0≤t→0≤ids.foldl (fun t id=>max t (Bo l id)) t from H 0 (Ah0 _)
 induction ids with
 |nil=>intro t ht;exact ht
 |cons x r ih=>intro t ht;exact ih _ (Ai3 ht (Ai4 _ _))
def Ck (k:Int) (b s a:Int) (past:List Id) (e:Id) (y:List UInt8):Op:=if k=7 then {base b s 7 a past [] with of:=e,body:=y} else {base b s 4 a past [] with need:=0}
theorem It (k b s a:Int) (past:List Id) (e:Id) (y:List UInt8):(Ck k b s a past e y).past=past:=by unfold Ck;split<;>rfl
theorem Gv (k b s a:Int) (past:List Id) (e:Id) (y:List UInt8):(Ck k b s a past e y).by_=b:=by unfold Ck;split<;>rfl
theorem Zw (k b s a:Int) (past:List Id) (e:Id) (y:List UInt8):(Ck k b s a past e y).sq=s:=by unfold Ck;split<;>rfl
theorem Kz (k b s a:Int) (past:List Id) (e:Id) (y:List UInt8):(Ck k b s a past e y).at_=a:=by unfold Ck;split<;>rfl
theorem Zx (k b s a:Int) (past:List Id) (e:Id) (y:List UInt8):(Ck k b s a past e y).kind≠1:=by
 unfold Ck
 split
 ·
  show (7:Int)≠1
  decide
 ·
  show (4:Int)≠1
  decide
theorem Zy {k b s a:Int} {past:List Id} {e:Id} {y:List UInt8} (hb:1≤b∧b≤12) (hs:1≤s∧s≤2147483647) (ha:0≤a∧a≤2147483647) (hp:past.length≤12∧(∀x∈past,x.named=true)∧Row past∧past≠[]) (he:e.named=true) (hy:1≤y.length∧y.length≤20):(Ck k b s a past e y).chk=0:=by
 unfold Ck
 split
 · exact To ⟨by decide,hb,hs,ha,⟨hp.1,hp.2.1,hp.2.2.1,⟨fun h=>absurd h hp.2.2.2,fun h=>by cases h⟩⟩,⟨by decide,fun _ h=>absurd h Ai2,.inl rfl⟩⟩ he hy
 · exact Tn ⟨by decide,hb,hs,ha,⟨hp.1,hp.2.1,hp.2.2.1,⟨fun h=>absurd h hp.2.2.2,fun h=>by cases h⟩⟩,⟨by decide,fun _ h=>absurd h Ai2,.inl rfl⟩⟩
structure FkB (l:List Pn):Prop where
 sq:∀n∈l,n.o.sq≤l.length
 at_:∀n∈l,n.o.at_≤3*l.length
 by_:∀n∈l,1≤n.o.by_∧n.o.by_≤12
 s1:∀n∈l,1≤n.o.sq
 few:l.length≤14
def Gw (l:List Pn) (k b dt:Int) (hs:List Nat) (e:Id) (y:List UInt8):Op:=
 Ck k b (Aj l (Ad l (hs.map (nmP l))) b l.length+1) (dt+late l (hs.map (nmP l))) (Ak (hs.map (nmP l))) e y
theorem Ql {l:List Pn} {xs ys:List Id} (h:xs.Perm ys):Ad l xs=Ad l ys:=by
 funext q;unfold Ad Bn Cc;rw [h.any_eq,h.any_eq]
theorem Zz {cards:List Cd} {l:List Pn} (h:Rows cards l) (hB:FkB l) (hc:∀b:Int,1≤b→b≤4→∃c,Dn cards b=some c∧c.s=Sg.pub (sec Bf b.toNat)) {hs:List Nat} (hne:hs≠[]) (hnd:hs.Nodup) (h3:hs.length≤3) (hlt:∀p∈hs,p<l.length) (hanti:∀p∈hs,∀q∈hs,inP l q p=false)
  {k b dt:Int} (hb:1≤b∧b≤4) (hdt:0≤dt∧dt≤3) {e:Id} {y:List UInt8} (he:e.named=true) (hy:1≤y.length∧y.length≤20) (hnew:plc l (Gw l k b dt hs e y).name=none):An cards l (sgn (Gw l k b dt hs e y))=0:=by
 obtain ⟨c,ao,af⟩:=hc b hb.1 hb.2;have ac:∀p∈hs,∃n,l[p]? =some n∧nmP l p=n.id:=fun p hp=>⟨_,Ag2 (hlt p hp),Dw (Ag2 (hlt p hp))⟩
 have ab:(hs.map (nmP l)).Nodup:=by
  rw [Ah7,Ak2];refine hnd.imp_of_mem (fun {p q} hp hq hpq e=>hpq ?_);obtain ⟨n,hn,e1⟩:=ac p hp;obtain ⟨m,hm,e2⟩:=ac q hq;have k1:=(h.ok p n hn).plc;have k2:=(h.ok q m hm).plc;rw [← e1,e,e2,k2] at k1;injection k1 with k1
  exact k1.symm
 have aa:∀x∈Ak (hs.map (nmP l)),∃p n,p∈hs∧l[p]? =some n∧n.id=x∧plc l x=some p:=by
  intro x hx;obtain ⟨p,hp,rfl⟩:=List.mem_map.1 ((Cg _).mem_iff.1 hx);obtain ⟨n,hn,e1⟩:=ac p hp;exact ⟨p,n,hp,hn,e1.symm,by rw [e1];exact (h.ok p n hn).plc⟩
 have ae:∀n∈l,n.id.named=true:=by
  intro n hn;obtain ⟨i,hi⟩:=Ag0 hn;rw [(h.ok i n hi).id];refine P4 (hB.by_ n hn) ⟨hB.s1 n hn,?_⟩;have:=hB.sq n hn;have:=hB.few;omega
 have al:=Is l (Ad l (hs.map (nmP l))) b l.length;have ai:Aj l (Ad l (hs.map (nmP l))) b l.length≤l.length:=Ky (by omega) hB.sq _
 have ag:late l (hs.map (nmP l))≤3*l.length:=by
  refine Qj (by omega) (fun x hx=> ?_);obtain ⟨p,hp,rfl⟩:=List.mem_map.1 hx;obtain ⟨n,hn,e1⟩:=ac p hp;rw [e1,Fc (h.ok p n hn).plc hn];exact hB.at_ n (Af9 hn)
 have ah:=hB.few;have ak:=Qk l (hs.map (nmP l));unfold Gw at hnew ⊢;generalize hS:Aj l (Ad l (hs.map (nmP l))) b l.length=S at*;generalize hT:late l (hs.map (nmP l))=T at*
 have ad:(Ck k b (S+1) (dt+T) (Ak (hs.map (nmP l))) e y).chk=0:=by
  refine Zy ⟨hb.1,by omega⟩ ⟨by omega,by omega⟩ ⟨by omega,by omega⟩ ⟨?_,?_,M9 ab,?_⟩ he hy
  · rw [(Cg _).length_eq,Ag5];omega
  ·
   intro x hx;obtain ⟨p,n,_,hn,rfl,_⟩:=aa x hx;exact ae n (Af9 hn)
  ·
   intro e0;have:=(Cg (hs.map (nmP l))).length_eq;rw [e0,Ag5,List.length_nil] at this;exact hne (List.length_eq_zero_iff.1 this.symm)
 refine P3 ad hnew (by omega) (by rw [Gv];exact ao) (by rw [Gv];exact af) (.inl (Zx _ _ _ _ _ _ _)) ?_ ?_ ?_ ?_
 ·
  rw [It,Ak3];intro x hx;obtain ⟨p,n,_,_,_,h4⟩:=aa x hx;rw [h4];exact Ag6
 ·
  rw [It]
  cases hcl:clash l (Ak (hs.map (nmP l))) with
  |false=>rfl
  |true=>
   obtain ⟨x,hx,z,hz,hb⟩:=(Kv h.few).1 hcl;obtain ⟨p,n,hp,hn,_,h4⟩:=aa x hx;obtain ⟨q,m,hq,hm,_,h5⟩:=aa z hz;obtain ⟨i,j,m',e1,e2,e3,e4⟩:=bef_iff.1 hb;rw [h4] at e1;injection e1 with e1
   rw [h5] at e2;injection e2 with e2
   subst e1 e2;have:=hanti p hp q hq;rw [Fy e3,e4] at this
   cases this
 ·
  rw [It,Kz];refine Qj (by omega) (fun x hx=> ?_);have h1:Bo l x≤T:=by rw [← hT];exact Oi ((Cg _).mem_iff.1 hx)
  omega
 ·
  rw [It];have aj:Ad l (Ak (hs.map (nmP l)))=Ad l (hs.map (nmP l)):=Ql (Cg _);rw [aj];unfold Bu;rw [Gv,Zw,hS,Aj4];refine ⟨decide_eq_false (by omega),?_⟩;rw [Aj5]
  rcases Int.lt_or_le 0 S with h0|h0
  ·
   right;rw [Aj6];obtain ⟨q,m,h1,h2,h4,h5,h6⟩:=Kw l.length (by rw [hS];exact h0);exact aheadTo_iff.2 ⟨q,m,h1,h2,h4,h5,by rw [h6,hS];omega⟩
  ·
   left;exact decide_eq_false (by omega)
def Ai (ids:List Id) (d s:Int):Nat:=(ids.filter (fun x=>x.b==d&&x.s==s)).length
def Dk (ids:List Id) (d:Int):Nat→Int
 |0=>0
 |k+1=>match ids[k]? with
  |some x=>if (x.b==d&&decide (1<Ai ids d x.s)&&(Dk ids d k==0||decide (x.s<Dk ids d k)))=true then x.s else Dk ids d k
  |none=>Dk ids d k
def Am (ids:List Id) (d:Int):Int:=Dk ids d ids.length
theorem Qm {ids : List Id} {d : Int} (h0 : ∀ x ∈ ids, 0 < x.s) : ∀ (k : Nat),
    (Dk ids d k = 0 ∧ ∀ (j : Nat) (x : Id), j < k → ids[j]? = some x → x.b = d → ¬ 1 < Ai ids d x.s) ∨
    (0 < Dk ids d k ∧ 1 < Ai ids d (Dk ids d k) ∧ ∀ (j : Nat) (x : Id), j < k → ids[j]? = some x → x.b = d → 1 < Ai ids d x.s → Dk ids d k ≤ x.s)
  | 0 => .inl ⟨rfl, fun j x h => absurd h (Nat.not_lt_zero j)⟩
  | k + 1 => by
    have ih := Qm (d := d) h0 k;unfold Dk
    cases hx : ids[k]? with
    | none =>
      dsimp only;refine ih.imp (fun h => ⟨h.1, fun j x hj hx2 => ?_⟩) (fun h => ⟨h.1, h.2.1, fun j x hj hx2 => ?_⟩)
      · exact h.2 j x (by rcases Ag8 j k with h1 | h1; exact h1; have e : j = k := by omega
                          rw [e, hx] at hx2; cases hx2) hx2
      · exact h.2.2 j x (by rcases Ag8 j k with h1 | h1; exact h1; have e : j = k := by omega
                            rw [e, hx] at hx2; cases hx2) hx2
    | some y =>
      dsimp only;have hy := h0 y (Af9 hx)
      have last : ∀ (j : Nat) (x : Id), j < k + 1 → ids[j]? = some x → j < k ∨ x = y := fun j x hj hx2 => by
        rcases Ag8 j k with h1 | h1
        · exact .inl h1
        · have e : j = k := by omega
          rw [e, hx] at hx2;injection hx2 with hx2
          exact .inr hx2.symm
      by_cases hc : (y.b == d && decide (1 < Ai ids d y.s) && (Dk ids d k == 0 || decide (y.s < Dk ids d k))) = true
      · rw [if_pos hc]
        rw [Af8, Af8, Ah4, beq_iff_eq, beq_iff_eq, decide_eq_true_iff, decide_eq_true_iff] at hc;obtain ⟨⟨c1, c2⟩, c3⟩ := hc;refine .inr ⟨hy, c2, fun j x hj hx2 hb hm => ?_⟩
        rcases last j x hj hx2 with h1 | rfl
        · rcases ih with ⟨i1, i2⟩ | ⟨i1, i2, i3⟩
          · exact absurd hm (i2 j x h1 hx2 hb)
          · have := i3 j x h1 hx2 hb hm
            omega
        · exact Ah0 _
      · rw [if_neg hc]
        rcases ih with ⟨i1, i2⟩ | ⟨i1, i2, i3⟩
        · refine .inl ⟨i1, fun j x hj hx2 hb => ?_⟩
          rcases last j x hj hx2 with h1 | rfl
          · exact i2 j x h1 hx2 hb
          · intro hm
            refine hc ?_;rw [i1, hb, decide_eq_true hm];simp
        · refine .inr ⟨i1, i2, fun j x hj hx2 hb hm => ?_⟩
          rcases last j x hj hx2 with h1 | rfl
          · exact i3 j x h1 hx2 hb hm
          · refine Int.not_lt.1 fun hlt => hc ?_
            rw [hb, decide_eq_true hm, decide_eq_true hlt];simp
theorem Dx {ids:List Id} (h0:∀x∈ids,0<x.s) (d:Int):
  (Am ids d=0∧∀x∈ids,x.b=d→¬1<Ai ids d x.s)∨(0<Am ids d∧1<Ai ids d (Am ids d)∧∀x∈ids,x.b=d→1<Ai ids d x.s→Am ids d≤x.s):=by
 refine (Qm (d:=d) h0 ids.length).imp (fun h=>⟨h.1,fun x hx=> ?_⟩) (fun h=>⟨h.1,h.2.1,fun x hx=> ?_⟩)
 ·
  obtain ⟨j,hj⟩:=Ag0 hx;exact h.2 j x (List.getElem?_eq_some_iff.1 hj).1 hj
 ·
  obtain ⟨j,hj⟩:=Ag0 hx;exact h.2.2 j x (List.getElem?_eq_some_iff.1 hj).1 hj
theorem Fz {ids:List Id} {d s:Int} (h:0<Ai ids d s):∃x∈ids,x.b=d∧x.s=s:=by
 unfold Ai at h;obtain ⟨x,hx⟩:=List.exists_mem_of_length_pos h;rw [List.mem_filter,Af8,beq_iff_eq,beq_iff_eq] at hx;exact ⟨x,hx.1,hx.2⟩
theorem Qn {ids:List Id} {x y:Id} (hx:x∈ids) (hy:y∈ids) (hb:x.b=y.b) (hs:x.s=y.s) (h:¬1<Ai ids x.b x.s):x=y:=by
 unfold Ai at h;have h1:x∈ids.filter (fun z=>z.b==x.b&&z.s==x.s):=List.mem_filter.2 ⟨hx,by simp⟩;have h2:y∈ids.filter (fun z=>z.b==x.b&&z.s==x.s):=List.mem_filter.2 ⟨hy,by simp [hb,hs]⟩;generalize ids.filter (fun z=>z.b==x.b&&z.s==x.s)=l at*
 match l,h,h1,h2 with
 |[],_,h1,_=>cases h1
 |[z],_,h1,h2=>rw [List.mem_singleton.1 h1,List.mem_singleton.1 h2]
 |z::u::r,h,_,_=>exact absurd (by simp:1<(z::u::r).length) h
theorem Qo {xs ys:List Id} (hs:∀d s,Ai xs d s≤Ai ys d s) (h0:∀x∈xs,0<x.s) (h0':∀x∈ys,0<x.s) (hsub:∀x∈xs,x∈ys) {d:Int} (h:0<Am xs d):0<Am ys d∧Am ys d≤Am xs d:=by
 rcases Dx h0 d with ⟨a1,_⟩|⟨a1,a2,_⟩
 · omega
 obtain ⟨x,hx,e1,e2⟩:=Fz (by omega:0<Ai xs d (Am xs d));have hm:1<Ai ys d x.s:=by have:=hs d x.s;rw [e2] at this ⊢;omega
 rcases Dx h0' d with ⟨b1,b2⟩|⟨b1,b2,b3⟩
 · exact absurd hm (b2 x (hsub x hx) e1)
 ·
  have:=b3 x (hsub x hx) e1 hm;exact ⟨b1,by omega⟩
theorem Ei {α:Type} [BEq α] [LawfulBEq α]:∀{xs ys:List α},xs.Nodup→(∀x∈xs,x∈ys)→xs.length≤ys.length
 |[],_,_,_=>Nat.zero_le _
 |x::r,ys,hn,hs=>by
  rw [List.nodup_cons] at hn;have hx:=hs x Ag1;have h:=Ei (xs:=r) (ys:=ys.erase x) hn.2 (fun z hz=>(List.mem_erase_of_ne (fun e=>hn.1 (by rw [← e];exact hz))).2 (hs z (Ah3 _ hz)));rw [List.length_erase_of_mem hx] at h;have:=List.length_pos_of_mem hx;rw [List.length_cons];omega
def Cs (ids:List Id) (x:Id):Bool:=decide (0<Am ids x.b)&&decide (Am ids x.b≤x.s)
def As (ids:List Id):List Id:=Ak (ids.filter (Cs ids))
def Ah (ids:List Id):List (Int × Int):=(Ai0 12).filterMap (fun (i:Nat)=>if 0<Am ids ((i:Int)+1) then some ((i:Int)+1,Am ids ((i:Int)+1)) else none)
theorem mem_forksK {ids:List Id} {d n:Int}:(d,n)∈Ah ids↔(1≤d∧d≤12)∧0<n∧n=Am ids d:=by
 unfold Ah;rw [List.mem_filterMap];constructor
 ·
  rintro ⟨i,hi,h⟩;rw [List.mem_range] at hi
  split at h
  ·
   rename_i h0;injection h with h
   injection h with e1 e2
   subst e1 e2;exact ⟨by omega,h0,rfl⟩
  · cases h
 ·
  rintro ⟨hd,hn,rfl⟩;refine ⟨(d-1).toNat,List.mem_range.2 (by omega),?_⟩;have e:((d-1).toNat:Int)+1=d:=by omega
  rw [e,if_pos hn]
theorem Qp {ids:List Id} {x:Id} (hx:1≤x.b∧x.b≤12):Cs ids x=(Ah ids).any (fun f=>f.1==x.b&&decide (f.2≤x.s)):=by
 rw [Ag9,Aj3];unfold Cs;rw [Af8,decide_eq_true_iff,decide_eq_true_iff];constructor
 ·
  rintro ⟨h1,h2⟩;exact ⟨(x.b,Am ids x.b),mem_forksK.2 ⟨hx,h1,rfl⟩,by simp [h2]⟩
 ·
  rintro ⟨⟨d,n⟩,h1,h2⟩;obtain ⟨_,h3,rfl⟩:=mem_forksK.1 h1;rw [Af8,beq_iff_eq,decide_eq_true_iff] at h2;obtain ⟨rfl,h4⟩:=h2;exact ⟨h3,h4⟩
theorem mem_voidK {ids:List Id} {x:Id}:x∈As ids↔x∈ids∧Cs ids x=true:=by
 unfold As;rw [(Cg _).mem_iff,List.mem_filter]
theorem Z0 {ids:List Id} (h0:∀x∈ids,0<x.s):(Ah ids).length≤(As ids).length:=by
 have hn:((Ah ids).map Prod.fst).Nodup:=by
  unfold Ah;rw [List.map_filterMap]
  have e:(fun i:Nat=>Option.map Prod.fst (if 0<Am ids ((i:Int)+1) then some ((i:Int)+1,Am ids ((i:Int)+1)) else none))=(fun i:Nat=>if 0<Am ids ((i:Int)+1) then some ((i:Int)+1) else none):=by
   funext i
   split<;>rfl
  rw [e];rw [Ah7,Ak4];refine (List.nodup_range (n:=12)).imp (fun {a b} hab x hx y hy e=>hab ?_)
  split at hx
  ·
   split at hy
   ·
    injection hx with hx
    injection hy with hy
    omega
   · cases hy
  · cases hx
 have hs:∀d∈(Ah ids).map Prod.fst,d∈(As ids).map Id.b:=by
  intro d hd;obtain ⟨⟨d',n⟩,h1,rfl⟩:=List.mem_map.1 hd;obtain ⟨_,h2,rfl⟩:=mem_forksK.1 h1
  rcases Dx h0 d' with ⟨a1,_⟩|⟨a1,a2,_⟩
  · omega
  obtain ⟨x,hx,e1,e2⟩:=Fz (by omega:0<Ai ids d' (Am ids d'));refine List.mem_map.2 ⟨x,mem_voidK.2 ⟨hx,?_⟩,e1⟩;unfold Cs;rw [e1,e2,decide_eq_true a1,decide_eq_true (Ah0 _)];rfl
 have:=Ei hn hs;rwa [Ag5,Ag5] at this
def Ez (ids:List Id) (d:Int):List Id:=Ak (ids.filter (fun x=>x.b==d&&x.s==Am ids d))
theorem Qq {ids:List Id} (h0:∀x∈ids,0<x.s) {d:Int} (h:Am ids d≠0):∃x y r,Ez ids d=x::y::r:=by
 have hl:1<(Ez ids d).length:=by
  unfold Ez;rw [(Cg _).length_eq]
  rcases Dx h0 d with ⟨a1,_⟩|⟨_,a2,_⟩
  · exact absurd a1 h
  · exact a2
 match hm:Ez ids d,hl with
 |x::y::r,_=>exact ⟨x,y,r,rfl⟩
theorem Z1 {cards:List Cd} {l:List Pn} (h:Rows cards l):∀(k:Nat) (i:Nat) (n:Pn) (s:Int),l[i]? =some n→n.o.sq=s+(k:Int)+1→1≤s→∃m∈l,m.o.by_=n.o.by_∧m.o.sq=s∧bef l m.id n.id=true:=by
 intro k
 induction k with
 |zero=>
  intro i n s hi hs h1s
  rcases (h.ok i n hi).one with e|⟨q,m,h2,h3,h4,h5⟩
  · omega
  · exact ⟨m,Af9 h3,h4,by omega,bef_iff.2 ⟨q,i,n,(h.ok q m h3).plc,(h.ok i n hi).plc,hi,h2⟩⟩
 |succ k ih=>
  intro i n s hi hs h1s
  rcases (h.ok i n hi).one with e|⟨q,m,h2,h3,h4,h5⟩
  · omega
  ·
   obtain ⟨m2,g1,g2,g3,g4⟩:=ih q m s h3 (by omega) h1s;have hb:bef l m.id n.id=true:=bef_iff.2 ⟨q,i,n,(h.ok q m h3).plc,(h.ok i n hi).plc,hi,h2⟩;exact ⟨m2,g1,by rw [g2,h4],g3,(h.order g4).2.2.2.2 _ hb⟩
theorem Qr {cards:List Cd} {l:List Pn} (h:Rows cards l) (h1:∀n∈l,1≤n.o.sq) {ids:List Id} (hp:ids.Perm (l.map Pn.id)) {a b:Id} (ha:a∈ids) (hb:b∈ids) (hd:a.b=b.b) (hs:a.s<b.s) (hone:¬1<Ai ids a.b a.s):bef l a b=true:=by
 obtain ⟨p,n,h2,h3,rfl⟩:=h.named hp ha;obtain ⟨q,m,h4,h5,rfl⟩:=h.named hp hb;obtain ⟨e1,e2⟩:=h.idAt h3;obtain ⟨e3,e4⟩:=h.idAt h5;have hn1:=h1 n (Af9 h3);obtain ⟨k,hk⟩:∃k:Nat,m.o.sq=n.o.sq+(k:Int)+1:=⟨(m.o.sq-n.o.sq-1).toNat,by omega⟩;obtain ⟨z,g1,g2,g3,g4⟩:=Z1 h k q m n.o.sq h5 hk hn1;obtain ⟨j,hj⟩:=Ag0 g1;obtain ⟨e5,e6⟩:=h.idAt hj;have:n.id=z.id:=Qn ha (hp.mem_iff.2 (Ah9 g1)) (by omega) (by omega) hone;rw [this];exact g4
theorem Z2 {cards:List Cd} {l:List Pn} (h:Rows cards l) (h1:∀n∈l,1≤n.o.sq) {ids:List Id} (hp:ids.Perm (l.map Pn.id)) {a b:Id} (ha:a∈ids) (hb:b∈ids) (hne:a≠b) (hd:a.b=b.b) (hf:Am ids a.b=0):a.s≠b.s∧bef l a b=decide (a.s<b.s):=by
 have h0:∀x∈ids,0<x.s:=fun x hx=>by
  obtain ⟨p,n,_,h3,rfl⟩:=h.named hp hx;obtain ⟨_,e2⟩:=h.idAt h3;have:=h1 n (Af9 h3);omega
 have hone:∀x∈ids,x.b=a.b→¬1<Ai ids a.b x.s:=by
  rcases Dx h0 a.b with ⟨_,a2⟩|⟨a1,_⟩
  · exact a2
  · omega
 refine ⟨fun e=>hne (Qn ha hb hd e (hone a ha rfl)),?_⟩;rw [Ag9,decide_eq_true_iff];exact ⟨fun hbf=>h.seqLt hd.symm hbf,fun hlt=>Qr h h1 hp ha hb hd hlt (hone a ha rfl)⟩
theorem Z3 {cards:List Cd} {l:List Pn} (h:Rows cards l) (h1:∀n∈l,1≤n.o.sq) {ids:List Id} (hp:ids.Perm (l.map Pn.id)) {a b:Id} (ha:a∈ids) (hb:b∈ids) (hd:a.b=b.b) (hva:Cs ids a=false) (hvb:Cs ids b=true):bef l a b=true∧a.s<b.s:=by
 have h0:∀x∈ids,0<x.s:=fun x hx=>by
  obtain ⟨p,n,_,h3,rfl⟩:=h.named hp hx;obtain ⟨_,e2⟩:=h.idAt h3;have:=h1 n (Af9 h3);omega
 unfold Cs at hva hvb;rw [Af8,decide_eq_true_iff,decide_eq_true_iff] at hvb;rw [hd] at hva;rw [decide_eq_true hvb.1,Bool.true_and,decide_eq_false_iff_not] at hva;have hlt:a.s<b.s:=by omega
 refine ⟨Qr h h1 hp ha hb hd hlt ?_,hlt⟩;intro hm;rw [hd] at hm
 rcases Dx h0 b.b with ⟨a1,_⟩|⟨_,_,a3⟩
 · omega
 ·
  have:=a3 a ha hd hm;omega
theorem Bp:(Tryz.prog.info? 28).map (·.size)=some 4:=by kernel_rfl
theorem Fg (v:Value):Instr.loadAt 28 v=ldS 28 v:=rfl
theorem Ga (p v:Value):Instr.storeAt 28 p v=stS 28 p v:=rfl
structure FG where
 cA:Option Addr
 cC:Nat
 cards:List Cd
 lA:Option Addr
 lC:Nat
 xs:List OpL
 iA:Option Addr
 iC:Nat
 pA:Option Addr
 pC:Nat
 ps:List UpL
 l:List Pn
def FG.ids (r:FG):List Id:=r.l.map Pn.id
def FG.cells (r:FG):Array Value:=#[.slice r.cA r.cards.length r.cC,.slice r.lA r.l.length r.lC,.slice r.iA r.l.length r.iC,.slice r.pA r.l.length r.pC]
def K4 (n:Pn) (xs:List Nat):Prop:=xs.Nodup∧∀q,q∈xs↔n.ps q=true
structure FG.own (w:World) (base:Nat) (r:FG):Prop where
 cards:RowAt w base 71 5 r.cA r.cards.length r.cC (r.cards.flatMap Cd.cells)
 ops:RowAt w base 67 27 r.lA r.l.length r.lC (r.xs.flatMap (fun x=>x.cells.toList))
 each:∀x∈r.xs,x.lies w base
 same:r.xs.map OpL.op=r.l.map Pn.o
 ok:∀n∈r.l,n.o.ok∧n.id.ok
 ids:RowAt w base 41 3 r.iA r.l.length r.iC (r.ids.flatMap Id.cells)
 pasts:RowAt w base 22 1 r.pA r.l.length r.pC (r.ps.map UpL.cell)
 eachP:∀x∈r.ps,x.own w base
 lenP:r.ps.length=r.l.length
 sameP:∀(i:Nat) (x:UpL) (n:Pn),r.ps[i]? =some x→r.l[i]? =some n→K4 n x.xs
 rows:Rows r.cards r.l
 num:FkB r.l
 cfew:r.cards.length≤1000
 cok:∀c∈r.cards,c.s<18446744073709551616
theorem FG.own.lower {w:World} {base base':Nat} {r:FG} (h:r.own w base) (hb:base'≤base):r.own w base' where
 cards:=h.cards.lower hb
 ops:=h.ops.lower hb
 each x hx:=(h.each x hx).lower hb
 same:=h.same
 ok:=h.ok
 ids:=h.ids.lower hb
 pasts:=h.pasts.lower hb
 eachP x hx:=RowAt.lower (h.eachP x hx) hb
 lenP:=h.lenP
 sameP:=h.sameP
 rows:=h.rows
 num:=h.num
 cfew:=h.cfew
 cok:=h.cok
theorem FG.own.keepP {S:Nat→Prop} {P:TypeId→Prop} {w w':World} {base:Nat} {r:FG} (h:r.own w base) (hf:Fr S w w') (hS:Types S w P) (h1:¬P 41) (h2:¬P 137) (h3:¬P 134) (h4:¬P 5) (h5:¬P 39) (h6:¬P 3) (h7:¬P 140)
  (h8:¬P 71) (h9:¬P 67) (h10:¬P 22):r.own w' base where
 cards:=h.cards.keepT hf (hS.not h8)
 ops:=h.ops.keepT hf (hS.not h9)
 each x hx:=(h.each x hx).keepP hf hS h1 h2 h3 h4 h5 h6 h7
 same:=h.same
 ok:=h.ok
 ids:=h.ids.keepT hf (hS.not h1)
 pasts:=h.pasts.keepT hf (hS.not h10)
 eachP x hx:=RowAt.keepT (h.eachP x hx) hf (hS.not h6)
 lenP:=h.lenP
 sameP:=h.sameP
 rows:=h.rows
 num:=h.num
 cfew:=h.cfew
 cok:=h.cok
theorem FG.own.non {w w':World} {base:Nat} {r:FG} (h:r.own w base) (hf:Fr Non w w'):r.own w' base:=
 h.keepP (P:=fun _=>False) hf (fun _ _ _ _ _ e=>e.elim) zq zq zq zq zq zq zq zq zq zq
theorem FG.own.rdIds {w:World} {base:Nat} {r:FG} (h:r.own w base):Rd w w.heap.size 3 r.iA r.l.length (r.ids.flatMap Id.cells):=h.ids.sl.rd
theorem FG.ids_len (r:FG):r.ids.length=r.l.length:=by simp [FG.ids]
theorem FG.ids_at {r:FG} {k:Nat} {n:Pn} (h:r.l[k]? =some n):r.ids[k]? =some n.id:=by
 unfold FG.ids;rw [Ah5,h];rfl
theorem FG.own.xAt {w:World} {base:Nat} {r:FG} (h:r.own w base) {i:Nat} {n:Pn} (hi:r.l[i]? =some n):
  ∃(x:OpL) (b off:Nat),r.xs[i]? =some x∧x.op=n.o∧x.lies w base∧r.lA=some ⟨b,off,none⟩∧b<w.heap.size∧∀j,j<27→∀u,x.cells.toList[j]? =some u→w.cell? ⟨b,off+i*27+j,none⟩=some u:=by
 have hm:(r.xs.map OpL.op)[i]? =some n.o:=by rw [h.same,Ah5,hi];rfl
 rw [Ah5] at hm
 cases hx:r.xs[i]? with
 |none=>rw [hx] at hm;cases hm
 |some x=>
  rw [hx] at hm;injection hm with hm
  obtain ⟨b,off,h1,h2,h3⟩:=Dg (f:=fun x:OpL=>x.cells.toList) (fun _=>rfl) (by omega) h.ops.sl.rd hx;exact ⟨x,b,off,rfl,hm,h.each x (Af9 hx),h1,h2,h3⟩
theorem FG.own.idAt {w:World} {base:Nat} {r:FG} (h:r.own w base) {i:Nat} (hi:i<r.l.length):
  ∃(m:Pn) (b off:Nat),r.l[i]? =some m∧r.iA=some ⟨b,off,none⟩∧w.cell? ⟨b,off+i*3,none⟩=some (.int .i64 m.id.b)∧w.cell? ⟨b,off+i*3+1,none⟩=some (.int .i64 m.id.s)∧w.cell? ⟨b,off+i*3+2,none⟩=some (.int .u64 (m.id.u:Int)):=by
 obtain ⟨b,off,h1,_,h2,h3,h4⟩:=Id.at h.rdIds (FG.ids_at (Ag2 hi));exact ⟨_,b,off,Ag2 hi,h1,h2,h3,h4⟩
theorem FG.own.pAt {w:World} {base:Nat} {r:FG} (h:r.own w base) {i:Nat} {n:Pn} (hi:r.l[i]? =some n):
  ∃(x:UpL) (b off:Nat),K4 n x.xs∧x.own w base∧r.pA=some ⟨b,off,none⟩∧b<w.heap.size∧w.cell? ⟨b,off+i,none⟩=some x.cell∧x.xs.length≤r.l.length∧(∀q∈x.xs,q<i):=by
 have hlt:=(List.getElem?_eq_some_iff.1 hi).1;obtain ⟨x,hx⟩:∃x,r.ps[i]? =some x:=⟨_,Ag2 (by rw [h.lenP];exact hlt)⟩;have hk:=h.sameP i x n hx hi;obtain ⟨b,off,u,h1,h2,h3,h4⟩:=h.pasts.sl.rd.at hlt;rw [Ah5,hx] at h3;injection h3 with h3
 subst h3;have hq:∀q∈x.xs,q<i:=fun q hq=>(h.rows.ok i n hi).lt q ((hk.2 q).1 hq)
 have hl:x.xs.length≤r.l.length:=by
  have:=Ei hk.1 (ys:=Ai0 r.l.length) (fun q hm=>List.mem_range.2 (Nat.lt_trans (hq q hm) hlt));simpa using this
 exact ⟨x,b,off,hk,h.eachP x (Af9 hx),h1,h2,h4,hl,hq⟩
def Cj (l0:List Int) (i:Nat):Nat:=match l0[i]? with|some q=>(C9 q 1000000).toNat|none=>0
def C7 (l:List Pn) (d:Int):Nat→Int
 |0=> -1
 |k+1=>match l[k]? with|some n=>if n.o.by_=d then (k:Int) else C7 l d k|none=>C7 l d k
theorem K5 (l:List Pn) (d:Int):∀k,-1≤C7 l d k∧C7 l d k<k
 |0=>⟨Ah0 _,show (-1:Int)<0 by decide⟩
 |k+1=>by
  have ih:=K5 l d k;unfold C7
  split
  ·
   split
   · omega
   · omega
  · omega
end Oq
end
section
open Go.RowKit
attribute [local go_sem ↓] Go.wp_at_zero Go.wp_at_succ
namespace Oq
attribute [local go_sem] Ag3 Ag4
theorem Z4 {l:List Int} {k:Nat} {q x:Int} (h:l[k]? =some x):(l.take (k+1)).contains q=((l.take k).contains q||decide (q=x)):=by
 rw [Co h,Ag9,Ah4,Ai6,Ai6,List.mem_append,Ai9,decide_eq_true_eq]
theorem Z5 (B n c:Nat) (A:Option Addr) (l:List Int) (x:Int) (w:World) (hn:Hid (l.length=n)) (hr:Rd w B 1 A n (l.map Iv)) (hnm:n≤1000000):
  Calls Tryz.prog 57 #[.slice A n c,.int .i64 x] w fun e w'=>e=.returned (.bool (l.contains x))∧Fr Non w w':=by
 go_enter Tryz.func57,Tryz.ntmps57;go_wp2
 go_loopw [5] (fun v wr=>∃k:Nat,v=.int .i64 (k:Int)∧k≤n∧Hid ((l.take k).contains x=false)∧w=wr) (fun v _=>n-(intOf v).toNat)
 case atStart=>exact ⟨0,rfl,by omega,rfl,rfl⟩
 case round=>
  obtain ⟨k,rfl,hk,hh,rfl⟩:=hrel
  by_cases hlt:k<n
  ·
   obtain ⟨y,hy⟩:∃y,l[k]? =some y:=⟨_,Ag2 (by rw [hn.out];exact hlt)⟩;obtain ⟨b,off,u,rfl,hbB,hu,c0⟩:=hr.at hlt;rw [Ah5,hy] at hu;injection hu with hu
   subst hu;have c0':w.cell? ⟨b,off+k,none⟩=some (.int .i64 y):=c0;clear c0;have hsn:=Lib.hid (Z4 (q:=x) hy);have i1:(0:Int)≤k:=by omega
   have i2:(k:Int)<n:=by omega
   have i3:(k:Int).toNat=k:=by omega
   by_cases he:y=x
   ·
    have hb:(y==x)=true:=beq_iff_eq.2 he
    have hfin:Hid (l.contains x=true):=by
     show _=_;rw [Ai6];exact he▸Af9 hy
    clear hy he;go_wp2
    go_ret
    exact ⟨by rw [hfin.out];rfl,Fr.refl _ _⟩
   ·
    have hb:(y==x)=false:=beq_eq_false_iff_ne.2 he
    have hfin:Hid ((l.take (k+1)).contains x=false):=by
     show _=_;rw [hsn.out,hh.out,decide_eq_false (fun e=>he e.symm)];rfl
    clear hy he;go_wp2;go_roundw
    case rel=>exact ⟨k+1,by go_num,by omega,hfin,by first|rfl|trivial⟩
    case measure=>first|(simp [intOf];done)|(simp [intOf];omega)
  ·
   obtain rfl:k=n:=by omega
   have hfin:Hid (l.contains x=false):=by have h:=hh.out;rw [Ah2 (by rw [hn.out];omega)] at h;exact h
   go_wp2
   go_ret
   exact ⟨by rw [hfin.out];rfl,Fr.refl _ _⟩
end Oq
end
section
open Go.RowKit
namespace Oq
def Gx (l:List Pn) (a b:Id):Bool:=decide (Az l a<Az l b)||(Az l a==Az l b&&Id.less a b)
theorem rkLess_iff {l:List Pn} {a b:Id}:Gx l a b=true↔Az l a<Az l b∨(Az l a=Az l b∧Id.less a b=true):=by
 unfold Gx;rw [Ah4,Af8,decide_eq_true_iff,beq_iff_eq]
theorem Z6 (l:List Pn) (a b:Id):Gx l a b=true∨a=b∨Gx l b a=true:=by
 rcases Nat.lt_trichotomy (Az l a) (Az l b) with h|h|h
 · exact .inl (rkLess_iff.2 (.inl h))
 ·
  rcases Id.less_tot a b with h2|h2|h2
  · exact .inl (rkLess_iff.2 (.inr ⟨h,h2⟩))
  · exact .inr (.inl h2)
  · exact .inr (.inr (rkLess_iff.2 (.inr ⟨h.symm,h2⟩)))
 · exact .inr (.inr (rkLess_iff.2 (.inl h)))
def RowK (l:List Pn) (ids:List Id):Prop:=ids.Pairwise (fun a b=>Gx l b a=false)
theorem K6 {α:Type} {r:α→α→Prop} (anti:∀a b,r a b→r b a→a=b):∀{xs ys:List α},xs.Pairwise r→ys.Pairwise r→xs.Perm ys→xs=ys
 |[],ys,_,_,h=>(List.Perm.nil_eq h)
 |x::xs,[],_,_,h=>by have:=h.length_eq;simp at this
 |x::xs,y::ys,h1,h2,h=>by
  rw [List.pairwise_cons] at h1 h2
  have hxy:x=y:=by
   have hx:x∈y::ys:=h.mem_iff.1 Ag1;have hy:y∈x::xs:=h.mem_iff.2 Ag1
   rcases List.mem_cons.1 hx with e|hx
   · exact e
   rcases List.mem_cons.1 hy with e|hy
   · exact e.symm
   exact anti x y (h1.1 y hy) (h2.1 x hx)
  subst hxy;rw [K6 anti h1.2 h2.2 (List.Perm.cons_inv h)]
theorem RowK.unique {l:List Pn} {xs ys:List Id} (h1:RowK l xs) (h2:RowK l ys) (hp:xs.Perm ys):xs=ys:=
 K6 (fun a b ha hb=>by
  rcases Z6 l a b with h|h|h
  · rw [hb] at h;cases h
  · exact h
  · rw [ha] at h;cases h) h1 h2 hp
theorem Qs {ids:List Id} {k:Nat} {x:Id} (h:ids[k]? =some x) (d s:Int):Ai (ids.take (k+1)) d s=Ai (ids.take k) d s+if (x.b==d&&x.s==s)=true then 1 else 0:=by
 unfold Ai;rw [Co h,List.filter_append,Ah8];congr 1
 by_cases hc:(x.b==d&&x.s==s)=true
 · rw [if_pos hc,Ah6 (p:=fun x:Id=>x.b==d&&x.s==s) hc];rfl
 · rw [if_neg hc,Ah1 (p:=fun x:Id=>x.b==d&&x.s==s) hc];rfl
theorem Z7 (ids:List Id) (k:Nat) (d s:Int):Ai (ids.take k) d s≤k:=by
 unfold Ai;exact Nat.le_trans (List.length_filter_le _ _) (by rw [Aj7];omega)
def Bl (ids:List Id):Nat→Int→Option Int
 |0,_=>none
 |k+1,d=>match ids[k]? with
  |some x=>if x.b=d∧1<Ai (ids.take (k+1)) x.b x.s∧(Bl ids k d=none∨x.s<(Bl ids k d).getD 0) then some x.s else Bl ids k d
  |none=>Bl ids k d
theorem K7 {ids:List Id} {k:Nat} {x:Id} (h:ids[k]? =some x) (d:Int):Bl ids (k+1) d=if x.b=d∧1<Ai (ids.take (k+1)) x.b x.s∧(Bl ids k d=none∨x.s<(Bl ids k d).getD 0) then some x.s else Bl ids k d:=by
 conv=>lhs;unfold Bl
 rw [h]
theorem Qt (ids:List Id) (d:Int):∀k,(Bl ids k d=none∧∀s,Ai (ids.take k) d s≤1)∨(∃n,Bl ids k d=some n∧1<Ai (ids.take k) d n∧∀s,1<Ai (ids.take k) d s→n≤s)
 |0=> .inl ⟨rfl,fun s=>by unfold Ai;exact Nat.zero_le _⟩
 |k+1=>by
  have ih:=Qt ids d k
  cases hx:ids[k]? with
  |none=>
   have e1:Bl ids (k+1) d=Bl ids k d:=by (conv=>lhs;unfold Bl);rw [hx]
   have e2:ids.take (k+1)=ids.take k:=by
    have:=List.getElem?_eq_none_iff.1 hx;rw [Ah2 (by omega),Ah2 (by omega)]
   rw [e1,e2];exact ih
  |some x=>
   have hm:=fun s=>Qs hx d s;rw [K7 hx]
   by_cases hb:x.b=d
   ·
    subst hb
    by_cases h2:1<Ai (ids.take (k+1)) x.b x.s
    ·
     rcases ih with ⟨i1,i2⟩|⟨n,i1,i2,i3⟩
     ·
      rw [i1,if_pos ⟨rfl,h2,.inl rfl⟩];refine .inr ⟨x.s,rfl,h2,fun s hs=> ?_⟩;rw [hm s] at hs;have:=i2 s
      by_cases hc:(x.b==x.b&&x.s==s)=true
      ·
       rw [Af8,beq_iff_eq,beq_iff_eq] at hc;omega
      ·
       rw [if_neg hc] at hs;omega
     ·
      by_cases h3:x.s<n
      ·
       rw [i1,if_pos ⟨rfl,h2,.inr h3⟩];refine .inr ⟨x.s,rfl,h2,fun s hs=> ?_⟩;rw [hm s] at hs
       by_cases hc:(x.b==x.b&&x.s==s)=true
       ·
        rw [Af8,beq_iff_eq,beq_iff_eq] at hc;omega
       ·
        rw [if_neg hc] at hs;have:=i3 s (by omega);omega
      ·
       rw [i1,if_neg (fun h=>by rcases h.2.2 with h|h;cases h;exact h3 h)];refine .inr ⟨n,rfl,?_,fun s hs=> ?_⟩
       · rw [hm n];omega
       ·
        rw [hm s] at hs
        by_cases hc:(x.b==x.b&&x.s==s)=true
        ·
         rw [Af8,beq_iff_eq,beq_iff_eq] at hc;omega
        ·
         rw [if_neg hc] at hs;exact i3 s (by omega)
    ·
     rw [if_neg (fun h=>h2 h.2.1)]
     rcases ih with ⟨i1,i2⟩|⟨n,i1,i2,i3⟩
     ·
      refine .inl ⟨i1,fun s=> ?_⟩
      by_cases hc:(x.b==x.b&&x.s==s)=true
      ·
       rw [Af8,beq_iff_eq,beq_iff_eq] at hc;rw [← hc.2];omega
      ·
       rw [hm s,if_neg hc];exact i2 s
     ·
      refine .inr ⟨n,i1,by rw [hm n];omega,fun s hs=> ?_⟩
      by_cases hc:(x.b==x.b&&x.s==s)=true
      ·
       rw [Af8,beq_iff_eq,beq_iff_eq] at hc;rw [← hc.2] at hs;exact absurd hs h2
      ·
       rw [hm s,if_neg hc] at hs;exact i3 s (by omega)
   ·
    rw [if_neg (fun h=>hb h.1)]
    have hm':∀s,Ai (ids.take (k+1)) d s=Ai (ids.take k) d s:=fun s=>by
     rw [hm s,if_neg (fun h=>by rw [Af8,beq_iff_eq] at h;exact hb h.1)];omega
    rcases ih with ⟨i1,i2⟩|⟨n,i1,i2,i3⟩
    · exact .inl ⟨i1,fun s=>by rw [hm'];exact i2 s⟩
    · exact .inr ⟨n,i1,by rw [hm'];exact i2,fun s hs=>i3 s (by rwa [hm'] at hs)⟩
theorem Z8 {ids:List Id} (h0:∀x∈ids,0<x.s) (d:Int):Bl ids ids.length d=if 0<Am ids d then some (Am ids d) else none:=by
 have hs:=Qt ids d ids.length;rw [Ak5] at hs
 rcases Dx h0 d with ⟨a1,a2⟩|⟨a1,a2,a3⟩
 ·
  rw [if_neg (by omega)]
  rcases hs with ⟨i1,_⟩|⟨n,_,i2,_⟩
  · exact i1
  ·
   obtain ⟨x,hx,e1,e2⟩:=Fz (by omega:0<Ai ids d n);exact absurd (by rw [e2];exact i2) (a2 x hx e1)
 ·
  rw [if_pos a1]
  rcases hs with ⟨_,i2⟩|⟨n,i1,i2,i3⟩
  ·
   have:=i2 (Am ids d);omega
  ·
   obtain ⟨x,hx,e1,e2⟩:=Fz (by omega:0<Ai ids d n);have h1:=a3 x hx e1 (by rw [e2];exact i2);have h2:=i3 _ a2;rw [i1];congr 1;omega
theorem K8 (ids:List Id):(Ah ids).Pairwise (fun a b=>a.1<b.1):=by
 unfold Ah;rw [Ak4];refine (List.pairwise_lt_range (n:=12)).imp (fun {a b} hab x hx y hy=> ?_)
 split at hx
 ·
  split at hy
  ·
   injection hx with hx
   injection hy with hy
   subst hx hy;dsimp only;omega
  · cases hy
 · cases hx
theorem Z9 {ids:List Id} (h0:∀x∈ids,0<x.s) (hb:∀x∈ids,1≤x.b∧x.b≤12) {out ys:List (Int × Int)} (hn:(out.map Prod.fst).Nodup) (hm:∀d n,(d,n)∈out↔Bl ids ids.length d=some n) (hp:ys.Perm out) (hs:ys.Pairwise (fun a b=>a.1≤b.1)):ys=Ah ids:=by
 have hny:(ys.map Prod.fst).Nodup:=(hp.map Prod.fst).nodup_iff.2 hn
 have hys:ys.Pairwise (fun a b=>a.1<b.1):=by
  rw [Ah7,Ak2] at hny;exact (hs.and hny).imp (fun {a b} h=>by have:=h.1;have:=h.2;omega)
 have hnf:(Ah ids).Nodup:=(K8 ids).imp (fun {a b} h e=>by rw [e] at h;omega);have hny2:ys.Nodup:=hys.imp (fun {a b} h e=>by rw [e] at h;omega);refine K6 (r:=fun a b=>a.1<b.1) (fun a b h1 h2=>by omega) hys (K8 ids) ?_;refine (Ak1 hny2 hnf).2 fun f=> ?_;obtain ⟨d,n⟩:=f;rw [hp.mem_iff,hm,Z8 h0,mem_forksK]
 by_cases h1:0<Am ids d
 ·
  rw [if_pos h1];constructor
  ·
   intro h;injection h with h
   refine ⟨?_,by omega,h.symm⟩
   rcases Dx h0 d with ⟨a1,_⟩|⟨_,a2,_⟩
   · omega
   ·
    obtain ⟨x,hx,e1,_⟩:=Fz (by omega:0<Ai ids d (Am ids d));rw [← e1];exact hb x hx
  ·
   rintro ⟨_,_,h⟩;rw [h]
 ·
  rw [if_neg h1];constructor
  · intro h;cases h
  ·
   rintro ⟨_,h2,h3⟩;omega
def ofK (ids:List Id) (d m n:Int):List Id:=Ak (ids.filter (fun x=>x.b==d&&decide (m≤x.s)&&decide (x.s≤n)))
theorem Qu {α:Type} {p q:α→Bool}:∀{l:List α},(∀x∈l,p x=true→q x=false)→(l.filter (fun x=>p x||q x)).Perm (l.filter p++l.filter q)
 |[],_=>List.Perm.refl _
 |x::r,h=>by
  have ih:=Qu (p:=p) (q:=q) (l:=r) (fun y hy=>h y (Ah3 _ hy))
  cases hp:p x with
  |true=>
   have hq:=h x Ag1 hp;rw [Ah6 (by rw [hp];rfl),Ah6 hp,Ah1 (by rw [hq];exact Ag6)];exact ih.cons x
  |false=>
   cases hq:q x with
   |true=>
    rw [Ah6 (by rw [hp,hq];rfl),Ah1 (by rw [hp];exact Ag6),Ah6 hq];exact (ih.cons x).trans List.perm_middle.symm
   |false=>
    rw [Ah1 (by rw [hp,hq];exact Ag6),Ah1 (by rw [hp];exact Ag6),Ah1 (by rw [hq];exact Ag6)];exact ih
def Dy (ids:List Id) (fs:List (Int × Int)) (k:Nat):List Id:=(fs.take k).flatMap (fun f=>ofK ids f.1 f.2 4611686018427387904)
theorem Aa0 (ids:List Id) {fs:List (Int × Int)} {k:Nat} {f:Int × Int} (h:fs[k]? =some f):Dy ids fs (k+1)=Dy ids fs k++ofK ids f.1 f.2 4611686018427387904:=by
 unfold Dy;rw [Co h,List.flatMap_append,Ak6,Ak7,List.append_nil]
theorem Qw {ids:List Id} (hx:∀x∈ids,x.s≤4611686018427387904):∀(fs:List (Int × Int)),fs.Pairwise (fun a b=>a.1<b.1)→(fs.flatMap (fun f=>ofK ids f.1 f.2 4611686018427387904)).Perm (ids.filter (fun x=>fs.any (fun f=>f.1==x.b&&decide (f.2≤x.s))))
 |[],_=>by
  rw [Ak7];have:ids.filter (fun x=>([]:List (Int × Int)).any (fun f=>f.1==x.b&&decide (f.2≤x.s)))=[]:=List.filter_eq_nil_iff.2 (fun x _=>by simp);rw [this]
 |f::r,h=>by
  have h':=List.pairwise_cons.1 h;have ih:=Qw hx r h'.2
  have e:(fun x:Id=>(f::r).any (fun f=>f.1==x.b&&decide (f.2≤x.s)))=(fun x=>(f.1==x.b&&decide (f.2≤x.s))||r.any (fun f=>f.1==x.b&&decide (f.2≤x.s))):=by
   funext x;rw [Ai5]
  rw [e,Ak6];refine List.Perm.trans ?_ (Qu (fun x _ hp=> ?_)).symm
  ·
   refine List.Perm.append ?_ ih;unfold ofK;refine (Cg _).trans ?_
   have e2:ids.filter (fun x=>x.b==f.1&&decide (f.2≤x.s)&&decide (x.s≤4611686018427387904))=ids.filter (fun x=>f.1==x.b&&decide (f.2≤x.s)):=by
    refine Ai7 (fun x hm=> ?_);rw [decide_eq_true (hx x hm),Bool.and_true];congr 1;rw [Ag9,beq_iff_eq,beq_iff_eq];exact ⟨fun h=>h.symm,fun h=>h.symm⟩
   rw [e2]
  ·
   rw [Af8,beq_iff_eq] at hp;rw [Ak3];intro g hg hc;rw [Af8,beq_iff_eq] at hc;have:=h'.1 g hg;omega
theorem Aa1 {ids:List Id} (hb:∀x∈ids,1≤x.b∧x.b≤12) (hx:∀x∈ids,x.s≤4611686018427387904):Ak (Dy ids (Ah ids) (Ah ids).length)=As ids:=by
 unfold As Dy;rw [Ak5];refine Na (Jm _) ((Cg _).trans ((Qw hx _ (K8 ids)).trans ?_));have e:ids.filter (fun x=>(Ah ids).any (fun f=>f.1==x.b&&decide (f.2≤x.s)))=ids.filter (Cs ids):=Ai7 (fun x hm=>(Qp (hb x hm)).symm);rw [e]
theorem Aa2 {ids:List Id} (d:Int):ofK ids d (Am ids d) (Am ids d)=Ez ids d:=by
 unfold ofK Ez;congr 1;refine Ai7 (fun x _=> ?_);rw [Bool.and_assoc];congr 1;rw [Ag9,Af8,decide_eq_true_iff,decide_eq_true_iff,beq_iff_eq];omega
def Dz (ids:List Id) (d:Int):Option (Id × Id):=if Am ids d=0 then none else match Ez ids d with|x::y::_=>some (x,y)|_=>none
theorem Aa3 {ids:List Id} (h0:∀x∈ids,0<x.s) (hb:∀x∈ids,1≤x.b∧x.b≤12) {d:Int} (hd:¬(1≤d∧d≤12)):Am ids d=0:=by
 rcases Dx h0 d with ⟨a1,_⟩|⟨a1,a2,_⟩
 · exact a1
 ·
  obtain ⟨x,hx,e1,_⟩:=Fz (by omega:0<Ai ids d (Am ids d));exact absurd (by rw [← e1];exact hb x hx) hd
end Oq
end
end Go.Proofs.YtkanjaikgphjfaaGreatDoor
