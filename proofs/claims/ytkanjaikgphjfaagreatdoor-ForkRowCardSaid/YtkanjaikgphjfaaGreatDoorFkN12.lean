/-
  Contracts of the functions that the claim's statement reaches, walked one by one (part 12).
  Conditions: as each theorem says.
-/
import Derived.Handy
import Derived.Great.BuildSlice
import Derived.Lib.SlBytesConst
import Derived.Test.YtkanjaikgphjfaaGreatDoorFkN1
import Derived.Test.YtkanjaikgphjfaaGreatDoorFkN2
import Derived.Test.YtkanjaikgphjfaaGreatDoorFkN3
import Derived.Test.YtkanjaikgphjfaaGreatDoorFkN6
import Derived.Test.YtkanjaikgphjfaaGreatDoorFkN7
import Derived.Test.YtkanjaikgphjfaaGreatDoorFkN9
import Derived.Test.YtkanjaikgphjfaaGreatDoorFkN10
import Derived.Test.YtkanjaikgphjfaaGreatDoorFkN11
set_option maxRecDepth 100000
set_option maxHeartbeats 16000000
open Array renaming length_toList→Aq2
open Bool renaming and_eq_true→Am8,not_false→An3,not_true→An4,false_ne_true→An6,eq_iff_iff→Ao1,or_eq_true→Ao4,or_eq_false_iff→Aq6,and_eq_false_iff→Aq7,not_eq_false'→Aq8
open Int renaming le_refl→Ao3,le_trans→Ap2,le_max_left→Ap3
open List renaming getElem?_eq_getElem→Am9,mem_of_getElem?→An0,mem_cons_self→An1,getElem?_of_mem→An2,take_of_length_le→An5,filter_cons_of_neg→An9,length_map→Ao0,mem_cons_of_mem→Ao2,getElem?_map→Ao5,filter_cons_of_pos→Ao6,length_append→Ao7,range→Ao8,nodup_nil→Ao9,not_mem_nil→Ap0,Nodup→Ap1,mem_map_of_mem→Ap4,any_cons→Ap5,contains_iff_mem→Ap6,take_length→Ap7,filter_congr→Ap8,take_add_one→Ap9,filterMap_append→Aq0,mem_singleton→Aq1,getElem_map→Aq3,length_singleton→Aq4,any_eq_true→Aq5,length_take→Aq9,mem_append_left→Ar0,mem_append_right→Ar1,perm_ext_iff_of_nodup→Ar3,pairwise_map→Ar4,any_eq_false→Ar5,flatMap_cons→Ar6,flatMap_nil→Ar7
open Nat renaming le_refl→An7,lt_or_ge→An8,eq_zero_or_pos→Ar2
namespace Go.Proofs.YtkanjaikgphjfaaGreatDoor
section
open Go.RowKit
attribute [local go_sem ↓] Go.wp_at_zero Go.wp_at_succ
namespace Oq
attribute [local go_sem] An3 An4
attribute [local go_sem ↓] E8
def Eb (l:List Id) (w:World) (e:Ending) (w':World):Prop:=∃A c,e=.returned (.slice A l.length c)∧Own w' w.heap.size 41 3 A l.length c (l.flatMap Id.cells)∧Fr Non w w'
theorem SortPost.ids {l:List Id} {n:Nat} {w:World} {e:Ending} {w':World} (h:SortPost l n w e w') (hn:(An l).length=n):Eb (An l) w e w':=by
 obtain ⟨A,c,h1,h2,h3⟩:=h;subst hn;exact ⟨A,c,h1,h2,h3⟩
theorem Ac7 {l l':List Id} {k:Nat} {y z:Id} (h:l[k]? =some y) (h':l'[k]? =some z) (hk:l.take k=l'.take k) (e:y=z):l.take (k+1)=l'.take (k+1):=by
 rw [Ap9,Ap9,hk,h,h',e]
theorem Rv (B n c B' m c':Nat) (A A':Option Addr) (l l':List Id) (w:World) (hn:Hid (l.length=n)) (hm:Hid (l'.length=m)) (hr:Rd w B 3 A n (l.flatMap Id.cells)) (hr':Rd w B' 3 A' m (l'.flatMap Id.cells)) (hnm:n≤1000000) (R:Bool) (hR:R=true↔l=l'):
  Calls Tryz.prog 20 #[.slice A n c,.slice A' m c'] w (Ad R w):=by
 have hRf:Hid (l≠l'→R=false):=fun h=>by cases R with|false=>rfl|true=>exact absurd (hR.1 rfl) h
 have hRt:Hid (l=l'→R=true):=hR.2;clear hR
 by_cases hne:n=m
 ·
  subst hne;have t:((n:Int) !=(n:Int))=false:=by simp
  go_enter Tryz.func20,Tryz.ntmps20;go_wp2
  go_loopw [5] (fun v wr=>∃k:Nat,v=.int .i64 (k:Int)∧k≤n∧Hid (l.take k=l'.take k)∧Fr Non w wr) (fun v _=>n-(intOf v).toNat)
  case atStart=>exact ⟨0,rfl,by omega,rfl,Fr.refl _ _⟩
  case round=>
   obtain ⟨k,rfl,hk,hh,hf⟩:=hrel
   by_cases hlt:k<n
   ·
    obtain ⟨y,hy⟩:∃y,l[k]? =some y:=⟨_,Am9 (by rw [hn.out];exact hlt)⟩;obtain ⟨z,hz⟩:∃y,l'[k]? =some y:=⟨_,Am9 (by rw [hm.out];exact hlt)⟩;obtain ⟨b,off,rfl,hbB,k0,k1,k2⟩:=Id.at (hr.fr hf zr) hy;obtain ⟨b',off',rfl,hbB',g0,g1,g2⟩:=Id.at (hr'.fr hf zr) hz;have hcase:=Id.eq_iff y z;have hsn:Hid (y=z→l.take (k+1)=l'.take (k+1)):=Ac7 hy hz hh.out;have hno:Hid (y≠z→R=false):=fun e=>hRf.out (fun e'=>by rw [e',hz] at hy;injection hy with hy;exact e hy.symm);clear hy hz;have i1:(0:Int)≤k:=by omega
    have i2:(k:Int)<n:=by omega
    have i3:(k:Int).toNat=k:=by omega
    have hm:=Ko
    by_cases he:Id.eq y z=true
    ·
     have hfin:=Lib.hid (hsn.out (hcase.1 he));clear hsn hno hcase;go_wp2
     go_quiet (fail)
     go_wp2;go_roundw
     case rel=>exact ⟨k+1,by go_num,by omega,hfin,hf.drewN _⟩
     case measure=>simp [intOf];omega
    ·
     have hfin:=Lib.hid (hno.out (fun e=>he (hcase.2 e)));have he:=Bool.not_eq_true _▸he;clear hsn hno hcase;go_wp2
     go_quiet (fail)
     go_wp2
     go_ret
     exact ⟨by rw [hfin.out];rfl,hf.drewN _⟩
   ·
    obtain rfl:k=n:=by omega
    have hfin:Hid (R=true):=by
     have h:=hh.out;rw [An5 (by rw [hn.out];omega),An5 (by rw [hm.out];omega)] at h;exact hRt.out h
    go_wp2
    go_ret
    exact ⟨by rw [hfin.out];rfl,hf⟩
 ·
  have t:((n:Int) !=(m:Int))=true:=by simp;omega
  have hfin:Hid (R=false):=hRf.out (fun e=>hne (by rw [← hn.out,← hm.out,e]));go_enter Tryz.func20,Tryz.ntmps20;go_wp2
  go_ret
  exact ⟨by rw [hfin.out];rfl,Fr.refl _ _⟩
end Oq
namespace Oq
attribute [local go_sem] An3 An4
def Dh (l:List Pn) (p:Nat→Bool) (k:Nat):List Id:=(Ao8 k).filterMap (fun i=>if p i then l[i]?.map Pn.id else none)
theorem Ac8 (l:List Pn) (p:Nat→Bool) (k:Nat) {n:Pn} (h:l[k]? =some n):Dh l p (k+1)=Dh l p k++(if p k then [n.id] else []):=by
 unfold Dh;rw [List.range_succ,Aq0];congr 1
 cases hp:p k<;>simp [hp,h]
theorem Rw (l:List Id):(An l).length=l.length:=(Br l).length_eq
end Oq
end
section
open Go.RowKit
namespace Oq
end Oq
end
section
open Go.RowKit
attribute [local go_sem ↓] Go.wp_at_zero Go.wp_at_succ
namespace Oq
attribute [local go_sem] An3 An4
theorem Dx {P:Program} {o:Oper} {a:Act} {K:Act→World→Prop} {Q:Exit→Act→World→Prop} {w:World} (s x:Operand) (t:TypeId)
  (ho:o.op=.call {callee:=.builtin .append,args:=#[s,x],argTypes:=#[t,t]})
  {base size n c:Nat} {e:TypeId} {A:Option Addr} {xs:List Value} {z:Value} {bytes m cx B:Nat} {Ax:Option Addr} {news:List Value}
  (hs:a.eval s=.slice A n c) (hx:a.eval x=.slice Ax m cx)
  (hT:SlT P t e z size bytes) (h:Own w base e size A n c xs) (hr:Rd w B size Ax m news)
  (h1:∀u∈news,u.oneCell'=true) (hbytes:(n+m)*bytes≤140737488355328) (hmax:n+m≤9223372036854775807) (hbase:base≤w.heap.size)
  (hk:∀A' c' w',Own w' base e size A' (n+m) c' (xs++news)→Fr (fun k=>Ac A=some k) w w'→(Ac A'=Ac A∨Ac A'=some w.heap.size)→
   K (a.put o.dst (.slice A' (n+m) c')) w'):Oper.wp P o a w K Q:=by
 obtain ⟨A',c',w',hrun,h2,h3,h4⟩:=Gw (P:=P) (ty:=o.type) (cx:=cx) hT h hr h1 hbytes hmax hbase;unfold Oper.wp execOp;simp only [ho,resolve,invoke,builtin,Sem.run_bind,Sem.run_pure,Result.andThen_ok,List.map_toArray,List.map_cons,List.map_nil,hs,hx,hrun];exact hk A' c' w' h2 h3 h4
theorem Rx (l:List Pn) (p:Nat→Bool):∀k,∀id∈Dh l p k,∃i m,i<k∧p i=true∧l[i]? =some m∧m.id=id:=by
 intro k id hid;unfold Dh at hid;obtain ⟨i,hi,h⟩:=List.mem_filterMap.1 hid;rw [List.mem_range] at hi
 cases hp:p i with
 |false=>rw [hp] at h;cases h
 |true=>
  rw [hp,if_pos rfl] at h
  cases hm:l[i]? with
  |none=>rw [hm] at h;cases h
  |some m=>rw [hm] at h;injection h with h;exact ⟨i,m,hi,hp,hm,h⟩
theorem Ry {cards:List Cd} {l:List Pn} (h:Rows cards l) (p:Nat→Bool):∀k,(Dh l p k).Nodup:=by
 intro k
 induction k with
 |zero=>exact Ao9
 |succ k ih=>
  cases hm:l[k]? with
  |none=>
   have:Dh l p (k+1)=Dh l p k:=by
    unfold Dh;rw [List.range_succ,Aq0];simp [hm]
   rw [this];exact ih
  |some m=>
   rw [Ac8 l p k hm]
   cases hp:p k with
   |false=>simpa using ih
   |true=>
    rw [if_pos rfl,List.nodup_append];refine ⟨ih,List.nodup_cons.2 ⟨Ap0,Ao9⟩,?_⟩;intro a ha b hb e;rw [Aq1] at hb;obtain ⟨i,m',hi,_,hm',e'⟩:=Rx l p k a ha;have h1:=(h.ok i m' hm').plc;have h2:=(h.ok k m hm).plc;rw [e',e,hb,h2] at h1;injection h1 with h1
    omega
end Oq
namespace Oq
attribute [local go_sem] An3 An4
attribute [local go_sem ↓] Cg
theorem Ac9 (y:OpL) (nm:Id) (hn:y.op.name=nm) (w:World) (hat:y.at w w.heap.size) (hok:y.op.ok):Calls Tryz.prog 55 #[.agg y.cells] w fun e w'=>e=.returned (.agg nm.V)∧Fr Non w w':=by
 have k:=Wb y w hat hok;obtain ⟨b,s,u⟩:=nm;unfold Op.name at hn;injection hn with h1 h2 h3
 rw [h3,show y.by_=b from h1,show y.sq=s from h2] at k;exact k
end Oq
end
section
open Go.RowKit
namespace Oq
theorem Lx:SlT Tryz.prog 24 67 (.agg zO) 27 328:=⟨Tryz.underlying24,by kernel_rfl,rfl,by decide⟩
theorem slIi:SlT Tryz.prog 26 22 (.slice none 0 0) 1 24:=⟨Tryz.underlying26,by kernel_rfl,rfl,by decide⟩
theorem Own.ne2 {w:World} {b b' size size' n n' c c':Nat} {t t':TypeId} {A A':Option Addr} {xs xs':List Value} (h:Own w b t size A n c xs) (h':Own w b' t' size' A' n' c' xs') (hne:t≠t'):∀k,Ac A=some k→Ac A'≠some k:=by
 intro k hk hk'
 rcases h.2 with ⟨hv,_⟩|⟨g,cap,cur,hv,_,hg,_⟩
 ·
  injection hv with hA
  subst hA
  cases hk
 ·
  injection hv with hA
  subst hA;injection hk with hk
  have hk2:g=k:=hk;subst hk2;exact Own.ne h' (g:=g) (t:=t) (cs:=cur) hg (fun e=>hne e.symm) hk'
theorem Own.setFar {w:World} {b size n c nb i:Nat} {t:TypeId} {A:Option Addr} {xs:List Value} {cs:Array Value} {t':TypeId} (h:Own w b t size A n c xs) (hb:Blk w nb t' cs) (hne:t≠t') (v:Value):Own (w.setCell ⟨nb,i,none⟩ v) b t size A n c xs:=
 h.setOne (h.ne hb hne)
theorem Own.grow2 {w w':World} {b b' size size' n n' c c':Nat} {t t':TypeId} {A A':Option Addr} {xs xs':List Value} (h:Own w b t size A n c xs) (h':Own w b' t' size' A' n' c' xs') (hne:t≠t') (hf:Fr (fun k=>Ac A'=some k) w w'):Own w' b t size A n c xs:=
 h.fr hf (fun k hk e=>Own.ne2 h h' hne k hk e)
theorem Hl {w w':World} (h:Fr (fun k=>Ac none=some k) w w'):Fr Non w w':=h.mono (fun _ _ e=>by cases e)
theorem Rz (l:List Pn) (o:Op):(As l o).id=o.name:=rfl
theorem Hm (l:List Pn) (o:Op):(As l o).o=o:=rfl
theorem id_okL (b s:Int) (u:Nat) (hb:I64 b) (hs:I64 s) (hu:U64 u):(Id.mk b s u).ok:=⟨hb,hs,hu⟩
structure KR (b:Nat) (wv:World) (lA:Option Addr) (nL lC:Nat) (LX:List Value) (iA:Option Addr) (nI iC:Nat) (IX:List Value) (uA:Option Addr) (nU uC:Nat) (UX:List Value) (A1:Option Addr) (M c1:Nat) (UP:List Value) (A2:Option Addr) (N c2:Nat) (BX:List Value):Prop where
 oL:Own wv b 67 27 lA nL lC LX
 oI:Own wv b 41 3 iA nI iC IX
 oU:Own wv b 22 1 uA nU uC UX
 oA:Own wv b 3 1 A1 M c1 UP
 oB:Own wv b 4 1 A2 N c2 BX
section
variable {b : Nat} {wv w' : World} {lA iA uA A1 A2 : Option Addr} {nL lC nI iC nU uC M c1 N c2 : Nat} {LX IX UX UP BX : List Value}
theorem KR.non (h:KR b wv lA nL lC LX iA nI iC IX uA nU uC UX A1 M c1 UP A2 N c2 BX) (hf:Fr Non wv w'):KR b w' lA nL lC LX iA nI iC IX uA nU uC UX A1 M c1 UP A2 N c2 BX:=
 ⟨h.oL.fr hf zr,h.oI.fr hf zr,h.oU.fr hf zr,h.oA.fr hf zr,h.oB.fr hf zr⟩
end
end Oq
end
section
open Go.RowKit
attribute [local go_sem ↓] Go.wp_at_zero Go.wp_at_succ
namespace Oq
attribute [local go_sem] An3 An4
def bsO (t:TypeId) (len:Nat) (parts:Array (Nat × Value)):=Instr.buildSlice t len parts
theorem Ad0 (n:Nat) (p:Array (Nat × Value)):Instr.buildSlice 24 n p=bsO 24 n p:=rfl
attribute [local go_sem ↓] Cg Ad0
end Oq
namespace Oq
attribute [local go_sem] An3 An4
attribute [local go_sem ↓] Cg Es
def smL (b k d ol ro:Int) (pA:Option Addr) (ps:List NdL) (ep of:Id) (bA:Option Addr) (bs:List UInt8):OpL:=
 {OpL.zero with by_:=b,kind:=k,dev:=d,old:=ol,role:=ro,pathA:=pA,pathC:=ps.length,path:=ps,epoch:=ep,of:=of,bodyA:=bA,bodyC:=bs.length,body:=bs}
theorem Own.blk {w:World} {base g:Nat} {t:TypeId} {size n:Nat} {cs:Array Value} (h:Blk w g t cs) (hb:base≤g) (hn:0<n) (hs:cs.size=n*size) (h1:n<9223372036854775807):Own w base t size (some ⟨g,0,none⟩) n n cs.toList:=by
 refine ⟨by rw [Aq2,hs],.inr ⟨g,n,cs,rfl,hb,h,An7 _,by unfold maxLen;omega,hs,?_⟩⟩;rw [An5 (by rw [Aq2,hs];exact An7 _)]
structure Cb (w v:World) (nm:Array Value) (y:OpL):Prop where
 b:Blk v w.heap.size 67 y.cells
 r:Blk v (w.heap.size+1) 67 OpL.zero.cells
 n:Blk v (w.heap.size+1+1) 41 nm
 f:Fr Non w v
 sz:w.heap.size+3≤v.heap.size
 own:y.own v (w.heap.size+2)
theorem Cb.gen {G:World→Prop} {w v:World} {nm:Array Value} {y:OpL} (s:Cb w v nm y) (k:∀v',Cb w v' nm y→G v'):G v:=k v s
theorem Cb.q {w v:World} {nm:Array Value} {y:OpL} (s:Cb w v nm y) (j:Nat) {x:Value} (h:y.cells[j]? =some x):v.cell? ⟨w.heap.size,j,none⟩=some x∧v.frozen? ⟨w.heap.size,j,none⟩=false:=⟨(s.b.cell j).trans h,s.b.frozen j⟩
theorem Cb.o {w v:World} {a0 a1 a2:Value} {y:OpL} (s:Cb w v #[a0,a1,a2] y):v.cell? ⟨w.heap.size+1+1,0,none⟩=some a0∧v.cell? ⟨w.heap.size+1+1,1,none⟩=some a1∧v.cell? ⟨w.heap.size+1+1,2,none⟩=some a2:=⟨s.n.cell 0,s.n.cell 1,s.n.cell 2⟩
theorem Ad1 {b k d ol ro b' k' d' ol' ro':Int} {pA bA:Option Addr} {ps:List NdL} {ep of ep' of':Id} {bs:List UInt8} {v:World} {B:Nat} (h:(smL b k d ol ro pA ps ep of bA bs).own v B):(smL b' k' d' ol' ro' pA ps ep' of' bA bs).own v B:=
 ⟨h.past,h.path,h.nodes,h.body,h.refs,h.guards,h.boxes,h.hist,h.seals⟩
theorem Ly {v:World} {g:Nat} {t:TypeId} {cs:Array Value} (hb:Blk v g t cs) {y:OpL} {B j:Nat} {x:Value} (h:y.own v B) (ht:t=67):y.own (v.setCell ⟨g,j,none⟩ x) B:=by
 subst ht;exact h.keepP ((Fr.refl (One g) v).setOne j x) (Types.one hb) (by decide) (by decide) (by decide) (by decide) (by decide) (by decide) (by decide)
theorem Cb.base {w v:World} {nm:Array Value} {y y':OpL} (s:Cb w v nm y) (j:Nat) (x:Value) (h:y.cells.setIfInBounds j x=y'.cells) (ho:y'.own (v.setCell ⟨w.heap.size,j,none⟩ x) (w.heap.size+2)):Cb w (v.setCell ⟨w.heap.size,j,none⟩ x) nm y' where
 b:=h▸s.b.set j x
 r:=s.r.far (p:=⟨w.heap.size,j,none⟩) (by show w.heap.size+1≠w.heap.size;omega) x
 n:=s.n.far (p:=⟨w.heap.size,j,none⟩) (by show w.heap.size+1+1≠w.heap.size;omega) x
 f:=s.f.setNew (g:=w.heap.size) (An7 _) j x
 sz:=by have:=s.sz;first|exact this|(simp [World.setCell];omega)
 own:=ho
theorem Cb.set {w v:World} {nm:Array Value} {b k d ol ro b' k' d' ol' ro':Int} {pA bA:Option Addr} {ps:List NdL} {ep of ep' of':Id} {bs:List UInt8} (s:Cb w v nm (smL b k d ol ro pA ps ep of bA bs)) (j:Nat) (x:Value)
  (h:(smL b k d ol ro pA ps ep of bA bs).cells.setIfInBounds j x=(smL b' k' d' ol' ro' pA ps ep' of' bA bs).cells:=by first|rfl|(simp [smL,OpL.cells,OpL.zero])):Cb w (v.setCell ⟨w.heap.size,j,none⟩ x) nm (smL b' k' d' ol' ro' pA ps ep' of' bA bs):=
 s.base j x h (Ad1 (Ly s.b s.own rfl))
theorem Cb.alloc {w v:World} {nm:Array Value} {y:OpL} (s:Cb w v nm y) (o:Obj):Cb w (v.alloc o) nm y:=
 ⟨s.b.alloc _,s.r.alloc _,s.n.alloc _,s.f.alloc _,by rw [World.size_alloc];have:=s.sz;omega,s.own.non ((Fr.refl Non v).alloc o)⟩
theorem Cb.path {w v:World} {nm:Array Value} {b k d ol ro:Int} {bA:Option Addr} {ep of:Id} {bs:List UInt8} (s:Cb w v nm (smL b k d ol ro none [] ep of bA bs)) (p:Nat) (P:Int) (hP:P=(p:Int)):
  Cb w ((v.alloc (.cells #[.int .u64 P,.slice none 0 0] 137)).setCell ⟨w.heap.size,9,none⟩ (.slice (some ⟨v.heap.size,0,none⟩) 1 1)) nm (smL b k d ol ro (some ⟨v.heap.size,0,none⟩) [⟨p,none,0,[]⟩] ep of bA bs):=by
 subst hP;have hs:=s.sz;have s1:=s.alloc (.cells #[.int .u64 (p:Int),.slice none 0 0] 137);refine s1.base 9 _ rfl (Ly s1.b ?_ rfl);have h5:=Own.blk (base:=w.heap.size+2) (n:=1) (size:=2) (Blk.new v 137 #[.int .u64 (p:Int),.slice none 0 0]) (by omega) (by omega) rfl (by omega);have h:=s1.own;exact ⟨h.past,RowAt.of_own h5,(fun y hy=>by rw [List.mem_singleton.1 (show y∈[(⟨p,none,0,[]⟩:NdL)] from hy)];exact RowAt.nil _ _ _ _),h.body,h.refs,h.guards,h.boxes,h.hist,h.seals⟩
theorem Cb.body {w v:World} {nm:Array Value} {b k d ol ro:Int} {ep of:Id} (s:Cb w v nm (smL b k d ol ro none [] ep of none [])) (x:UInt8) (X:Int) (hX:X=(x.toNat:Int)):
  Cb w ((v.alloc (.cells #[.int .u8 X] 5)).setCell ⟨w.heap.size,14,none⟩ (.slice (some ⟨v.heap.size,0,none⟩) 1 1)) nm (smL b k d ol ro none [] ep of (some ⟨v.heap.size,0,none⟩) [x]):=by
 subst hX;have hs:=s.sz;have s1:=s.alloc (.cells #[.int .u8 (x.toNat:Int)] 5);refine s1.base 14 _ rfl (Ly s1.b ?_ rfl);have h5:=Own.blk (base:=w.heap.size+2) (n:=1) (size:=1) (Blk.new v 5 #[.int .u8 (x.toNat:Int)]) (by omega) (by omega) rfl (by omega);have h:=s1.own;exact ⟨h.past,h.path,h.nodes,RowAt.of_own h5,h.refs,h.guards,h.boxes,h.hist,h.seals⟩
end Oq
end
section
open Go.RowKit
namespace Oq
theorem Rows.idAt {cards:List Cd} {l:List Pn} (h:Rows cards l) {i:Nat} {n:Pn} (hi:l[i]? =some n):n.id.b=n.o.by_∧n.id.s=n.o.sq:=by
 rw [(h.ok i n hi).id];exact ⟨rfl,rfl⟩
theorem Rows.seqLt {cards:List Cd} {l:List Pn} (h:Rows cards l) {x z:Id} (hb:x.b=z.b) (hz:bef l z x=true):z.s<x.s:=by
 obtain ⟨i,j,m,h1,h2,h3,h4⟩:=bef_iff.1 hz;obtain ⟨n,hn,e1⟩:=Bw h1;obtain ⟨m',hm',e2⟩:=Bw h2;rw [h3] at hm';injection hm' with e
 subst e;obtain ⟨k1,k2⟩:=h.idAt hn;obtain ⟨k3,k4⟩:=h.idAt h3;rw [e1] at k1 k2;rw [e2] at k3 k4;have:=(h.ok j m h3).seqs i n h4 hn (by omega);omega
theorem Rows.nodup {cards:List Cd} {l:List Pn} (h:Rows cards l):(l.map Pn.id).Nodup:=by
 rw [Ap1,List.pairwise_iff_getElem];intro i j hi hj hij e;rw [Aq3,Aq3] at e;rw [Ao0] at hi hj;have k1:=(h.ok i _ (Am9 hi)).plc;have k2:=(h.ok j _ (Am9 hj)).plc;rw [e,k2] at k1;injection k1 with k1
 omega
theorem Ad2 {l:List Pn} {p:Nat→Bool} {id:Id}:id∈Dh l p l.length↔∃i m,p i=true∧l[i]? =some m∧m.id=id:=by
 constructor
 ·
  intro h;obtain ⟨i,m,_,h1,h2,h3⟩:=Rx l p l.length id h;exact ⟨i,m,h1,h2,h3⟩
 ·
  rintro ⟨i,m,h1,h2,h3⟩;unfold Dh;refine List.mem_filterMap.2 ⟨i,List.mem_range.2 (List.getElem?_eq_some_iff.1 h2).1,?_⟩;rw [if_pos h1,h2];exact congrArg some h3
def Fw (l m:List Pn):Prop:=∀n'∈m,∃n∈l,n.o=n'.o
theorem Rows.take {cards:List Cd} {l:List Pn} (h:Rows cards l):∀i,Rows cards (l.take i):=by
 induction h with
 |nil=>intro i;rw [List.take_nil];exact .nil
 |snoc l o hl ho ih=>
  intro i
  rcases An8 l.length i with hi|hi
  ·
   rw [An5 (by rw [Ao7,Aq4];omega)];exact .snoc l o hl ho
  ·
   rw [List.take_append_of_le_length hi];exact ih i
theorem Ad3 (l:List Pn) (i:Nat):Fw l (l.take i):=fun n hn=>⟨n,List.mem_of_mem_take hn,rfl⟩
theorem Ji {cards:List Cd} {l m:List Pn} (hl:Rows cards l) (hm:Rows cards m) (hs:Fw l m) {id:Id} {j:Nat} {n':Pn} (hj:plc m id=some j) (hn:m[j]? =some n'):
  ∃i n,plc l id=some i∧l[i]? =some n∧n.o=n'.o:=by
 obtain ⟨n,h1,h2⟩:=hs n' (An0 hn);obtain ⟨i,hi⟩:=An2 h1;have e1:=(hl.ok i n hi).id;have e2:=(hm.ok j n' hn).id;have e3:=(hm.node hn).1 hj;refine ⟨i,n,?_,hi,h2⟩;rw [← e3,e2,← h2,← e1];exact (hl.ok i n hi).plc
theorem R2 {cards:List Cd} {l:List Pn} (h:Rows cards l) {a b:Id} {j:Nat} {n:Pn} (hj:plc l b=some j) (hn:l[j]? =some n):bef l a b=true↔∃id∈n.o.past,id=a∨bef l a id=true:=by
 have k:=h.ok j n hn;rw [bef_iff];constructor
 ·
  rintro ⟨i,j',m,h1,h2,h3,h4⟩;rw [hj] at h2;injection h2 with e
  subst e;rw [hn] at h3;injection h3 with e
  subst e;obtain ⟨id,hid,p,m,h5,h6,h7⟩:=(k.ps i).1 h4;refine ⟨id,hid,?_⟩
  rcases h7 with rfl|h7
  ·
   left;obtain ⟨x,hx,e1⟩:=Bw h5;obtain ⟨y,hy,e2⟩:=Bw h1;rw [hx] at hy;injection hy with e
   rw [← e1,← e2,e]
  ·
   right;exact bef_iff.2 ⟨i,p,m,h1,h5,h6,h7⟩
 ·
  rintro ⟨id,hid,h1⟩;obtain ⟨p,hp,hq⟩:=k.par id hid;obtain ⟨m,hm,e⟩:=Bw hq
  rcases h1 with rfl|h1
  · exact ⟨p,j,n,hq,hj,hn,(k.ps p).2 ⟨id,hid,p,m,hq,hm,.inl rfl⟩⟩
  ·
   obtain ⟨i,p',m',h2,h3,h4,h5⟩:=bef_iff.1 h1;exact ⟨i,j,n,h2,hj,hn,(k.ps i).2 ⟨id,hid,p',m',h3,h4,.inr h5⟩⟩
theorem Lz {cards:List Cd} {l m:List Pn} (hl:Rows cards l) (hm:Rows cards m) (hs:Fw l m):∀(j:Nat) (b a:Id),plc m b=some j→bef m a b=bef l a b:=by
 intro j
 induction j using Nat.strongRecOn with
 |_ j ih=>
  intro b a hj;obtain ⟨n',hn',_⟩:=Bw hj;obtain ⟨i,n,hi,hn,ho⟩:=Ji hl hm hs hj hn';rw [Ao1,R2 hm hj hn',R2 hl hi hn,ho];constructor
  ·
   rintro ⟨id,hid,h⟩;obtain ⟨p,hp,hq⟩:=(hm.ok j n' hn').par id hid;exact ⟨id,hid,h.imp zq (fun e=>by rw [← ih p hp id a hq];exact e)⟩
  ·
   rintro ⟨id,hid,h⟩;obtain ⟨p,hp,hq⟩:=(hm.ok j n' hn').par id hid;exact ⟨id,hid,h.imp zq (fun e=>by rw [ih p hp id a hq];exact e)⟩
theorem Ad4 {cards:List Cd} {l m:List Pn} (hl:Rows cards l) (hm:Rows cards m) (hs:Fw l m):∀(j:Nat) (b:Id),plc m b=some j→Bk m b=Bk l b:=by
 intro j
 induction j using Nat.strongRecOn with
 |_ j ih=>
  intro b hj;obtain ⟨n',hn',_⟩:=Bw hj;obtain ⟨i,n,hi,hn,ho⟩:=Ji hl hm hs hj hn';rw [P9 hj hn',P9 hi hn,(hm.ok j n' hn').lev,(hl.ok i n hn).lev,ho];refine Lj (fun id hid=> ?_);obtain ⟨p,hp,hq⟩:=(hm.ok j n' hn').par id hid;exact ih p hp id hq
theorem R3 {cards:List Cd} {l m:List Pn} (hl:Rows cards l) (hm:Rows cards m) (hs:Fw l m) {j:Nat} {b:Id} (hj:plc m b=some j):B2 m b=B2 l b:=by
 obtain ⟨n',hn',_⟩:=Bw hj;obtain ⟨i,n,hi,hn,ho⟩:=Ji hl hm hs hj hn';rw [Hf hj hn',Hf hi hn,ho]
theorem Ad5 {l l':List Pn} {ids:List Id} (h:∀id∈ids,B2 l' id=B2 l id):late l' ids=late l ids:=by
 unfold late
 suffices H:∀t:Int,ids.foldl (fun t id=>max t (B2 l' id)) t=ids.foldl (fun t id=>max t (B2 l id)) t from H 0
 induction ids with
 |nil=>intro t;rfl
 |cons x r ih=>intro t;rw [List.foldl_cons,List.foldl_cons,h x An1];exact ih (fun y hy=>h y (Ao2 _ hy)) _
theorem Ma {l:List Pn} {ids:List Id} (hlen:l.length≤200):clash l ids=true↔∃x∈ids,∃y∈ids,bef l x y=true:=by
 unfold clash;rw [Aq5];constructor
 ·
  rintro ⟨q,_,h⟩;rw [Am8] at h;obtain ⟨x,hx,h1⟩:=List.any_eq_true.1 h.1;obtain ⟨y,hy,h2⟩:=List.any_eq_true.1 h.2;have h1':plc l x=some q:=by simpa using h1
  obtain ⟨p,m,h3,h4,h5⟩:=upB_iff.1 h2;exact ⟨x,hx,y,hy,bef_iff.2 ⟨q,p,m,h1',h3,h4,h5⟩⟩
 ·
  rintro ⟨x,hx,y,hy,h⟩;obtain ⟨i,j,m,h1,h2,h3,h4⟩:=bef_iff.1 h;have:=Ev h1;refine ⟨i,List.mem_range.2 (by omega),?_⟩;rw [Am8];exact ⟨List.any_eq_true.2 ⟨x,hx,by rw [h1];exact beq_self_eq_true _⟩,List.any_eq_true.2 ⟨y,hy,upB_iff.2 ⟨j,m,h2,h3,h4⟩⟩⟩
theorem Gq {cards:List Cd} {l:List Pn} (h:Rows cards l) {ids:List Id} {q:Nat} {n:Pn} (hq:l[q]? =some n):Ai l ids q=true↔∃id∈ids,(plc l id).isSome=true∧(id=n.id∨bef l n.id id=true):=by
 rw [P7 h.few (fun p m hm=>(h.ok p m hm).lt)];constructor
 ·
  rintro ⟨id,hid,p,m,h1,h2,h3⟩;refine ⟨id,hid,by rw [h1];rfl,?_⟩
  rcases h3 with rfl|h3
  ·
   rw [hq] at h2;injection h2 with e
   subst e;exact .inl ((h.node hq).1 h1).symm
  · exact .inr (bef_iff.2 ⟨q,p,m,(h.ok q n hq).plc,h1,h2,h3⟩)
 ·
  rintro ⟨id,hid,h1,h2⟩;obtain ⟨p,hp⟩:=Option.isSome_iff_exists.1 h1;obtain ⟨m,hm,_⟩:=Bw hp;refine ⟨id,hid,p,m,hp,hm,?_⟩
  rcases h2 with rfl|h2
  ·
   rw [(h.ok q n hq).plc] at hp;injection hp with e
   exact .inl e
  ·
   obtain ⟨i,j,m',h3,h4,h5,h6⟩:=bef_iff.1 h2;rw [(h.ok q n hq).plc] at h3;injection h3 with e
   subst e;rw [hp] at h4;injection h4 with e
   subst e;rw [hm] at h5;injection h5 with e
   subst e;exact .inr h6
theorem Ad6 {l:List Pn} {p:Nat→Bool} {d s:Int} (h0:0<s) (h:∀k m,l[k]? =some m→m.o.by_=d→p k=true→m.o.sq<s):∀K,Ao l p d K<s:=by
 intro K
 induction K with
 |zero=>exact h0
 |succ K ih=>
  unfold Ao
  split
  ·
   rename_i n hn
   split
   ·
    rename_i hc;rw [Am8,beq_iff_eq] at hc;have:=h K n hn hc.1 hc.2;omega
   · exact ih
  · exact ih
theorem Ad7 {cards:List Cd} {l m:List Pn} {o:Op} (hl:Rows cards l) (hm:Rows cards m) (hp:∀id∈o.past,(plc m id).isSome=true∧(plc l id).isSome=true∧∀a,bef m a id=bef l a id) (h0:B4 l (Ai l o.past) o=false):B4 m (Ai m o.past) o=false:=by
 unfold B4 at h0 ⊢;rw [Aq6,decide_eq_false_iff_not] at h0 ⊢;obtain ⟨h1,h2⟩:=h0
 have key:∀(q:Nat) (n:Pn),m[q]? =some n→Ai m o.past q=true→∃q' n',l[q']? =some n'∧Ai l o.past q'=true∧n'.id=n.id:=by
  intro q n hq hps;obtain ⟨id,hid,_,h4⟩:=(Gq hm hq).1 hps;obtain ⟨_,h6,h7⟩:=hp id hid
  rcases h4 with rfl|h4
  ·
   obtain ⟨q',hq'⟩:=Option.isSome_iff_exists.1 h6;obtain ⟨n',hn',e⟩:=Bw hq';exact ⟨q',n',hn',(Gq hl hn').2 ⟨n.id,hid,h6,.inl e.symm⟩,e⟩
  ·
   rw [h7] at h4;obtain ⟨i,j,x,h8,_⟩:=bef_iff.1 h4;obtain ⟨n',hn',e⟩:=Bw h8;exact ⟨i,n',hn',(Gq hl hn').2 ⟨id,hid,h6,.inr (by rw [e];exact h4)⟩,e⟩
 have yek:∀(q:Nat) (n:Pn),l[q]? =some n→Ai l o.past q=true→∃q' n',m[q']? =some n'∧Ai m o.past q'=true∧n'.id=n.id:=by
  intro q n hq hps;obtain ⟨id,hid,_,h4⟩:=(Gq hl hq).1 hps;obtain ⟨h6,_,h7⟩:=hp id hid
  rcases h4 with rfl|h4
  ·
   obtain ⟨q',hq'⟩:=Option.isSome_iff_exists.1 h6;obtain ⟨n',hn',e⟩:=Bw hq';exact ⟨q',n',hn',(Gq hm hn').2 ⟨n.id,hid,h6,.inl e.symm⟩,e⟩
  ·
   rw [← h7] at h4;obtain ⟨i,j,x,h8,_⟩:=bef_iff.1 h4;obtain ⟨n',hn',e⟩:=Bw h8;exact ⟨i,n',hn',(Gq hm hn').2 ⟨id,hid,h6,.inr (by rw [e];exact h4)⟩,e⟩
 have h0':0<o.sq:=by
  have:0≤Ao l (Ai l o.past) o.by_ l.length:=by
   have h0:∀K,0≤Ao l (Ai l o.past) o.by_ K:=by
    intro K
    induction K with
    |zero=>exact Ao3 _
    |succ K ih=>
     unfold Ao
     split
     ·
      split
      · exact Ap2 ih (Ap3 _ _)
      · exact ih
     · exact ih
   exact h0 _
  omega
 constructor
 ·
  refine Int.not_le.2 (Ad6 h0' (fun k n hk hb hps=> ?_) _);obtain ⟨q',n',h3,h4,h5⟩:=key k n hk hps;obtain ⟨e1,e2⟩:=hm.idAt hk;obtain ⟨e3,e4⟩:=hl.idAt h3;have h6:=Lk (p:=Ai l o.past) (d:=o.by_) (List.getElem?_eq_some_iff.1 h3).1 h3 (by rw [← e3,h5,e1,hb]) h4;rw [← e2,← h5,e4];omega
 ·
  rw [Aq7] at h2 ⊢;refine h2.imp zq (fun e=> ?_);rw [Aq8] at e ⊢;obtain ⟨k,n,_,h3,h4,h5,h6⟩:=aheadTo_iff.1 e;obtain ⟨q',n',h7,h8,h9⟩:=yek k n h3 h5;obtain ⟨e1,e2⟩:=hl.idAt h3;obtain ⟨e3,e4⟩:=hm.idAt h7;exact aheadTo_iff.2 ⟨q',n',(List.getElem?_eq_some_iff.1 h7).1,h7,by rw [← e3,h9,e1,h4],h8,by rw [← e4,h9,e2,h6]⟩
theorem R4 {cards:List Cd} {l:List Pn} {o:Op} (h:Ar cards l o=0):(∃c,Cw cards o.by_=some c∧Sg.check c.s o.bare o.r o.s=true)∧(o.kind=1→l=[]):=by
 unfold Ar at h
 by_cases h1:o.chk≠0
 · rw [if_pos h1] at h;exact absurd h h1
 rw [if_neg h1] at h
 by_cases h2:(plc l o.name).isSome=true
 · rw [if_pos h2] at h;omega
 rw [if_neg h2] at h
 by_cases h3:200≤l.length
 · rw [if_pos h3] at h;omega
 rw [if_neg h3] at h
 cases hc:Cw cards o.by_ with
 |none=>rw [hc] at h;dsimp only at h;omega
 |some c=>
  rw [hc] at h;dsimp only at h
  by_cases h4:Sg.check c.s o.bare o.r o.s=false
  · rw [if_pos h4] at h;omega
  rw [if_neg h4] at h
  by_cases h5:o.kind=1∧l≠[]
  · rw [if_pos h5] at h;omega
  refine ⟨⟨c,rfl,Bool.not_eq_false _▸h4⟩,fun hk=> ?_⟩;exact Decidable.byContradiction fun hne=>h5 ⟨hk,hne⟩
theorem Ad8 {o:Op} (h:o.chk=0):o.past=[]↔o.kind=1:=(chk_ok.1 h).2.2.2.2.2.2
theorem Rows.first {cards:List Cd} {l:List Pn} (h:Rows cards l) {i:Nat} {n:Pn} (hi:l[i]? =some n):n.o.kind=1↔i=0:=by
 constructor
 ·
  intro hk;have h1:=(R4 (h.step hi).1).2 hk;have h2:=(List.getElem?_eq_some_iff.1 hi).1;have h3:=congrArg List.length h1;rw [Aq9,List.length_nil] at h3;omega
 ·
  rintro rfl;refine (Ad8 (h.ok 0 n hi).chk).1 ?_
  cases hp:n.o.past with
  |nil=>rfl
  |cons x r=>
   obtain ⟨p,hp,_⟩:=(h.ok 0 n hi).par x (by rw [hp];exact An1);omega
theorem Ad9 {cards:List Cd} {l m:List Pn} (hl:Rows cards l) (hm:Rows cards m) (hs:Fw l m) {i:Nat} {n:Pn} (hi:l[i]? =some n) (hnew:plc m n.id=none) (hroom:m.length<200):
  Ar cards m n.o=if n.o.past.any (fun id=>(plc m id).isNone)=true then 10 else 0:=by
 have k:=hl.ok i n hi;have hstep:=(hl.step hi).1;obtain ⟨⟨c,hc,hsg⟩,hkd⟩:=R4 hstep;have hT:=Li hstep;have h1:¬n.o.chk≠0:=fun h=>h k.chk;have h2:¬(plc m n.o.name).isSome=true:=by rw [← k.id,hnew];exact An6
 have h5:¬(n.o.kind=1∧m≠[]):=by
  rintro ⟨hk,hne⟩;have e0:=(hl.first hi).1 hk
  cases hm0:m[0]? with
  |none=>
   rw [List.getElem?_eq_none_iff] at hm0;exact hne (List.length_eq_zero_iff.1 (by omega))
  |some n'=>
   have hk':=(hm.first hm0).2 rfl;obtain ⟨j,n2,h6,h7,h8⟩:=Ji hl hm hs (hm.ok 0 n' hm0).plc hm0;rw [← h8] at hk';have e1:=(hl.first h7).1 hk';rw [e1,← e0,hi] at h7;injection h7 with h7
   have h9:=(hm.ok 0 n' hm0).plc;have e3:n'.id=n.id:=by rw [(hm.ok 0 n' hm0).id,k.id,h7,h8]
   rw [e3,hnew] at h9
   cases h9
 unfold Ar;rw [if_neg h1,if_neg h2,if_neg (by omega),hc];dsimp only;rw [if_neg (by rw [hsg];decide),if_neg h5]
 by_cases hp:n.o.past.any (fun id=>(plc m id).isNone)=true
 · rw [if_pos hp,if_pos hp]
 rw [if_neg hp,if_neg hp]
 have hpar:∀id∈n.o.past,∃j,plc m id=some j:=by
  intro id hid
  cases hq:plc m id with
  |some j=>exact ⟨j,rfl⟩
  |none=>exact absurd (List.any_eq_true.2 ⟨id,hid,by rw [hq];rfl⟩) hp
 have hl0:=hl.take i;have hs0:=Ad3 l i
 have hbm:∀id∈n.o.past,∀a,bef m a id=bef (l.take i) a id:=by
  intro id hid a;obtain ⟨j,hj⟩:=hpar id hid;obtain ⟨p,hp⟩:=hT.past id hid;rw [Lz hl hm hs j id a hj,Lz hl hl0 hs0 p id a hp]
 have h7:¬(clash m n.o.past=true∨n.o.at_<late m n.o.past):=by
  rintro (h|h)
  ·
   obtain ⟨x,hx,y,hy,hb⟩:=(Ma hm.few).1 h;rw [hbm y hy] at hb;have:=(Ma hl0.few).2 ⟨x,hx,y,hy,hb⟩;rw [hT.clash] at this
   cases this
  ·
   have e:late m n.o.past=late (l.take i) n.o.past:=Ad5 (fun id hid=>by
    obtain ⟨j,hj⟩:=hpar id hid;obtain ⟨p,hp⟩:=hT.past id hid;rw [R3 hl hm hs hj,R3 hl hl0 hs0 hp])
   rw [e] at h;exact absurd hT.late (Int.not_le.2 h)
 have h8:B4 m (Ai m n.o.past) n.o=false:=Ad7 hl0 hm (fun id hid=>by
  obtain ⟨j,hj⟩:=hpar id hid;obtain ⟨p,hp⟩:=hT.past id hid;exact ⟨by rw [hj];rfl,by rw [hp];rfl,hbm id hid⟩) hT.seq
 rw [if_neg h7,h8];rfl
def ready (m:List Pn) (o:Op):Bool:=!o.past.any (fun id=>(plc m id).isNone)
structure Cz (cards:List Cd) (l m:List Pn) (left:List Op):Prop where
 rl:Rows cards l
 rm:Rows cards m
 perm:(m.map Pn.o++left).Perm (l.map Pn.o)
theorem Cz.among {cards:List Cd} {l m:List Pn} {left:List Op} (h:Cz cards l m left):Fw l m:=by
 intro n' hn;have h1:n'.o∈l.map Pn.o:=h.perm.mem_iff.1 (Ar0 _ (Ap4 hn));obtain ⟨n,h2,h3⟩:=List.mem_map.1 h1;exact ⟨n,h2,h3⟩
theorem Rows.names {cards:List Cd} {l:List Pn} (h:Rows cards l):(l.map Pn.o).map Op.name=l.map Pn.id:=by
 rw [List.map_map];refine List.map_congr_left (fun n hn=> ?_);obtain ⟨i,hi⟩:=An2 hn;exact (h.ok i n hi).id.symm
theorem Cz.nodup {cards:List Cd} {l m:List Pn} {left:List Op} (h:Cz cards l m left):(m.map Pn.id++left.map Op.name).Nodup:=by
 have h1:=h.perm.map Op.name;rw [List.map_append,h.rm.names,h.rl.names] at h1;exact h1.nodup_iff.2 h.rl.nodup
theorem Cz.of {cards:List Cd} {l m:List Pn} {left:List Op} (h:Cz cards l m left) {o:Op} (ho:o∈left):∃(i:Nat) (n:Pn),l[i]? =some n∧n.o=o∧plc m n.id=none:=by
 have h1:o∈l.map Pn.o:=h.perm.mem_iff.1 (Ar1 _ ho);obtain ⟨n,h2,h3⟩:=List.mem_map.1 h1;obtain ⟨i,hi⟩:=An2 h2;refine ⟨i,n,hi,h3,?_⟩
 cases hp:plc m n.id with
 |none=>rfl
 |some j=>
  obtain ⟨n',hn',e⟩:=Bw hp;have h4:=(List.nodup_append.1 h.nodup).2.2 n'.id (Ap4 (An0 hn')) o.name (Ap4 ho);rw [e,(h.rl.ok i n hi).id,h3] at h4;exact absurd rfl h4
theorem Cz.err {cards:List Cd} {l m:List Pn} {left:List Op} (h:Cz cards l m left) (hlen:l.length<200) {o:Op} (ho:o∈left):Ar cards m o=if ready m o=true then 0 else 10:=by
 obtain ⟨i,n,h1,rfl,h3⟩:=h.of ho
 have hle:m.length≤l.length:=by
  have:=h.perm.length_eq;rw [Ao7,Ao0,Ao0] at this;omega
 rw [Ad9 h.rl h.rm h.among h1 h3 (by omega)];unfold ready
 cases n.o.past.any (fun id=>(plc m id).isNone)<;>rfl
theorem Cz.take {cards:List Cd} {l m:List Pn} {left:List Op} (h:Cz cards l m left) (hlen:l.length<200) {k:Nat} {o:Op} (hk:left[k]? =some o) (hr:ready m o=true):Cz cards l (m++[As m o]) (left.eraseIdx k):=by
 have he:=h.err hlen (An0 hk);rw [if_pos hr] at he;refine ⟨h.rl,.snoc m o h.rm he,?_⟩;refine List.Perm.trans ?_ h.perm;rw [List.map_append,List.append_assoc];refine List.Perm.append_left _ ?_;obtain ⟨hlt,rfl⟩:=List.getElem?_eq_some_iff.1 hk;rw [List.eraseIdx_eq_take_drop_succ];conv=>rhs;rw [← List.take_append_drop k left,List.drop_eq_getElem_cons hlt]
 exact (List.perm_middle (a:=left[k]) (l₁:=left.take k) (l₂:=left.drop (k+1))).symm
def Tried (m:List Pn) (left:List Op) (i:Nat):Prop:=
 ∃j,i≤60+14*(14-left.length)+j∧(0<j→60+j≤i∧j<left.length∧∀t,t<j→∀o,left[(i-1-t)%left.length]? =some o→ready m o=false)
theorem Tried.few {m:List Pn} {left:List Op} {i:Nat} (h:Tried m left i) (hlen:left.length≤14) (hne:left≠[]):i<400:=by
 obtain ⟨j,h1,h2⟩:=h;have h3:0<left.length:=List.length_pos_iff.2 hne
 rcases Ar2 j with h0|h0
 · omega
 ·
  have:=(h2 h0).2.1;omega
theorem Tried.hit {m m':List Pn} {left:List Op} {i k:Nat} (h:Tried m left i) (hlen:left.length≤14) (hk:k<left.length):Tried m' (left.eraseIdx k) (i+1):=by
 obtain ⟨j,h1,h2⟩:=h;have h3:(left.eraseIdx k).length=left.length-1:=List.length_eraseIdx_of_lt hk;refine ⟨0,?_,fun e=>absurd e (Nat.lt_irrefl 0)⟩;rw [h3]
 rcases Ar2 j with h0|h0
 · omega
 ·
  have:=(h2 h0).2.1;omega
theorem Cz.ends {cards:List Cd} {l m:List Pn} (h:Cz cards l m []):(m.map Pn.id).Perm (l.map Pn.id):=by
 have h1:=h.perm.map Op.name;rw [List.append_nil,h.rm.names,h.rl.names] at h1;exact h1
theorem Cz.lev {cards:List Cd} {l m:List Pn} (h:Cz cards l m []) {x:Id} (hx:x∈l.map Pn.id):Bk m x=Bk l x:=by
 obtain ⟨n,h1,rfl⟩:=List.mem_map.1 (h.ends.mem_iff.2 hx);obtain ⟨j,hj⟩:=An2 h1;exact Ad4 h.rl h.rm h.among j _ (h.rm.ok j n hj).plc
theorem R5 {cards:List Cd} {l:List Pn} (h:Rows cards l) {x id:Id}:id∈Dh l (Bs l [x]) l.length↔bef l id x=true:=by
 rw [Ad2,bef_iff];unfold Bs;constructor
 ·
  rintro ⟨i,n,h1,h2,rfl⟩;rw [Ap5,List.any_nil,Bool.or_false] at h1;obtain ⟨p,m,h3,h4,h5⟩:=upB_iff.1 h1;exact ⟨i,p,m,(h.ok i n h2).plc,h3,h4,h5⟩
 ·
  rintro ⟨i,j,m,h1,h2,h3,h4⟩;obtain ⟨n,hn,e⟩:=Bw h1;refine ⟨i,n,?_,hn,e⟩;rw [Ap5,List.any_nil,Bool.or_false];exact upB_iff.2 ⟨j,m,h2,h3,h4⟩
theorem Cz.past {cards:List Cd} {l m:List Pn} (h:Cz cards l m []) {x:Id} (hx:x∈l.map Pn.id):(Dh m (Bs m [x]) m.length).Perm (Dh l (Bs l [x]) l.length):=by
 obtain ⟨n,h1,rfl⟩:=List.mem_map.1 (h.ends.mem_iff.2 hx);obtain ⟨j,hj⟩:=An2 h1;refine (Ar3 (Ry h.rm _ _) (Ry h.rl _ _)).2 fun id=> ?_;rw [R5 h.rm,R5 h.rl,Lz h.rl h.rm h.among j _ _ (h.rm.ok j n hj).plc]
def inP (l:List Pn) (k p:Nat):Bool:=(l[k]?.map (fun n=>n.ps p)).getD false
def nmP (l:List Pn) (p:Nat):Id:=(l[p]?.map Pn.id).getD ⟨0,0,0⟩
theorem Ek {l:List Pn} {p:Nat} {n:Pn} (h:l[p]? =some n):nmP l p=n.id:=by unfold nmP;rw [h];rfl
theorem Gr {l:List Pn} {k p:Nat} {n:Pn} (h:l[k]? =some n):inP l k p=n.ps p:=by unfold inP;rw [h];rfl
def Bz (l:List Pn) (places:List Nat):Nat→List Nat
 |0=>[]
 |k+1=>match places[k]? with
  |some p=>if ((Bz l places k).contains p||places.any (fun q=>inP l q p))=true then Bz l places k else Bz l places k++[p]
  |none=>Bz l places k
def Cr (l:List Pn) (places:List Nat):List Nat:=Bz l places places.length
theorem Jj (l:List Pn) (places:List Nat):∀k,(Bz l places k).length≤k
 |0=>An7 _
 |k+1=>by
  have ih:=Jj l places k;unfold Bz
  split
  ·
   split
   · omega
   · rw [Ao7,Aq4];omega
  · omega
theorem R6 (l:List Pn) (places:List Nat):∀k,(Bz l places k).Nodup
 |0=>Ao9
 |k+1=>by
  have ih:=R6 l places k;unfold Bz
  split
  ·
   rename_i p _
   split
   · exact ih
   ·
    rename_i hc;refine List.nodup_append.2 ⟨ih,by simp,fun a ha b hb=> ?_⟩;obtain rfl:=List.mem_singleton.1 hb;rintro rfl;rw [List.contains_iff_mem.2 ha] at hc;exact hc rfl
  · exact ih
theorem Hn {l:List Pn} {places:List Nat}:∀(k:Nat) {p:Nat},p∈Bz l places k→p∈places∧∀q∈places,inP l q p=false
 |0,p,h=>by unfold Bz at h;cases h
 |k+1,p,h=>by
  have ih:=Hn (l:=l) (places:=places) k (p:=p);unfold Bz at h
  cases hx:places[k]? with
  |none=>rw [hx] at h;exact ih h
  |some y=>
   rw [hx] at h;dsimp only at h
   by_cases hc:((Bz l places k).contains y||places.any (fun q=>inP l q y))=true
   · rw [if_pos hc] at h;exact ih h
   ·
    rw [if_neg hc] at h
    rcases List.mem_append.1 h with h|h
    · exact ih h
    ·
     obtain rfl:=List.mem_singleton.1 h;refine ⟨An0 hx,fun q hq=> ?_⟩
     cases hi:inP l q p with
     |false=>rfl
     |true=>
      refine absurd ?_ hc;rw [Ao4];exact .inr (List.any_eq_true.2 ⟨q,hq,hi⟩)
theorem R7 {l:List Pn} {places:List Nat} {p:Nat} (hp:∀q∈places,inP l q p=false):∀(k j:Nat),j<k→places[j]? =some p→p∈Bz l places k
 |0,j,h,_=>absurd h (Nat.not_lt_zero j)
 |k+1,j,h,hj=>by
  have ih:=R7 (l:=l) (places:=places) hp k j;unfold Bz
  rcases An8 j k with hjk|hjk
  ·
   have:=ih hjk hj
   split
   ·
    split
    · exact this
    · exact Ar0 _ this
   · exact this
  ·
   obtain rfl:j=k:=by omega
   rw [hj];dsimp only
   split
   ·
    rename_i hc;rw [Ao4] at hc
    rcases hc with hc|hc
    · exact List.contains_iff_mem.1 hc
    ·
     obtain ⟨q,hq,h2⟩:=List.any_eq_true.1 hc;rw [hp q hq] at h2
     cases h2
   · exact Ar1 _ An1
theorem Ae0 {cards:List Cd} {l:List Pn} (h:Rows cards l) {places:List Nat} (hne:places≠[]) (hlt:∀p∈places,p<l.length):Cr l places≠[]:=by
 have hmax:∃p∈places,∀q∈places,q≤p:=by
  clear hlt
  induction places with
  |nil=>exact absurd rfl hne
  |cons x r ih=>
   cases r with
   |nil=>exact ⟨x,An1,fun q hq=>by rw [List.mem_singleton.1 hq];exact An7 _⟩
   |cons y r=>
    obtain ⟨p,hp,hq⟩:=ih (by simp)
    rcases An8 p x with hx|hx
    ·
     refine ⟨x,An1,fun q hq2=> ?_⟩
     rcases List.mem_cons.1 hq2 with rfl|h2
     · exact An7 _
     · have:=hq q h2;omega
    ·
     refine ⟨p,Ao2 _ hp,fun q hq2=> ?_⟩
     rcases List.mem_cons.1 hq2 with rfl|h2
     · exact hx
     · exact hq q h2
 obtain ⟨p,hp,hq⟩:=hmax;obtain ⟨j,hj⟩:=An2 hp
 have hm:=R7 (l:=l) (places:=places) (p:=p) (fun q hq2=>by
  cases hi:inP l q p with
  |false=>rfl
  |true=>
   have hql:=hlt q hq2;have hn:l[q]? =some l[q]:=Am9 hql;rw [Gr hn] at hi;have:=(h.ok q _ hn).lt p hi;have:=hq q hq2;omega) places.length j (List.getElem?_eq_some_iff.1 hj).1 hj
 intro e;unfold Cr at e;rw [e] at hm
 cases hm
theorem Mb {l:List Pn} {p:Nat→Bool} {d:Int}:∀(K:Nat),0<Ao l p d K→∃k m,k<K∧l[k]? =some m∧m.o.by_=d∧p k=true∧m.o.sq=Ao l p d K
 |0,h=>by unfold Ao at h;omega
 |K+1,h=>by
  have ih:=Mb (l:=l) (p:=p) (d:=d) K;unfold Ao at h ⊢
  cases hK:l[K]? with
  |none=>
   rw [hK] at h;dsimp only at h ⊢;obtain ⟨k,m,h1,h2⟩:=ih h;exact ⟨k,m,by omega,h2⟩
  |some n=>
   rw [hK] at h;dsimp only at h ⊢
   by_cases hc:(n.o.by_==d&&p K)=true
   ·
    rw [if_pos hc] at h ⊢
    rcases Int.le_total (Ao l p d K) n.o.sq with hle|hle
    ·
     rw [Int.max_eq_right hle];rw [Am8,beq_iff_eq] at hc;exact ⟨K,n,by omega,hK,hc.1,hc.2,rfl⟩
    ·
     rw [Int.max_eq_left hle] at h ⊢;obtain ⟨k,m,h1,h2⟩:=ih h;exact ⟨k,m,by omega,h2⟩
   ·
    rw [if_neg hc] at h ⊢;obtain ⟨k,m,h1,h2⟩:=ih h;exact ⟨k,m,by omega,h2⟩
theorem Jk (l:List Pn) (p:Nat→Bool) (d:Int):∀K,0≤Ao l p d K
 |0=>Ao3 _
 |K+1=>by
  have ih:=Jk l p d K;unfold Ao
  split
  ·
   split
   · exact Ap2 ih (Ap3 _ _)
   · exact ih
  · exact ih
theorem Mc {l:List Pn} {p:Nat→Bool} {d m:Int} (h0:0≤m) (h:∀n∈l,n.o.sq≤m):∀K,Ao l p d K≤m
 |0=>h0
 |K+1=>by
  have ih:=Mc (l:=l) (p:=p) (d:=d) h0 h K;unfold Ao
  split
  ·
   rename_i n hn
   split
   · exact Int.max_le.2 ⟨ih,h n (An0 hn)⟩
   · exact ih
  · exact ih
theorem R9 {l:List Pn} {ids:List Id} {m:Int} (h0:0≤m) (h:∀id∈ids,B2 l id≤m):late l ids≤m:=by
 unfold late
 suffices H:∀t:Int,t≤m→ids.foldl (fun t id=>max t (B2 l id)) t≤m from H 0 h0
 induction ids with
 |nil=>intro t ht;exact ht
 |cons x r ih=>intro t ht;exact ih (fun y hy=>h y (Ao2 _ hy)) _ (Int.max_le.2 ⟨ht,h x An1⟩)
theorem Sa (l:List Pn) (ids:List Id):0≤late l ids:=by
 unfold late
 suffices H:∀t:Int,0≤t→0≤ids.foldl (fun t id=>max t (B2 l id)) t from H 0 (Ao3 _)
 induction ids with
 |nil=>intro t ht;exact ht
 |cons x r ih=>intro t ht;exact ih _ (Ap2 ht (Ap3 _ _))
def Cq (k:Int) (b s a:Int) (past:List Id) (e:Id) (y:List UInt8):Op:=if k=7 then {base b s 7 a past [] with of:=e,body:=y} else {base b s 4 a past [] with need:=0}
theorem Jl (k b s a:Int) (past:List Id) (e:Id) (y:List UInt8):(Cq k b s a past e y).past=past:=by unfold Cq;split<;>rfl
theorem Ho (k b s a:Int) (past:List Id) (e:Id) (y:List UInt8):(Cq k b s a past e y).by_=b:=by unfold Cq;split<;>rfl
theorem Ae1 (k b s a:Int) (past:List Id) (e:Id) (y:List UInt8):(Cq k b s a past e y).sq=s:=by unfold Cq;split<;>rfl
theorem Md (k b s a:Int) (past:List Id) (e:Id) (y:List UInt8):(Cq k b s a past e y).at_=a:=by unfold Cq;split<;>rfl
theorem Ae2 (k b s a:Int) (past:List Id) (e:Id) (y:List UInt8):(Cq k b s a past e y).kind≠1:=by
 unfold Cq
 split
 ·
  show (7:Int)≠1
  decide
 ·
  show (4:Int)≠1
  decide
theorem Ae3 {k b s a:Int} {past:List Id} {e:Id} {y:List UInt8} (hb:1≤b∧b≤12) (hs:1≤s∧s≤2147483647) (ha:0≤a∧a≤2147483647) (hp:past.length≤12∧(∀x∈past,x.named=true)∧Row past∧past≠[]) (he:e.named=true) (hy:1≤y.length∧y.length≤20):(Cq k b s a past e y).chk=0:=by
 unfold Cq
 split
 · exact U8 ⟨by decide,hb,hs,ha,⟨hp.1,hp.2.1,hp.2.2.1,⟨fun h=>absurd h hp.2.2.2,fun h=>by cases h⟩⟩,⟨by decide,fun _ h=>absurd h Ap0,.inl rfl⟩⟩ he hy
 · exact U7 ⟨by decide,hb,hs,ha,⟨hp.1,hp.2.1,hp.2.2.1,⟨fun h=>absurd h hp.2.2.2,fun h=>by cases h⟩⟩,⟨by decide,fun _ h=>absurd h Ap0,.inl rfl⟩⟩
structure FkB (l:List Pn):Prop where
 sq:∀n∈l,n.o.sq≤l.length
 at_:∀n∈l,n.o.at_≤3*l.length
 by_:∀n∈l,1≤n.o.by_∧n.o.by_≤12
 s1:∀n∈l,1≤n.o.sq
 few:l.length≤14
def Hp (l:List Pn) (k b dt:Int) (hs:List Nat) (e:Id) (y:List UInt8):Op:=
 Cq k b (Ao l (Ai l (hs.map (nmP l))) b l.length+1) (dt+late l (hs.map (nmP l))) (An (hs.map (nmP l))) e y
theorem Sb {l:List Pn} {xs ys:List Id} (h:xs.Perm ys):Ai l xs=Ai l ys:=by
 funext q;unfold Ai Bs Ci;rw [h.any_eq,h.any_eq]
theorem Ae4 {cards:List Cd} {l:List Pn} (h:Rows cards l) (hB:FkB l) (hc:∀b:Int,1≤b→b≤4→∃c,Cw cards b=some c∧c.s=Sg.pub (sec Bj b.toNat)) {hs:List Nat} (hne:hs≠[]) (hnd:hs.Nodup) (h3:hs.length≤3) (hlt:∀p∈hs,p<l.length) (hanti:∀p∈hs,∀q∈hs,inP l q p=false)
  {k b dt:Int} (hb:1≤b∧b≤4) (hdt:0≤dt∧dt≤3) {e:Id} {y:List UInt8} (he:e.named=true) (hy:1≤y.length∧y.length≤20) (hnew:plc l (Hp l k b dt hs e y).name=none):Ar cards l (sgn (Hp l k b dt hs e y))=0:=by
 obtain ⟨c,ag,ao⟩:=hc b hb.1 hb.2;have ac:∀p∈hs,∃n,l[p]? =some n∧nmP l p=n.id:=fun p hp=>⟨_,Am9 (hlt p hp),Ek (Am9 (hlt p hp))⟩
 have ab:(hs.map (nmP l)).Nodup:=by
  rw [Ap1,Ar4];refine hnd.imp_of_mem (fun {p q} hp hq hpq e=>hpq ?_);obtain ⟨n,hn,e1⟩:=ac p hp;obtain ⟨m,hm,e2⟩:=ac q hq;have k1:=(h.ok p n hn).plc;have k2:=(h.ok q m hm).plc;rw [← e1,e,e2,k2] at k1;injection k1 with k1
  exact k1.symm
 have aa:∀x∈An (hs.map (nmP l)),∃p n,p∈hs∧l[p]? =some n∧n.id=x∧plc l x=some p:=by
  intro x hx;obtain ⟨p,hp,rfl⟩:=List.mem_map.1 ((Br _).mem_iff.1 hx);obtain ⟨n,hn,e1⟩:=ac p hp;exact ⟨p,n,hp,hn,e1.symm,by rw [e1];exact (h.ok p n hn).plc⟩
 have ak:∀n∈l,n.id.named=true:=by
  intro n hn;obtain ⟨i,hi⟩:=An2 hn;rw [(h.ok i n hi).id];refine Rr (hB.by_ n hn) ⟨hB.s1 n hn,?_⟩;have:=hB.sq n hn;have:=hB.few;omega
 have ai:=Jk l (Ai l (hs.map (nmP l))) b l.length;have aj:Ao l (Ai l (hs.map (nmP l))) b l.length≤l.length:=Mc (by omega) hB.sq _
 have af:late l (hs.map (nmP l))≤3*l.length:=by
  refine R9 (by omega) (fun x hx=> ?_);obtain ⟨p,hp,rfl⟩:=List.mem_map.1 hx;obtain ⟨n,hn,e1⟩:=ac p hp;rw [e1,Hf (h.ok p n hn).plc hn];exact hB.at_ n (An0 hn)
 have al:=hB.few;have ah:=Sa l (hs.map (nmP l));unfold Hp at hnew ⊢;generalize hS:Ao l (Ai l (hs.map (nmP l))) b l.length=S at*;generalize hT:late l (hs.map (nmP l))=T at*
 have ad:(Cq k b (S+1) (dt+T) (An (hs.map (nmP l))) e y).chk=0:=by
  refine Ae3 ⟨hb.1,by omega⟩ ⟨by omega,by omega⟩ ⟨by omega,by omega⟩ ⟨?_,?_,Oy ab,?_⟩ he hy
  · rw [(Br _).length_eq,Ao0];omega
  ·
   intro x hx;obtain ⟨p,n,_,hn,rfl,_⟩:=aa x hx;exact ak n (An0 hn)
  ·
   intro e0;have:=(Br (hs.map (nmP l))).length_eq;rw [e0,Ao0,List.length_nil] at this;exact hne (List.length_eq_zero_iff.1 this.symm)
 refine Rq ad hnew (by omega) (by rw [Ho];exact ag) (by rw [Ho];exact ao) (.inl (Ae2 _ _ _ _ _ _ _)) ?_ ?_ ?_ ?_
 ·
  rw [Jl,Ar5];intro x hx;obtain ⟨p,n,_,_,_,h4⟩:=aa x hx;rw [h4];exact An6
 ·
  rw [Jl]
  cases hcl:clash l (An (hs.map (nmP l))) with
  |false=>rfl
  |true=>
   obtain ⟨x,hx,z,hz,hb⟩:=(Ma h.few).1 hcl;obtain ⟨p,n,hp,hn,_,h4⟩:=aa x hx;obtain ⟨q,m,hq,hm,_,h5⟩:=aa z hz;obtain ⟨i,j,m',e1,e2,e3,e4⟩:=bef_iff.1 hb;rw [h4] at e1;injection e1 with e1
   rw [h5] at e2;injection e2 with e2
   subst e1 e2;have:=hanti p hp q hq;rw [Gr e3,e4] at this
   cases this
 ·
  rw [Jl,Md];refine R9 (by omega) (fun x hx=> ?_);have h1:B2 l x≤T:=by rw [← hT];exact P8 ((Br _).mem_iff.1 hx)
  omega
 ·
  rw [Jl];have ae:Ai l (An (hs.map (nmP l)))=Ai l (hs.map (nmP l)):=Sb (Br _);rw [ae];unfold B4;rw [Ho,Ae1,hS,Aq6];refine ⟨decide_eq_false (by omega),?_⟩;rw [Aq7]
  rcases Int.lt_or_le 0 S with h0|h0
  ·
   right;rw [Aq8];obtain ⟨q,m,h1,h2,h4,h5,h6⟩:=Mb l.length (by rw [hS];exact h0);exact aheadTo_iff.2 ⟨q,m,h1,h2,h4,h5,by rw [h6,hS];omega⟩
  ·
   left;exact decide_eq_false (by omega)
def Am (ids:List Id) (d s:Int):Nat:=(ids.filter (fun x=>x.b==d&&x.s==s)).length
def Bt (ids:List Id) (d:Int):Nat→Int
 |0=>0
 |k+1=>match ids[k]? with
  |some x=>if (x.b==d&&decide (1<Am ids d x.s)&&(Bt ids d k==0||decide (x.s<Bt ids d k)))=true then x.s else Bt ids d k
  |none=>Bt ids d k
def Ak (ids:List Id) (d:Int):Int:=Bt ids d ids.length
theorem Sc {ids : List Id} {d : Int} (h0 : ∀ x ∈ ids, 0 < x.s) : ∀ (k : Nat),
    (Bt ids d k = 0 ∧ ∀ (j : Nat) (x : Id), j < k → ids[j]? = some x → x.b = d → ¬ 1 < Am ids d x.s) ∨
    (0 < Bt ids d k ∧ 1 < Am ids d (Bt ids d k) ∧ ∀ (j : Nat) (x : Id), j < k → ids[j]? = some x → x.b = d → 1 < Am ids d x.s → Bt ids d k ≤ x.s)
  | 0 => .inl ⟨rfl, fun j x h => absurd h (Nat.not_lt_zero j)⟩
  | k + 1 => by
    have ih := Sc (d := d) h0 k;unfold Bt
    cases hx : ids[k]? with
    | none =>
      dsimp only;refine ih.imp (fun h => ⟨h.1, fun j x hj hx2 => ?_⟩) (fun h => ⟨h.1, h.2.1, fun j x hj hx2 => ?_⟩)
      · exact h.2 j x (by rcases An8 j k with h1 | h1; exact h1; have e : j = k := by omega
                          rw [e, hx] at hx2; cases hx2) hx2
      · exact h.2.2 j x (by rcases An8 j k with h1 | h1; exact h1; have e : j = k := by omega
                            rw [e, hx] at hx2; cases hx2) hx2
    | some y =>
      dsimp only;have hy := h0 y (An0 hx)
      have last : ∀ (j : Nat) (x : Id), j < k + 1 → ids[j]? = some x → j < k ∨ x = y := fun j x hj hx2 => by
        rcases An8 j k with h1 | h1
        · exact .inl h1
        · have e : j = k := by omega
          rw [e, hx] at hx2;injection hx2 with hx2
          exact .inr hx2.symm
      by_cases hc : (y.b == d && decide (1 < Am ids d y.s) && (Bt ids d k == 0 || decide (y.s < Bt ids d k))) = true
      · rw [if_pos hc]
        rw [Am8, Am8, Ao4, beq_iff_eq, beq_iff_eq, decide_eq_true_iff, decide_eq_true_iff] at hc;obtain ⟨⟨c1, c2⟩, c3⟩ := hc;refine .inr ⟨hy, c2, fun j x hj hx2 hb hm => ?_⟩
        rcases last j x hj hx2 with h1 | rfl
        · rcases ih with ⟨i1, i2⟩ | ⟨i1, i2, i3⟩
          · exact absurd hm (i2 j x h1 hx2 hb)
          · have := i3 j x h1 hx2 hb hm
            omega
        · exact Ao3 _
      · rw [if_neg hc]
        rcases ih with ⟨i1, i2⟩ | ⟨i1, i2, i3⟩
        · refine .inl ⟨i1, fun j x hj hx2 hb => ?_⟩
          rcases last j x hj hx2 with h1 | rfl
          · exact i2 j x h1 hx2 hb
          · intro hm
            refine hc ?_;rw [i1, hb, decide_eq_true hm];simp
        · refine .inr ⟨i1, i2, fun j x hj hx2 hb hm => ?_⟩
          rcases last j x hj hx2 with h1 | rfl
          · exact i3 j x h1 hx2 hb hm
          · refine Int.not_lt.1 fun hlt => hc ?_
            rw [hb, decide_eq_true hm, decide_eq_true hlt];simp
theorem Fx {ids:List Id} (h0:∀x∈ids,0<x.s) (d:Int):
  (Ak ids d=0∧∀x∈ids,x.b=d→¬1<Am ids d x.s)∨(0<Ak ids d∧1<Am ids d (Ak ids d)∧∀x∈ids,x.b=d→1<Am ids d x.s→Ak ids d≤x.s):=by
 refine (Sc (d:=d) h0 ids.length).imp (fun h=>⟨h.1,fun x hx=> ?_⟩) (fun h=>⟨h.1,h.2.1,fun x hx=> ?_⟩)
 ·
  obtain ⟨j,hj⟩:=An2 hx;exact h.2 j x (List.getElem?_eq_some_iff.1 hj).1 hj
 ·
  obtain ⟨j,hj⟩:=An2 hx;exact h.2.2 j x (List.getElem?_eq_some_iff.1 hj).1 hj
theorem Fi {ids:List Id} {d s:Int} (h:0<Am ids d s):∃x∈ids,x.b=d∧x.s=s:=by
 unfold Am at h;obtain ⟨x,hx⟩:=List.exists_mem_of_length_pos h;rw [List.mem_filter,Am8,beq_iff_eq,beq_iff_eq] at hx;exact ⟨x,hx.1,hx.2⟩
theorem Ae5 {xs ys:List Id} (h:xs.Perm ys) (d s:Int):Am xs d s=Am ys d s:=(h.filter _).length_eq
theorem Jm {xs ys:List Id} (h:xs.Perm ys) (h0:∀x∈xs,0<x.s) (d:Int):Ak xs d=Ak ys d:=by
 have h0':∀x∈ys,0<x.s:=fun x hx=>h0 x (h.mem_iff.2 hx);have hm:=fun s=>Ae5 h d s
 rcases Fx h0 d with ⟨a1,a2⟩|⟨a1,a2,a3⟩<;>rcases Fx h0' d with ⟨b1,b2⟩|⟨b1,b2,b3⟩
 · rw [a1,b1]
 ·
  obtain ⟨x,hx,e1,e2⟩:=Fi (by omega:0<Am ys d (Ak ys d));refine absurd ?_ (a2 x (h.mem_iff.2 hx) e1);rw [hm,e2];exact b2
 ·
  obtain ⟨x,hx,e1,e2⟩:=Fi (by omega:0<Am xs d (Ak xs d));refine absurd ?_ (b2 x (h.mem_iff.1 hx) e1);rw [← hm,e2];exact a2
 ·
  obtain ⟨x,hx,e1,e2⟩:=Fi (by omega:0<Am xs d (Ak xs d));obtain ⟨y,hy,e3,e4⟩:=Fi (by omega:0<Am ys d (Ak ys d));have h1:=a3 y (h.mem_iff.2 hy) e3 (by rw [hm,e4];exact b2);have h2:=b3 x (h.mem_iff.1 hx) e1 (by rw [← hm,e2];exact a2);omega
theorem Fy {α:Type} [BEq α] [LawfulBEq α]:∀{xs ys:List α},xs.Nodup→(∀x∈xs,x∈ys)→xs.length≤ys.length
 |[],_,_,_=>Nat.zero_le _
 |x::r,ys,hn,hs=>by
  rw [List.nodup_cons] at hn;have hx:=hs x An1;have h:=Fy (xs:=r) (ys:=ys.erase x) hn.2 (fun z hz=>(List.mem_erase_of_ne (fun e=>hn.1 (by rw [← e];exact hz))).2 (hs z (Ao2 _ hz)));rw [List.length_erase_of_mem hx] at h;have:=List.length_pos_of_mem hx;rw [List.length_cons];omega
def Ec (ids:List Id) (x:Id):Bool:=decide (0<Ak ids x.b)&&decide (Ak ids x.b≤x.s)
def Cc (ids:List Id):List Id:=An (ids.filter (Ec ids))
def Aq (ids:List Id):List (Int × Int):=(Ao8 12).filterMap (fun (i:Nat)=>if 0<Ak ids ((i:Int)+1) then some ((i:Int)+1,Ak ids ((i:Int)+1)) else none)
theorem mem_forksK {ids:List Id} {d n:Int}:(d,n)∈Aq ids↔(1≤d∧d≤12)∧0<n∧n=Ak ids d:=by
 unfold Aq;rw [List.mem_filterMap];constructor
 ·
  rintro ⟨i,hi,h⟩;rw [List.mem_range] at hi
  split at h
  ·
   rename_i h0;injection h with h
   injection h with e1 e2
   subst e1 e2;exact ⟨by omega,h0,rfl⟩
  · cases h
 ·
  rintro ⟨hd,hn,rfl⟩;refine ⟨(d-1).toNat,List.mem_range.2 (by omega),?_⟩;have e:((d-1).toNat:Int)+1=d:=by omega
  rw [e,if_pos hn]
theorem Ae6 {ids:List Id} {x:Id} (hx:1≤x.b∧x.b≤12):Ec ids x=(Aq ids).any (fun f=>f.1==x.b&&decide (f.2≤x.s)):=by
 rw [Ao1,Aq5];unfold Ec;rw [Am8,decide_eq_true_iff,decide_eq_true_iff];constructor
 ·
  rintro ⟨h1,h2⟩;exact ⟨(x.b,Ak ids x.b),mem_forksK.2 ⟨hx,h1,rfl⟩,by simp [h2]⟩
 ·
  rintro ⟨⟨d,n⟩,h1,h2⟩;obtain ⟨_,h3,rfl⟩:=mem_forksK.1 h1;rw [Am8,beq_iff_eq,decide_eq_true_iff] at h2;obtain ⟨rfl,h4⟩:=h2;exact ⟨h3,h4⟩
theorem Ae7 {xs ys:List Id} (h:xs.Perm ys) (h0:∀x∈xs,0<x.s):Aq xs=Aq ys:=by
 unfold Aq;congr 1;funext i;rw [Jm h h0]
theorem Ae8 {xs ys:List Id} (h:xs.Perm ys) (h0:∀x∈xs,0<x.s):Cc xs=Cc ys:=by
 have e:Ec xs=Ec ys:=by
  funext x;unfold Ec;rw [Jm h h0]
 unfold Cc;rw [e];exact Ic (G8 _) ((Br _).trans (h.filter _))
def Cl (ids:List Id) (d:Int):List Id:=An (ids.filter (fun x=>x.b==d&&x.s==Ak ids d))
theorem Ae9 {xs ys:List Id} (h:xs.Perm ys) (h0:∀x∈xs,0<x.s) (d:Int):Cl xs d=Cl ys d:=by
 unfold Cl;rw [Jm h h0];exact Ic (G8 _) ((Br _).trans (h.filter _))
theorem Me {ids:List Id} (h0:∀x∈ids,0<x.s) {d:Int} (h:Ak ids d≠0):∃x y r,Cl ids d=x::y::r:=by
 have hl:1<(Cl ids d).length:=by
  unfold Cl;rw [(Br _).length_eq]
  rcases Fx h0 d with ⟨a1,_⟩|⟨_,a2,_⟩
  · exact absurd a1 h
  · exact a2
 match hm:Cl ids d,hl with
 |x::y::r,_=>exact ⟨x,y,r,rfl⟩
theorem mem_ownK {ids:List Id} {d:Int} {x:Id}:x∈Cl ids d↔x∈ids∧x.b=d∧x.s=Ak ids d:=by
 unfold Cl;rw [(Br _).mem_iff,List.mem_filter,Am8,beq_iff_eq,beq_iff_eq]
theorem Bu:(Tryz.prog.info? 28).map (·.size)=some 4:=by kernel_rfl
theorem Fz (v:Value):Instr.loadAt 28 v=ldS 28 v:=rfl
theorem Gs (p v:Value):Instr.storeAt 28 p v=stS 28 p v:=rfl
structure FG where
 cA:Option Addr
 cC:Nat
 cards:List Cd
 lA:Option Addr
 lC:Nat
 xs:List OpL
 iA:Option Addr
 iC:Nat
 pA:Option Addr
 pC:Nat
 ps:List UpL
 l:List Pn
def FG.ids (r:FG):List Id:=r.l.map Pn.id
def FG.cells (r:FG):Array Value:=#[.slice r.cA r.cards.length r.cC,.slice r.lA r.l.length r.lC,.slice r.iA r.l.length r.iC,.slice r.pA r.l.length r.pC]
def Mf (n:Pn) (xs:List Nat):Prop:=xs.Nodup∧∀q,q∈xs↔n.ps q=true
structure FG.own (w:World) (base:Nat) (r:FG):Prop where
 cards:RowAt w base 71 5 r.cA r.cards.length r.cC (r.cards.flatMap Cd.cells)
 ops:RowAt w base 67 27 r.lA r.l.length r.lC (r.xs.flatMap (fun x=>x.cells.toList))
 each:∀x∈r.xs,x.lies w base
 same:r.xs.map OpL.op=r.l.map Pn.o
 ok:∀n∈r.l,n.o.ok∧n.id.ok
 ids:RowAt w base 41 3 r.iA r.l.length r.iC (r.ids.flatMap Id.cells)
 pasts:RowAt w base 22 1 r.pA r.l.length r.pC (r.ps.map UpL.cell)
 eachP:∀x∈r.ps,x.own w base
 lenP:r.ps.length=r.l.length
 sameP:∀(i:Nat) (x:UpL) (n:Pn),r.ps[i]? =some x→r.l[i]? =some n→Mf n x.xs
 rows:Rows r.cards r.l
 num:FkB r.l
 cfew:r.cards.length≤1000
 cok:∀c∈r.cards,c.s<18446744073709551616
theorem FG.own.lower {w:World} {base base':Nat} {r:FG} (h:r.own w base) (hb:base'≤base):r.own w base' where
 cards:=h.cards.lower hb
 ops:=h.ops.lower hb
 each x hx:=(h.each x hx).lower hb
 same:=h.same
 ok:=h.ok
 ids:=h.ids.lower hb
 pasts:=h.pasts.lower hb
 eachP x hx:=RowAt.lower (h.eachP x hx) hb
 lenP:=h.lenP
 sameP:=h.sameP
 rows:=h.rows
 num:=h.num
 cfew:=h.cfew
 cok:=h.cok
theorem FG.own.keepP {S:Nat→Prop} {P:TypeId→Prop} {w w':World} {base:Nat} {r:FG} (h:r.own w base) (hf:Fr S w w') (hS:Types S w P) (h1:¬P 41) (h2:¬P 137) (h3:¬P 134) (h4:¬P 5) (h5:¬P 39) (h6:¬P 3) (h7:¬P 140)
  (h8:¬P 71) (h9:¬P 67) (h10:¬P 22):r.own w' base where
 cards:=h.cards.keepT hf (hS.not h8)
 ops:=h.ops.keepT hf (hS.not h9)
 each x hx:=(h.each x hx).keepP hf hS h1 h2 h3 h4 h5 h6 h7
 same:=h.same
 ok:=h.ok
 ids:=h.ids.keepT hf (hS.not h1)
 pasts:=h.pasts.keepT hf (hS.not h10)
 eachP x hx:=RowAt.keepT (h.eachP x hx) hf (hS.not h6)
 lenP:=h.lenP
 sameP:=h.sameP
 rows:=h.rows
 num:=h.num
 cfew:=h.cfew
 cok:=h.cok
theorem FG.own.non {w w':World} {base:Nat} {r:FG} (h:r.own w base) (hf:Fr Non w w'):r.own w' base:=
 h.keepP (P:=fun _=>False) hf (fun _ _ _ _ _ e=>e.elim) zq zq zq zq zq zq zq zq zq zq
theorem FG.own.rdIds {w:World} {base:Nat} {r:FG} (h:r.own w base):Rd w w.heap.size 3 r.iA r.l.length (r.ids.flatMap Id.cells):=h.ids.sl.rd
theorem FG.ids_len (r:FG):r.ids.length=r.l.length:=by simp [FG.ids]
theorem FG.ids_at {r:FG} {k:Nat} {n:Pn} (h:r.l[k]? =some n):r.ids[k]? =some n.id:=by
 unfold FG.ids;rw [Ao5,h];rfl
theorem FG.own.xAt {w:World} {base:Nat} {r:FG} (h:r.own w base) {i:Nat} {n:Pn} (hi:r.l[i]? =some n):
  ∃(x:OpL) (b off:Nat),r.xs[i]? =some x∧x.op=n.o∧x.lies w base∧r.lA=some ⟨b,off,none⟩∧b<w.heap.size∧∀j,j<27→∀u,x.cells.toList[j]? =some u→w.cell? ⟨b,off+i*27+j,none⟩=some u:=by
 have hm:(r.xs.map OpL.op)[i]? =some n.o:=by rw [h.same,Ao5,hi];rfl
 rw [Ao5] at hm
 cases hx:r.xs[i]? with
 |none=>rw [hx] at hm;cases hm
 |some x=>
  rw [hx] at hm;injection hm with hm
  obtain ⟨b,off,h1,h2,h3⟩:=Dn (f:=fun x:OpL=>x.cells.toList) (fun _=>rfl) (by omega) h.ops.sl.rd hx;exact ⟨x,b,off,rfl,hm,h.each x (An0 hx),h1,h2,h3⟩
theorem FG.own.idAt {w:World} {base:Nat} {r:FG} (h:r.own w base) {i:Nat} (hi:i<r.l.length):
  ∃(m:Pn) (b off:Nat),r.l[i]? =some m∧r.iA=some ⟨b,off,none⟩∧w.cell? ⟨b,off+i*3,none⟩=some (.int .i64 m.id.b)∧w.cell? ⟨b,off+i*3+1,none⟩=some (.int .i64 m.id.s)∧w.cell? ⟨b,off+i*3+2,none⟩=some (.int .u64 (m.id.u:Int)):=by
 obtain ⟨b,off,h1,_,h2,h3,h4⟩:=Id.at h.rdIds (FG.ids_at (Am9 hi));exact ⟨_,b,off,Am9 hi,h1,h2,h3,h4⟩
theorem FG.own.pAt {w:World} {base:Nat} {r:FG} (h:r.own w base) {i:Nat} {n:Pn} (hi:r.l[i]? =some n):
  ∃(x:UpL) (b off:Nat),Mf n x.xs∧x.own w base∧r.pA=some ⟨b,off,none⟩∧b<w.heap.size∧w.cell? ⟨b,off+i,none⟩=some x.cell∧x.xs.length≤r.l.length∧(∀q∈x.xs,q<i):=by
 have hlt:=(List.getElem?_eq_some_iff.1 hi).1;obtain ⟨x,hx⟩:∃x,r.ps[i]? =some x:=⟨_,Am9 (by rw [h.lenP];exact hlt)⟩;have hk:=h.sameP i x n hx hi;obtain ⟨b,off,u,h1,h2,h3,h4⟩:=h.pasts.sl.rd.at hlt;rw [Ao5,hx] at h3;injection h3 with h3
 subst h3;have hq:∀q∈x.xs,q<i:=fun q hq=>(h.rows.ok i n hi).lt q ((hk.2 q).1 hq)
 have hl:x.xs.length≤r.l.length:=by
  have:=Fy hk.1 (ys:=Ao8 r.l.length) (fun q hm=>List.mem_range.2 (Nat.lt_trans (hq q hm) hlt));simpa using this
 exact ⟨x,b,off,hk,h.eachP x (An0 hx),h1,h2,h4,hl,hq⟩
def Cm (l0:List Int) (i:Nat):Nat:=match l0[i]? with|some q=>(C4 q 1000000).toNat|none=>0
def Di (l:List Pn) (d:Int):Nat→Int
 |0=> -1
 |k+1=>match l[k]? with|some n=>if n.o.by_=d then (k:Int) else Di l d k|none=>Di l d k
theorem Mg (l:List Pn) (d:Int):∀k,-1≤Di l d k∧Di l d k<k
 |0=>⟨Ao3 _,show (-1:Int)<0 by decide⟩
 |k+1=>by
  have ih:=Mg l d k;unfold Di
  split
  ·
   split
   · omega
   · omega
  · omega
end Oq
end
section
open Go.RowKit
attribute [local go_sem ↓] Go.wp_at_zero Go.wp_at_succ
namespace Oq
attribute [local go_sem] An3 An4
theorem Af0 {l:List Int} {k:Nat} {q x:Int} (h:l[k]? =some x):(l.take (k+1)).contains q=((l.take k).contains q||decide (q=x)):=by
 rw [Cx h,Ao1,Ao4,Ap6,Ap6,List.mem_append,Aq1,decide_eq_true_eq]
theorem Af1 (B n c:Nat) (A:Option Addr) (l:List Int) (x:Int) (w:World) (hn:Hid (l.length=n)) (hr:Rd w B 1 A n (l.map Iv)) (hnm:n≤1000000):
  Calls Tryz.prog 57 #[.slice A n c,.int .i64 x] w fun e w'=>e=.returned (.bool (l.contains x))∧Fr Non w w':=by
 go_enter Tryz.func57,Tryz.ntmps57;go_wp2
 go_loopw [5] (fun v wr=>∃k:Nat,v=.int .i64 (k:Int)∧k≤n∧Hid ((l.take k).contains x=false)∧w=wr) (fun v _=>n-(intOf v).toNat)
 case atStart=>exact ⟨0,rfl,by omega,rfl,rfl⟩
 case round=>
  obtain ⟨k,rfl,hk,hh,rfl⟩:=hrel
  by_cases hlt:k<n
  ·
   obtain ⟨y,hy⟩:∃y,l[k]? =some y:=⟨_,Am9 (by rw [hn.out];exact hlt)⟩;obtain ⟨b,off,u,rfl,hbB,hu,c0⟩:=hr.at hlt;rw [Ao5,hy] at hu;injection hu with hu
   subst hu;have c0':w.cell? ⟨b,off+k,none⟩=some (.int .i64 y):=c0;clear c0;have hsn:=Lib.hid (Af0 (q:=x) hy);have i1:(0:Int)≤k:=by omega
   have i2:(k:Int)<n:=by omega
   have i3:(k:Int).toNat=k:=by omega
   by_cases he:y=x
   ·
    have hb:(y==x)=true:=beq_iff_eq.2 he
    have hfin:Hid (l.contains x=true):=by
     show _=_;rw [Ap6];exact he▸An0 hy
    clear hy he;go_wp2
    go_ret
    exact ⟨by rw [hfin.out];rfl,Fr.refl _ _⟩
   ·
    have hb:(y==x)=false:=beq_eq_false_iff_ne.2 he
    have hfin:Hid ((l.take (k+1)).contains x=false):=by
     show _=_;rw [hsn.out,hh.out,decide_eq_false (fun e=>he e.symm)];rfl
    clear hy he;go_wp2;go_roundw
    case rel=>exact ⟨k+1,by go_num,by omega,hfin,by first|rfl|trivial⟩
    case measure=>first|(simp [intOf];done)|(simp [intOf];omega)
  ·
   obtain rfl:k=n:=by omega
   have hfin:Hid (l.contains x=false):=by have h:=hh.out;rw [An5 (by rw [hn.out];omega)] at h;exact h
   go_wp2
   go_ret
   exact ⟨by rw [hfin.out];rfl,Fr.refl _ _⟩
end Oq
end
section
open Go.RowKit
namespace Oq
def Hq (l:List Pn) (a b:Id):Bool:=decide (Bk l a<Bk l b)||(Bk l a==Bk l b&&Id.less a b)
theorem rkLess_iff {l:List Pn} {a b:Id}:Hq l a b=true↔Bk l a<Bk l b∨(Bk l a=Bk l b∧Id.less a b=true):=by
 unfold Hq;rw [Ao4,Am8,decide_eq_true_iff,beq_iff_eq]
theorem Af2 (l:List Pn) (a b:Id):Hq l a b=true∨a=b∨Hq l b a=true:=by
 rcases Nat.lt_trichotomy (Bk l a) (Bk l b) with h|h|h
 · exact .inl (rkLess_iff.2 (.inl h))
 ·
  rcases Id.less_tot a b with h2|h2|h2
  · exact .inl (rkLess_iff.2 (.inr ⟨h,h2⟩))
  · exact .inr (.inl h2)
  · exact .inr (.inr (rkLess_iff.2 (.inr ⟨h.symm,h2⟩)))
 · exact .inr (.inr (rkLess_iff.2 (.inl h)))
def RowK (l:List Pn) (ids:List Id):Prop:=ids.Pairwise (fun a b=>Hq l b a=false)
theorem Mh {α:Type} {r:α→α→Prop} (anti:∀a b,r a b→r b a→a=b):∀{xs ys:List α},xs.Pairwise r→ys.Pairwise r→xs.Perm ys→xs=ys
 |[],ys,_,_,h=>(List.Perm.nil_eq h)
 |x::xs,[],_,_,h=>by have:=h.length_eq;simp at this
 |x::xs,y::ys,h1,h2,h=>by
  rw [List.pairwise_cons] at h1 h2
  have hxy:x=y:=by
   have hx:x∈y::ys:=h.mem_iff.1 An1;have hy:y∈x::xs:=h.mem_iff.2 An1
   rcases List.mem_cons.1 hx with e|hx
   · exact e
   rcases List.mem_cons.1 hy with e|hy
   · exact e.symm
   exact anti x y (h1.1 y hy) (h2.1 x hx)
  subst hxy;rw [Mh anti h1.2 h2.2 (List.Perm.cons_inv h)]
theorem RowK.unique {l:List Pn} {xs ys:List Id} (h1:RowK l xs) (h2:RowK l ys) (hp:xs.Perm ys):xs=ys:=
 Mh (fun a b ha hb=>by
  rcases Af2 l a b with h|h|h
  · rw [hb] at h;cases h
  · exact h
  · rw [ha] at h;cases h) h1 h2 hp
theorem Mi {ids:List Id} {k:Nat} {x:Id} (h:ids[k]? =some x) (d s:Int):Am (ids.take (k+1)) d s=Am (ids.take k) d s+if (x.b==d&&x.s==s)=true then 1 else 0:=by
 unfold Am;rw [Cx h,List.filter_append,Ao7];congr 1
 by_cases hc:(x.b==d&&x.s==s)=true
 · rw [if_pos hc,Ao6 (p:=fun x:Id=>x.b==d&&x.s==s) hc];rfl
 · rw [if_neg hc,An9 (p:=fun x:Id=>x.b==d&&x.s==s) hc];rfl
theorem Af3 (ids:List Id) (d s:Int):Am (ids.take ids.length) d s=Am ids d s:=by rw [Ap7]
theorem Sd (ids:List Id) (k:Nat) (d s:Int):Am (ids.take k) d s≤k:=by
 unfold Am;exact Nat.le_trans (List.length_filter_le _ _) (by rw [Aq9];omega)
def Bp (ids:List Id):Nat→Int→Option Int
 |0,_=>none
 |k+1,d=>match ids[k]? with
  |some x=>if x.b=d∧1<Am (ids.take (k+1)) x.b x.s∧(Bp ids k d=none∨x.s<(Bp ids k d).getD 0) then some x.s else Bp ids k d
  |none=>Bp ids k d
theorem Mj {ids:List Id} {k:Nat} {x:Id} (h:ids[k]? =some x) (d:Int):Bp ids (k+1) d=if x.b=d∧1<Am (ids.take (k+1)) x.b x.s∧(Bp ids k d=none∨x.s<(Bp ids k d).getD 0) then some x.s else Bp ids k d:=by
 conv=>lhs;unfold Bp
 rw [h]
theorem Se (ids:List Id) (d:Int):∀k,(Bp ids k d=none∧∀s,Am (ids.take k) d s≤1)∨(∃n,Bp ids k d=some n∧1<Am (ids.take k) d n∧∀s,1<Am (ids.take k) d s→n≤s)
 |0=> .inl ⟨rfl,fun s=>by unfold Am;exact Nat.zero_le _⟩
 |k+1=>by
  have ih:=Se ids d k
  cases hx:ids[k]? with
  |none=>
   have e1:Bp ids (k+1) d=Bp ids k d:=by (conv=>lhs;unfold Bp);rw [hx]
   have e2:ids.take (k+1)=ids.take k:=by
    have:=List.getElem?_eq_none_iff.1 hx;rw [An5 (by omega),An5 (by omega)]
   rw [e1,e2];exact ih
  |some x=>
   have hm:=fun s=>Mi hx d s;rw [Mj hx]
   by_cases hb:x.b=d
   ·
    subst hb
    by_cases h2:1<Am (ids.take (k+1)) x.b x.s
    ·
     rcases ih with ⟨i1,i2⟩|⟨n,i1,i2,i3⟩
     ·
      rw [i1,if_pos ⟨rfl,h2,.inl rfl⟩];refine .inr ⟨x.s,rfl,h2,fun s hs=> ?_⟩;rw [hm s] at hs;have:=i2 s
      by_cases hc:(x.b==x.b&&x.s==s)=true
      ·
       rw [Am8,beq_iff_eq,beq_iff_eq] at hc;omega
      ·
       rw [if_neg hc] at hs;omega
     ·
      by_cases h3:x.s<n
      ·
       rw [i1,if_pos ⟨rfl,h2,.inr h3⟩];refine .inr ⟨x.s,rfl,h2,fun s hs=> ?_⟩;rw [hm s] at hs
       by_cases hc:(x.b==x.b&&x.s==s)=true
       ·
        rw [Am8,beq_iff_eq,beq_iff_eq] at hc;omega
       ·
        rw [if_neg hc] at hs;have:=i3 s (by omega);omega
      ·
       rw [i1,if_neg (fun h=>by rcases h.2.2 with h|h;cases h;exact h3 h)];refine .inr ⟨n,rfl,?_,fun s hs=> ?_⟩
       · rw [hm n];omega
       ·
        rw [hm s] at hs
        by_cases hc:(x.b==x.b&&x.s==s)=true
        ·
         rw [Am8,beq_iff_eq,beq_iff_eq] at hc;omega
        ·
         rw [if_neg hc] at hs;exact i3 s (by omega)
    ·
     rw [if_neg (fun h=>h2 h.2.1)]
     rcases ih with ⟨i1,i2⟩|⟨n,i1,i2,i3⟩
     ·
      refine .inl ⟨i1,fun s=> ?_⟩
      by_cases hc:(x.b==x.b&&x.s==s)=true
      ·
       rw [Am8,beq_iff_eq,beq_iff_eq] at hc;rw [← hc.2];omega
      ·
       rw [hm s,if_neg hc];exact i2 s
     ·
      refine .inr ⟨n,i1,by rw [hm n];omega,fun s hs=> ?_⟩
      by_cases hc:(x.b==x.b&&x.s==s)=true
      ·
       rw [Am8,beq_iff_eq,beq_iff_eq] at hc;rw [← hc.2] at hs;exact absurd hs h2
      ·
       rw [hm s,if_neg hc] at hs;exact i3 s (by omega)
   ·
    rw [if_neg (fun h=>hb h.1)]
    have hm':∀s,Am (ids.take (k+1)) d s=Am (ids.take k) d s:=fun s=>by
     rw [hm s,if_neg (fun h=>by rw [Am8,beq_iff_eq] at h;exact hb h.1)];omega
    rcases ih with ⟨i1,i2⟩|⟨n,i1,i2,i3⟩
    · exact .inl ⟨i1,fun s=>by rw [hm'];exact i2 s⟩
    · exact .inr ⟨n,i1,by rw [hm'];exact i2,fun s hs=>i3 s (by rwa [hm'] at hs)⟩
theorem Af4 {ids:List Id} (h0:∀x∈ids,0<x.s) (d:Int):Bp ids ids.length d=if 0<Ak ids d then some (Ak ids d) else none:=by
 have hs:=Se ids d ids.length;rw [Ap7] at hs
 rcases Fx h0 d with ⟨a1,a2⟩|⟨a1,a2,a3⟩
 ·
  rw [if_neg (by omega)]
  rcases hs with ⟨i1,_⟩|⟨n,_,i2,_⟩
  · exact i1
  ·
   obtain ⟨x,hx,e1,e2⟩:=Fi (by omega:0<Am ids d n);exact absurd (by rw [e2];exact i2) (a2 x hx e1)
 ·
  rw [if_pos a1]
  rcases hs with ⟨_,i2⟩|⟨n,i1,i2,i3⟩
  ·
   have:=i2 (Ak ids d);omega
  ·
   obtain ⟨x,hx,e1,e2⟩:=Fi (by omega:0<Am ids d n);have h1:=a3 x hx e1 (by rw [e2];exact i2);have h2:=i3 _ a2;rw [i1];congr 1;omega
theorem Mk (ids:List Id):(Aq ids).Pairwise (fun a b=>a.1<b.1):=by
 unfold Aq;rw [List.pairwise_filterMap];refine (List.pairwise_lt_range (n:=12)).imp (fun {a b} hab x hx y hy=> ?_)
 split at hx
 ·
  split at hy
  ·
   injection hx with hx
   injection hy with hy
   subst hx hy;dsimp only;omega
  · cases hy
 · cases hx
theorem Af5 {ids:List Id} (h0:∀x∈ids,0<x.s) (hb:∀x∈ids,1≤x.b∧x.b≤12) {out ys:List (Int × Int)} (hn:(out.map Prod.fst).Nodup) (hm:∀d n,(d,n)∈out↔Bp ids ids.length d=some n) (hp:ys.Perm out) (hs:ys.Pairwise (fun a b=>a.1≤b.1)):ys=Aq ids:=by
 have hny:(ys.map Prod.fst).Nodup:=(hp.map Prod.fst).nodup_iff.2 hn
 have hys:ys.Pairwise (fun a b=>a.1<b.1):=by
  rw [Ap1,Ar4] at hny;exact (hs.and hny).imp (fun {a b} h=>by have:=h.1;have:=h.2;omega)
 have hnf:(Aq ids).Nodup:=(Mk ids).imp (fun {a b} h e=>by rw [e] at h;omega);have hny2:ys.Nodup:=hys.imp (fun {a b} h e=>by rw [e] at h;omega);refine Mh (r:=fun a b=>a.1<b.1) (fun a b h1 h2=>by omega) hys (Mk ids) ?_;refine (Ar3 hny2 hnf).2 fun f=> ?_;obtain ⟨d,n⟩:=f;rw [hp.mem_iff,hm,Af4 h0,mem_forksK]
 by_cases h1:0<Ak ids d
 ·
  rw [if_pos h1];constructor
  ·
   intro h;injection h with h
   refine ⟨?_,by omega,h.symm⟩
   rcases Fx h0 d with ⟨a1,_⟩|⟨_,a2,_⟩
   · omega
   ·
    obtain ⟨x,hx,e1,_⟩:=Fi (by omega:0<Am ids d (Ak ids d));rw [← e1];exact hb x hx
  ·
   rintro ⟨_,_,h⟩;rw [h]
 ·
  rw [if_neg h1];constructor
  · intro h;cases h
  ·
   rintro ⟨_,h2,h3⟩;omega
def ofK (ids:List Id) (d m n:Int):List Id:=An (ids.filter (fun x=>x.b==d&&decide (m≤x.s)&&decide (x.s≤n)))
theorem Sf {α:Type} {p q:α→Bool}:∀{l:List α},(∀x∈l,p x=true→q x=false)→(l.filter (fun x=>p x||q x)).Perm (l.filter p++l.filter q)
 |[],_=>List.Perm.refl _
 |x::r,h=>by
  have ih:=Sf (p:=p) (q:=q) (l:=r) (fun y hy=>h y (Ao2 _ hy))
  cases hp:p x with
  |true=>
   have hq:=h x An1 hp;rw [Ao6 (by rw [hp];rfl),Ao6 hp,An9 (by rw [hq];exact An6)];exact ih.cons x
  |false=>
   cases hq:q x with
   |true=>
    rw [Ao6 (by rw [hp,hq];rfl),An9 (by rw [hp];exact An6),Ao6 hq];exact (ih.cons x).trans List.perm_middle.symm
   |false=>
    rw [An9 (by rw [hp,hq];exact An6),An9 (by rw [hp];exact An6),An9 (by rw [hq];exact An6)];exact ih
def El (ids:List Id) (fs:List (Int × Int)) (k:Nat):List Id:=(fs.take k).flatMap (fun f=>ofK ids f.1 f.2 4611686018427387904)
theorem Af6 (ids:List Id) {fs:List (Int × Int)} {k:Nat} {f:Int × Int} (h:fs[k]? =some f):El ids fs (k+1)=El ids fs k++ofK ids f.1 f.2 4611686018427387904:=by
 unfold El;rw [Cx h,List.flatMap_append,Ar6,Ar7,List.append_nil]
theorem Sh {ids:List Id} (hx:∀x∈ids,x.s≤4611686018427387904):∀(fs:List (Int × Int)),fs.Pairwise (fun a b=>a.1<b.1)→(fs.flatMap (fun f=>ofK ids f.1 f.2 4611686018427387904)).Perm (ids.filter (fun x=>fs.any (fun f=>f.1==x.b&&decide (f.2≤x.s))))
 |[],_=>by
  rw [Ar7];have:ids.filter (fun x=>([]:List (Int × Int)).any (fun f=>f.1==x.b&&decide (f.2≤x.s)))=[]:=List.filter_eq_nil_iff.2 (fun x _=>by simp);rw [this]
 |f::r,h=>by
  have h':=List.pairwise_cons.1 h;have ih:=Sh hx r h'.2
  have e:(fun x:Id=>(f::r).any (fun f=>f.1==x.b&&decide (f.2≤x.s)))=(fun x=>(f.1==x.b&&decide (f.2≤x.s))||r.any (fun f=>f.1==x.b&&decide (f.2≤x.s))):=by
   funext x;rw [Ap5]
  rw [e,Ar6];refine List.Perm.trans ?_ (Sf (fun x _ hp=> ?_)).symm
  ·
   refine List.Perm.append ?_ ih;unfold ofK;refine (Br _).trans ?_
   have e2:ids.filter (fun x=>x.b==f.1&&decide (f.2≤x.s)&&decide (x.s≤4611686018427387904))=ids.filter (fun x=>f.1==x.b&&decide (f.2≤x.s)):=by
    refine Ap8 (fun x hm=> ?_);rw [decide_eq_true (hx x hm),Bool.and_true];congr 1;rw [Ao1,beq_iff_eq,beq_iff_eq];exact ⟨fun h=>h.symm,fun h=>h.symm⟩
   rw [e2]
  ·
   rw [Am8,beq_iff_eq] at hp;rw [Ar5];intro g hg hc;rw [Am8,beq_iff_eq] at hc;have:=h'.1 g hg;omega
theorem Af7 {ids:List Id} (hb:∀x∈ids,1≤x.b∧x.b≤12) (hx:∀x∈ids,x.s≤4611686018427387904):An (El ids (Aq ids) (Aq ids).length)=Cc ids:=by
 unfold Cc El;rw [Ap7];refine Ic (G8 _) ((Br _).trans ((Sh hx _ (Mk ids)).trans ?_));have e:ids.filter (fun x=>(Aq ids).any (fun f=>f.1==x.b&&decide (f.2≤x.s)))=ids.filter (Ec ids):=Ap8 (fun x hm=>(Ae6 (hb x hm)).symm);rw [e]
theorem Af8 {ids:List Id} (d:Int):ofK ids d (Ak ids d) (Ak ids d)=Cl ids d:=by
 unfold ofK Cl;congr 1;refine Ap8 (fun x _=> ?_);rw [Bool.and_assoc];congr 1;rw [Ao1,Am8,decide_eq_true_iff,decide_eq_true_iff,beq_iff_eq];omega
def Ce (ids:List Id) (d:Int):Option (Id × Id):=if Ak ids d=0 then none else match Cl ids d with|x::y::_=>some (x,y)|_=>none
theorem Af9 {ids:List Id} (h0:∀x∈ids,0<x.s) (hb:∀x∈ids,1≤x.b∧x.b≤12) {d:Int} (hd:¬(1≤d∧d≤12)):Ak ids d=0:=by
 rcases Fx h0 d with ⟨a1,_⟩|⟨a1,a2,_⟩
 · exact a1
 ·
  obtain ⟨x,hx,e1,_⟩:=Fi (by omega:0<Am ids d (Ak ids d));exact absurd (by rw [← e1];exact hb x hx) hd
end Oq
end
end Go.Proofs.YtkanjaikgphjfaaGreatDoor
