/- Contracts of functions, walked (part 14).
Conditions: as each theorem says. -/
import Derived.Lib.SlBytesConst
import Derived.Test.YtmcpnjoomlgmlaaGreatDoorRpM13
set_option maxRecDepth 100000
set_option maxHeartbeats 16000000
open Array renaming length_toList->A93
open Bool renaming not_false->A65,not_true->A66,and_eq_true->A70,or_eq_true->A80,false_ne_true->A85,not_eq_true->A90,or_eq_false_iff->A96,and_eq_false_iff->A97,not_eq_false'->A98,not_eq_false->A99
open Int renaming le_refl->A78,le_trans->A83,le_max_left->A84
open List renaming mem_of_getElem?->A59,getElem?_of_mem->A60,getElem?_eq_getElem->A61,mem_cons_self->A62,mem_map_of_mem->A63,length_map->A67,take_of_length_le->A68,not_mem_nil->A69,map_append->A71,mem_append_right->A72,getElem?_map->A73,nodup_nil->A74,mem_singleton->A75,length_append->A76,mem_cons_of_mem->A77,mem_append_left->A79,append_assoc->A86,perm_middle->A87,contains_iff_mem->A88,take_add_one->A89,filterMap_append->A91,nodup_append->A92,getElem_map->A94,length_singleton->A95,eraseIdx_eq_take_drop_succ->Ba0,take_append_drop->Ba1,drop_eq_getElem_cons->Ba2,any_eq_false->Ba3,perm_ext_iff_of_nodup->Ba4
open Nat renaming le_refl->A64,lt_or_ge->A81,strongRecOn->A82
open Go.Proofs.Tryz
open Go.Proofs.Tryz renaming prog->zp
open Go.Lib renaming hid->lh
open List renaming set->zl
open Go.Ending renaming returned->ze
namespace Go.Proofs.YtmcpnjoomlgmlaaGreatDoor
open Go.RowKit
attribute [local go_sem ↓] Go.wp_at_zero Go.wp_at_succ
namespace Oq
attribute [local go_sem ↓] Fz
end Oq
namespace Oq
attribute [local go_sem] A65 A66
attribute [local go_sem ↓] Fz
def Ek (l:List Id) (w:World) (e:Ending) (w':World):Prop:=∃A c,e=.returned (.slice A l.length c)/\Own w' w.heap.size 45 3 A l.length c (l.flatMap Id.cells)/\Fr Non w w'
theorem As1 {l l':List Id} {k:Nat} {y z:Id} (h:l[k]? =some y) (h':l'[k]? =some z) (hk:l.take k=l'.take k) (e:y=z):l.take (k+1)=l'.take (k+1):=by
 rw [A89,A89,hk,h,h',e]
theorem As2 (B n c B' m c':Nat) (A A':Option Addr) (l l':List Id) (w:World) (hn:Hid (l.length=n)) (hm:Hid (l'.length=m)) (hr:Rd w B 3 A n (l.flatMap Id.cells)) (hr':Rd w B' 3 A' m (l'.flatMap Id.cells)) (hnm:n<=1000000) (R:Bool) (hR:R=true<->l=l'):
  Calls zp 12 #[.slice A n c,.slice A' m c'] w (Ae R w):=by
 have hRf:Hid (l≠l'->R=false):=fun h=>by cases R with|false=>rfl|true=>exact absurd (hR.1 rfl) h
 have hRt:Hid (l=l'->R=true):=hR.2;clear hR
 by_cases hne:n=m
 ·
  subst hne;have t:((n:Int) !=(n:Int))=false:=by simp
  go_enter func12,ntmps12;go_wp2
  go_loopw [5] (fun v wr=>∃k:Nat,v=.int .i64 (k:Int)/\k<=n/\Hid (l.take k=l'.take k)/\Fr Non w wr) (fun v _=>n-(intOf v).toNat)
  case atStart=>exact ⟨0,rfl,by omega,rfl,Fr.refl _ _⟩
  case round=>
   obtain ⟨k,rfl,hk,hh,hf⟩:=hrel
   by_cases hlt:k<n
   ·
    obtain ⟨y,hy⟩:∃y,l[k]? =some y:=⟨_,A61 (by rw [hn.out];exact hlt)⟩;obtain ⟨z,hz⟩:∃y,l'[k]? =some y:=⟨_,A61 (by rw [hm.out];exact hlt)⟩;obtain ⟨b,off,rfl,hbB,k0,k1,k2⟩:=Id.at (hr.fr hf zr) hy;obtain ⟨b',off',rfl,hbB',g0,g1,g2⟩:=Id.at (hr'.fr hf zr) hz;have hcase:=Id.eq_iff y z;have hsn:Hid (y=z->l.take (k+1)=l'.take (k+1)):=As1 hy hz hh.out;have hno:Hid (y≠z->R=false):=fun e=>hRf.out (fun e'=>by rw [e',hz] at hy;injection hy with hy;exact e hy.symm);clear hy hz;obtain ⟨i1,i2,i3⟩:=ix k n
    have hm:=Qt
    by_cases he:Id.eq y z=true
    ·
     have hfin:=lh (hsn.out (hcase.1 he));clear hsn hno hcase;go_wp2
     go_quiet (fail)
     go_wp2;go_roundw
     case rel=>exact ⟨k+1,by go_num,by omega,hfin,hf.drewN _⟩
     case measure=>simp [intOf];omega
    ·
     have hfin:=lh (hno.out (fun e=>he (hcase.2 e)));have he:=A90 _▸he;clear hsn hno hcase;go_wp2
     go_quiet (fail)
     go_wp2
     go_ret
     exact ⟨by rw [hfin.out];rfl,hf.drewN _⟩
   ·
    obtain rfl:k=n:=by omega
    have hfin:Hid (R=true):=by
     have h:=hh.out;rw [A68 (by rw [hn.out];omega),A68 (by rw [hm.out];omega)] at h;exact hRt.out h
    go_wp2
    go_ret
    exact ⟨by rw [hfin.out];rfl,hf⟩
 ·
  have t:((n:Int) !=(m:Int))=true:=by simp;omega
  have hfin:Hid (R=false):=hRf.out (fun e=>hne (by rw [<- hn.out,<- hm.out,e]));go_enter func12,ntmps12;go_wp2
  go_ret
  exact ⟨by rw [hfin.out];rfl,Fr.refl _ _⟩
end Oq
namespace Oq
attribute [local go_sem] A65 A66
def El (l:List Pn) (p:Nat->Bool) (k:Nat):List Id:=(List.range k).filterMap (fun i=>if p i then l[i]?.map Pn.id else none)
theorem As3 (l:List Pn) (p:Nat->Bool) (k:Nat) {n:Pn} (h:l[k]? =some n):El l p (k+1)=El l p k++(if p k then [n.id] else []):=by
 unfold El;rw [List.range_succ,A91];congr 1
 cases hp:p k<;>simp [hp,h]
theorem I7 (l:List Id):(Ba l).length=l.length:=(Dt l).length_eq
end Oq
namespace Oq
end Oq
namespace Oq
attribute [local go_sem] A65 A66
theorem Du {P:Program} {o:Oper} {a:Act} {K:Act->World->Prop} {Q:Exit->Act->World->Prop} {w:World} (s x:Operand) (t:TypeId)
  (ho:o.op=.call {callee:=.builtin .append,args:=#[s,x],argTypes:=#[t,t]})
  {base size n c:Nat} {e:TypeId} {A:Option Addr} {xs:List Value} {z:Value} {bytes m cx B:Nat} {Ax:Option Addr} {news:List Value}
  (hs:a.eval s=.slice A n c) (hx:a.eval x=.slice Ax m cx)
  (hT:SlT P t e z size bytes) (h:Own w base e size A n c xs) (hr:Rd w B size Ax m news)
  (h1:∀u∈news,u.oneCell'=true) (hbytes:(n+m)*bytes<=140737488355328) (hmax:n+m<=9223372036854775807) (hbase:base<=w.heap.size)
  (hk:∀A' c' w',Own w' base e size A' (n+m) c' (xs++news)->Fr (fun k=>Ad A=some k) w w'->(Ad A'=Ad A\/Ad A'=some w.heap.size)->
   K (a.put o.dst (.slice A' (n+m) c')) w'):Oper.wp P o a w K Q:=by
 obtain ⟨A',c',w',hrun,h2,h3,h4⟩:=Ij (P:=P) (ty:=o.type) (cx:=cx) hT h hr h1 hbytes hmax hbase;unfold Oper.wp execOp;simp only [ho,resolve,invoke,builtin,Sem.run_bind,Sem.run_pure,Result.andThen_ok,List.map_toArray,List.map_cons,List.map_nil,hs,hx,hrun];exact hk A' c' w' h2 h3 h4
theorem Rows.placed {cards:List Cd} {l:List Pn} (h:Rows cards l) {id:Id} (hid:id∈l.map Pn.id):(plc l id).isSome=true:=by
 obtain ⟨n,hn,rfl⟩:=List.mem_map.1 hid;obtain ⟨i,hi⟩:=A60 hn;rw [(h.ok i n hi).plc];rfl
theorem Ub (l:List Pn) (p:Nat->Bool):∀k,∀id∈El l p k,∃i m,i<k/\p i=true/\l[i]? =some m/\m.id=id:=by
 intro k id hid;unfold El at hid;obtain ⟨i,hi,h⟩:=List.mem_filterMap.1 hid;rw [List.mem_range] at hi
 cases hp:p i with
 |false=>rw [hp] at h;cases h
 |true=>
  rw [hp,if_pos rfl] at h
  cases hm:l[i]? with
  |none=>rw [hm] at h;cases h
  |some m=>rw [hm] at h;injection h with h;exact ⟨i,m,hi,hp,hm,h⟩
theorem Uc {cards:List Cd} {l:List Pn} (h:Rows cards l) (p:Nat->Bool):∀k,(El l p k).Nodup:=by
 intro k
 induction k with
 |zero=>exact A74
 |succ k ih=>
  cases hm:l[k]? with
  |none=>
   have:El l p (k+1)=El l p k:=by
    unfold El;rw [List.range_succ,A91];simp [hm]
   rw [this];exact ih
  |some m=>
   rw [As3 l p k hm]
   cases hp:p k with
   |false=>simpa using ih
   |true=>
    rw [if_pos rfl,A92];refine ⟨ih,List.nodup_cons.2 ⟨A69,A74⟩,?_⟩;intro a ha b hb e;rw [A75] at hb;obtain ⟨i,m',hi,_,hm',e'⟩:=Ub l p k a ha;have h1:=(h.ok i m' hm').plc;have h2:=(h.ok k m hm).plc;rw [e',e,hb,h2] at h1;injection h1 with h1
    omega
theorem Le:SlT zp 32 4 (.bool false) 1 1:=⟨underlying32,by kernel_rfl,rfl,by decide⟩
end Oq
namespace Oq
attribute [local go_sem] A65 A66
attribute [local go_sem ↓] Bq
theorem As4 (y:OpL) (nm:Id) (hn:y.op.name=nm) (w:World) (hat:y.at w w.heap.size) (hok:y.op.ok):Calls zp 79 #[.agg y.cells] w fun e w'=>e=.returned (.agg nm.V)/\Fr Non w w':=by
 have k:=Ac7 y w hat hok;obtain ⟨b,s,u⟩:=nm;unfold Op.name at hn;injection hn with h1 h2 h3
 rw [h3,show y.by_=b from h1,show y.sq=s from h2] at k;exact k
end Oq
namespace Oq
theorem slOp:SlT zp 24 52 (.agg zO) 27 328:=⟨underlying24,by kernel_rfl,rfl,by decide⟩
theorem slIi:SlT zp 26 22 (.slice none 0 0) 1 24:=⟨underlying26,by kernel_rfl,rfl,by decide⟩
theorem Own.ne2 {w:World} {b b' size size' n n' c c':Nat} {t t':TypeId} {A A':Option Addr} {xs xs':List Value} (h:Own w b t size A n c xs) (h':Own w b' t' size' A' n' c' xs') (hne:t≠t'):∀k,Ad A=some k->Ad A'≠some k:=by
 intro k hk hk'
 rcases h.2 with ⟨hv,_⟩|⟨g,cap,cur,hv,_,hg,_⟩
 ·
  injection hv with hA
  subst hA
  cases hk
 ·
  injection hv with hA
  subst hA;injection hk with hk
  have hk2:g=k:=hk;subst hk2;exact Own.ne h' (g:=g) (t:=t) (cs:=cur) hg (fun e=>hne e.symm) hk'
theorem Own.setFar {w:World} {b size n c nb i:Nat} {t:TypeId} {A:Option Addr} {xs:List Value} {cs:Array Value} {t':TypeId} (h:Own w b t size A n c xs) (hb:Blk w nb t' cs) (hne:t≠t') (v:Value):Own (w.setCell ⟨nb,i,none⟩ v) b t size A n c xs:=
 h.setOne (h.ne hb hne)
theorem Own.grow2 {w w':World} {b b' size size' n n' c c':Nat} {t t':TypeId} {A A':Option Addr} {xs xs':List Value} (h:Own w b t size A n c xs) (h':Own w b' t' size' A' n' c' xs') (hne:t≠t') (hf:Fr (fun k=>Ad A'=some k) w w'):Own w' b t size A n c xs:=
 h.fr hf (fun k hk e=>Own.ne2 h h' hne k hk e)
theorem Fb {w w':World} (h:Fr (fun k=>Ad none=some k) w w'):Fr Non w w':=h.mono (fun _ _ e=>by cases e)
theorem Ud (l:List Pn) (o:Op):(Az l o).id=o.name:=rfl
theorem I8 (l:List Pn) (o:Op):(Az l o).o=o:=rfl
structure KR (b:Nat) (wv:World) (lA:Option Addr) (nL lC:Nat) (LX:List Value) (iA:Option Addr) (nI iC:Nat) (IX:List Value) (uA:Option Addr) (nU uC:Nat) (UX:List Value) (A1:Option Addr) (M c1:Nat) (UP:List Value) (A2:Option Addr) (N c2:Nat) (BX:List Value):Prop where
 oL:Own wv b 52 27 lA nL lC LX
 oI:Own wv b 45 3 iA nI iC IX
 oU:Own wv b 22 1 uA nU uC UX
 oA:Own wv b 3 1 A1 M c1 UP
 oB:Own wv b 4 1 A2 N c2 BX
section
variable {b : Nat} {wv w' : World} {lA iA uA A1 A2 : Option Addr} {nL lC nI iC nU uC M c1 N c2 : Nat} {LX IX UX UP BX : List Value}
theorem KR.non (h:KR b wv lA nL lC LX iA nI iC IX uA nU uC UX A1 M c1 UP A2 N c2 BX) (hf:Fr Non wv w'):KR b w' lA nL lC LX iA nI iC IX uA nU uC UX A1 M c1 UP A2 N c2 BX:=
 ⟨h.oL.fr hf zr,h.oI.fr hf zr,h.oU.fr hf zr,h.oA.fr hf zr,h.oB.fr hf zr⟩
end
end Oq
namespace Oq
attribute [local go_sem] A65 A66
def bsO (t:TypeId) (len:Nat) (parts:Array (Nat × Value)):=Instr.buildSlice t len parts
theorem As5 (n:Nat) (p:Array (Nat × Value)):Instr.buildSlice 24 n p=bsO 24 n p:=rfl
attribute [local go_sem ↓] Bq As5
end Oq
namespace Oq
attribute [local go_sem] A65 A66
attribute [local go_sem ↓] Bq Dx
def smL (b k d ol ro:Int) (pA:Option Addr) (ps:List NdL) (ep of:Id) (bA:Option Addr) (bs:List UInt8):OpL:=
 {OpL.zero with by_:=b,kind:=k,dev:=d,old:=ol,role:=ro,pathA:=pA,pathC:=ps.length,path:=ps,epoch:=ep,of:=of,bodyA:=bA,bodyC:=bs.length,body:=bs}
theorem Own.blk {w:World} {base g:Nat} {t:TypeId} {size n:Nat} {cs:Array Value} (h:Blk w g t cs) (hb:base<=g) (hn:0<n) (hs:cs.size=n*size) (h1:n<9223372036854775807):Own w base t size (some ⟨g,0,none⟩) n n cs.toList:=by
 refine ⟨by rw [A93,hs],.inr ⟨g,n,cs,rfl,hb,h,A64 _,by unfold maxLen;omega,hs,?_⟩⟩;rw [A68 (by rw [A93,hs];exact A64 _)]
structure Ex (w v:World) (nm:Array Value) (y:OpL):Prop where
 b:Blk v w.heap.size 52 y.cells
 r:Blk v (w.heap.size+1) 52 OpL.zero.cells
 n:Blk v (w.heap.size+1+1) 45 nm
 f:Fr Non w v
 sz:w.heap.size+3<=v.heap.size
 own:y.own v (w.heap.size+2)
theorem Ex.q {w v:World} {nm:Array Value} {y:OpL} (s:Ex w v nm y) (j:Nat) {x:Value} (h:y.cells[j]? =some x):v.cell? ⟨w.heap.size,j,none⟩=some x/\v.frozen? ⟨w.heap.size,j,none⟩=false:=⟨(s.b.cell j).trans h,s.b.frozen j⟩
theorem Ex.o {w v:World} {a0 a1 a2:Value} {y:OpL} (s:Ex w v #[a0,a1,a2] y):v.cell? ⟨w.heap.size+1+1,0,none⟩=some a0/\v.cell? ⟨w.heap.size+1+1,1,none⟩=some a1/\v.cell? ⟨w.heap.size+1+1,2,none⟩=some a2:=⟨s.n.cell 0,s.n.cell 1,s.n.cell 2⟩
theorem As6 {b k d ol ro b' k' d' ol' ro':Int} {pA bA:Option Addr} {ps:List NdL} {ep of ep' of':Id} {bs:List UInt8} {v:World} {B:Nat} (h:(smL b k d ol ro pA ps ep of bA bs).own v B):(smL b' k' d' ol' ro' pA ps ep' of' bA bs).own v B:=
 ⟨h.past,h.path,h.nodes,h.body,h.refs,h.guards,h.boxes,h.hist,h.seals⟩
theorem As7 {v:World} {g:Nat} {t:TypeId} {cs:Array Value} (hb:Blk v g t cs) {y:OpL} {B j:Nat} {x:Value} (h:y.own v B) (ht:t=52):y.own (v.setCell ⟨g,j,none⟩ x) B:=by
 subst ht;exact h.keepP ((Fr.refl (One g) v).setOne j x) (Types.one hb) (by decide) (by decide) (by decide) (by decide) (by decide) (by decide) (by decide)
theorem Ex.base {w v:World} {nm:Array Value} {y y':OpL} (s:Ex w v nm y) (j:Nat) (x:Value) (h:y.cells.setIfInBounds j x=y'.cells) (ho:y'.own (v.setCell ⟨w.heap.size,j,none⟩ x) (w.heap.size+2)):Ex w (v.setCell ⟨w.heap.size,j,none⟩ x) nm y' where
 b:=h▸s.b.set j x
 r:=s.r.far (p:=⟨w.heap.size,j,none⟩) (by show w.heap.size+1≠w.heap.size;omega) x
 n:=s.n.far (p:=⟨w.heap.size,j,none⟩) (by show w.heap.size+1+1≠w.heap.size;omega) x
 f:=s.f.setNew (g:=w.heap.size) (A64 _) j x
 sz:=by have:=s.sz;first|exact this|(simp [World.setCell];omega)
 own:=ho
theorem Ex.set {w v:World} {nm:Array Value} {b k d ol ro b' k' d' ol' ro':Int} {pA bA:Option Addr} {ps:List NdL} {ep of ep' of':Id} {bs:List UInt8} (s:Ex w v nm (smL b k d ol ro pA ps ep of bA bs)) (j:Nat) (x:Value)
  (h:(smL b k d ol ro pA ps ep of bA bs).cells.setIfInBounds j x=(smL b' k' d' ol' ro' pA ps ep' of' bA bs).cells:=by first|rfl|(simp [smL,OpL.cells,OpL.zero])):Ex w (v.setCell ⟨w.heap.size,j,none⟩ x) nm (smL b' k' d' ol' ro' pA ps ep' of' bA bs):=
 s.base j x h (As6 (As7 s.b s.own rfl))
theorem Ex.alloc {w v:World} {nm:Array Value} {y:OpL} (s:Ex w v nm y) (o:Obj):Ex w (v.alloc o) nm y:=
 ⟨s.b.alloc _,s.r.alloc _,s.n.alloc _,s.f.alloc _,by rw [World.size_alloc];have:=s.sz;omega,s.own.non ((Fr.refl Non v).alloc o)⟩
end Oq
namespace Oq
theorem Rows.idAt {cards:List Cd} {l:List Pn} (h:Rows cards l) {i:Nat} {n:Pn} (hi:l[i]? =some n):n.id.b=n.o.by_/\n.id.s=n.o.sq:=by
 rw [(h.ok i n hi).id];exact ⟨rfl,rfl⟩
theorem Rows.nodup {cards:List Cd} {l:List Pn} (h:Rows cards l):(l.map Pn.id).Nodup:=by
 rw [List.Nodup,List.pairwise_iff_getElem];intro i j hi hj hij e;rw [A94,A94] at e;rw [A67] at hi hj;have k1:=(h.ok i _ (A61 hi)).plc;have k2:=(h.ok j _ (A61 hj)).plc;rw [e,k2] at k1;injection k1 with k1
 omega
theorem As8 {l:List Pn} {p:Nat->Bool} {id:Id}:id∈El l p l.length<->∃i m,p i=true/\l[i]? =some m/\m.id=id:=by
 constructor
 ·
  intro h;obtain ⟨i,m,_,h1,h2,h3⟩:=Ub l p l.length id h;exact ⟨i,m,h1,h2,h3⟩
 ·
  rintro ⟨i,m,h1,h2,h3⟩;unfold El;refine List.mem_filterMap.2 ⟨i,List.mem_range.2 (List.getElem?_eq_some_iff.1 h2).1,?_⟩;rw [if_pos h1,h2];exact congrArg some h3
def Ft (l m:List Pn):Prop:=∀n'∈m,∃n∈l,n.o=n'.o
theorem Rows.take {cards:List Cd} {l:List Pn} (h:Rows cards l):∀i,Rows cards (l.take i):=by
 induction h with
 |nil=>intro i;rw [List.take_nil];exact .nil
 |snoc l o hl ho ih=>
  intro i
  rcases A81 l.length i with hi|hi
  ·
   rw [A68 (by rw [A76,A95];omega)];exact .snoc l o hl ho
  ·
   rw [List.take_append_of_le_length hi];exact ih i
theorem As9 (l:List Pn) (i:Nat):Ft l (l.take i):=fun n hn=>⟨n,List.mem_of_mem_take hn,rfl⟩
theorem Lf {cards:List Cd} {l m:List Pn} (hl:Rows cards l) (hm:Rows cards m) (hs:Ft l m) {id:Id} {j:Nat} {n':Pn} (hj:plc m id=some j) (hn:m[j]? =some n'):
  ∃i n,plc l id=some i/\l[i]? =some n/\n.o=n'.o:=by
 obtain ⟨n,h1,h2⟩:=hs n' (A59 hn);obtain ⟨i,hi⟩:=A60 h1;have e1:=(hl.ok i n hi).id;have e2:=(hm.ok j n' hn).id;have e3:=(hm.node hn).1 hj;refine ⟨i,n,?_,hi,h2⟩;rw [<- e3,e2,<- h2,<- e1];exact (hl.ok i n hi).plc
theorem Ue {cards:List Cd} {l:List Pn} (h:Rows cards l) {a b:Id} {j:Nat} {n:Pn} (hj:plc l b=some j) (hn:l[j]? =some n):bef l a b=true<->∃id∈n.o.past,id=a\/bef l a id=true:=by
 have k:=h.ok j n hn;rw [bef_iff];constructor
 ·
  rintro ⟨i,j',m,h1,h2,h3,h4⟩;rw [hj] at h2;injection h2 with e
  subst e;rw [hn] at h3;injection h3 with e
  subst e;obtain ⟨id,hid,p,m,h5,h6,h7⟩:=(k.ps i).1 h4;refine ⟨id,hid,?_⟩
  rcases h7 with rfl|h7
  ·
   left;obtain ⟨x,hx,e1⟩:=Cg h5;obtain ⟨y,hy,e2⟩:=Cg h1;rw [hx] at hy;injection hy with e
   rw [<- e1,<- e2,e]
  ·
   right;exact bef_iff.2 ⟨i,p,m,h1,h5,h6,h7⟩
 ·
  rintro ⟨id,hid,h1⟩;obtain ⟨p,hp,hq⟩:=k.par id hid;obtain ⟨m,hm,e⟩:=Cg hq
  rcases h1 with rfl|h1
  · exact ⟨p,j,n,hq,hj,hn,(k.ps p).2 ⟨id,hid,p,m,hq,hm,.inl rfl⟩⟩
  ·
   obtain ⟨i,p',m',h2,h3,h4,h5⟩:=bef_iff.1 h1;exact ⟨i,j,n,h2,hj,hn,(k.ps i).2 ⟨id,hid,p',m',h3,h4,.inr h5⟩⟩
theorem N7 {cards:List Cd} {l m:List Pn} (hl:Rows cards l) (hm:Rows cards m) (hs:Ft l m):∀(j:Nat) (b a:Id),plc m b=some j->bef m a b=bef l a b:=by
 intro j
 induction j using A82 with
 |_ j ih=>
  intro b a hj;obtain ⟨n',hn',_⟩:=Cg hj;obtain ⟨i,n,hi,hn,ho⟩:=Lf hl hm hs hj hn';rw [Bool.eq_iff_iff,Ue hm hj hn',Ue hl hi hn,ho];constructor
  ·
   rintro ⟨id,hid,h⟩;obtain ⟨p,hp,hq⟩:=(hm.ok j n' hn').par id hid;exact ⟨id,hid,h.imp zq (fun e=>by rw [<- ih p hp id a hq];exact e)⟩
  ·
   rintro ⟨id,hid,h⟩;obtain ⟨p,hp,hq⟩:=(hm.ok j n' hn').par id hid;exact ⟨id,hid,h.imp zq (fun e=>by rw [ih p hp id a hq];exact e)⟩
theorem At0 {cards:List Cd} {l m:List Pn} (hl:Rows cards l) (hm:Rows cards m) (hs:Ft l m):∀(j:Nat) (b:Id),plc m b=some j->Ao m b=Ao l b:=by
 intro j
 induction j using A82 with
 |_ j ih=>
  intro b hj;obtain ⟨n',hn',_⟩:=Cg hj;obtain ⟨i,n,hi,hn,ho⟩:=Lf hl hm hs hj hn';rw [H4 hj hn',H4 hi hn,(hm.ok j n' hn').lev,(hl.ok i n hn).lev,ho];refine Nr (fun id hid=> ?_);obtain ⟨p,hp,hq⟩:=(hm.ok j n' hn').par id hid;exact ih p hp id hq
theorem Uf {cards:List Cd} {l m:List Pn} (hl:Rows cards l) (hm:Rows cards m) (hs:Ft l m) {j:Nat} {b:Id} (hj:plc m b=some j):Ct m b=Ct l b:=by
 obtain ⟨n',hn',_⟩:=Cg hj;obtain ⟨i,n,hi,hn,ho⟩:=Lf hl hm hs hj hn';rw [Iu hj hn',Iu hi hn,ho]
theorem At1 {l l':List Pn} {ids:List Id} (h:∀id∈ids,Ct l' id=Ct l id):late l' ids=late l ids:=by
 unfold late
 suffices H:∀t:Int,ids.foldl (fun t id=>max t (Ct l' id)) t=ids.foldl (fun t id=>max t (Ct l id)) t from H 0
 induction ids with
 |nil=>intro t;rfl
 |cons x r ih=>intro t;rw [List.foldl_cons,List.foldl_cons,h x A62];exact ih (fun y hy=>h y (A77 _ hy)) _
theorem N8 {l:List Pn} {ids:List Id} (hlen:l.length<=200):clash l ids=true<->∃x∈ids,∃y∈ids,bef l x y=true:=by
 unfold clash;rw [List.any_eq_true];constructor
 ·
  rintro ⟨q,_,h⟩;rw [A70] at h;obtain ⟨x,hx,h1⟩:=List.any_eq_true.1 h.1;obtain ⟨y,hy,h2⟩:=List.any_eq_true.1 h.2;have h1':plc l x=some q:=by simpa using h1
  obtain ⟨p,m,h3,h4,h5⟩:=upB_iff.1 h2;exact ⟨x,hx,y,hy,bef_iff.2 ⟨q,p,m,h1',h3,h4,h5⟩⟩
 ·
  rintro ⟨x,hx,y,hy,h⟩;obtain ⟨i,j,m,h1,h2,h3,h4⟩:=bef_iff.1 h;have:=Gb h1;refine ⟨i,List.mem_range.2 (by omega),?_⟩;rw [A70];exact ⟨List.any_eq_true.2 ⟨x,hx,by rw [h1];exact beq_self_eq_true _⟩,List.any_eq_true.2 ⟨y,hy,upB_iff.2 ⟨j,m,h2,h3,h4⟩⟩⟩
theorem H9 {cards:List Cd} {l:List Pn} (h:Rows cards l) {ids:List Id} {q:Nat} {n:Pn} (hq:l[q]? =some n):Ak l ids q=true<->∃id∈ids,(plc l id).isSome=true/\(id=n.id\/bef l n.id id=true):=by
 rw [Ss h.few (fun p m hm=>(h.ok p m hm).lt)];constructor
 ·
  rintro ⟨id,hid,p,m,h1,h2,h3⟩;refine ⟨id,hid,by rw [h1];rfl,?_⟩
  rcases h3 with rfl|h3
  ·
   rw [hq] at h2;injection h2 with e
   subst e;exact .inl ((h.node hq).1 h1).symm
  · exact .inr (bef_iff.2 ⟨q,p,m,(h.ok q n hq).plc,h1,h2,h3⟩)
 ·
  rintro ⟨id,hid,h1,h2⟩;obtain ⟨p,hp⟩:=Option.isSome_iff_exists.1 h1;obtain ⟨m,hm,_⟩:=Cg hp;refine ⟨id,hid,p,m,hp,hm,?_⟩
  rcases h2 with rfl|h2
  ·
   rw [(h.ok q n hq).plc] at hp;injection hp with e
   exact .inl e
  ·
   obtain ⟨i,j,m',h3,h4,h5,h6⟩:=bef_iff.1 h2;rw [(h.ok q n hq).plc] at h3;injection h3 with e
   subst e;rw [hp] at h4;injection h4 with e
   subst e;rw [hm] at h5;injection h5 with e
   subst e;exact .inr h6
theorem At2 {l:List Pn} {p:Nat->Bool} {d s:Int} (h0:0<s) (h:∀k m,l[k]? =some m->m.o.by_=d->p k=true->m.o.sq<s):∀K,Bc l p d K<s:=by
 intro K
 induction K with
 |zero=>exact h0
 |succ K ih=>
  unfold Bc
  split
  ·
   rename_i n hn
   split
   ·
    rename_i hc;rw [A70,beq_iff_eq] at hc;have:=h K n hn hc.1 hc.2;omega
   · exact ih
  · exact ih
theorem At3 {cards:List Cd} {l m:List Pn} {o:Op} (hl:Rows cards l) (hm:Rows cards m) (hp:∀id∈o.past,(plc m id).isSome=true/\(plc l id).isSome=true/\∀a,bef m a id=bef l a id) (h0:Cu l (Ak l o.past) o=false):Cu m (Ak m o.past) o=false:=by
 unfold Cu at h0 ⊢;rw [A96,decide_eq_false_iff_not] at h0 ⊢;obtain ⟨h1,h2⟩:=h0
 have key:∀(q:Nat) (n:Pn),m[q]? =some n->Ak m o.past q=true->∃q' n',l[q']? =some n'/\Ak l o.past q'=true/\n'.id=n.id:=by
  intro q n hq hps;obtain ⟨id,hid,_,h4⟩:=(H9 hm hq).1 hps;obtain ⟨_,h6,h7⟩:=hp id hid
  rcases h4 with rfl|h4
  ·
   obtain ⟨q',hq'⟩:=Option.isSome_iff_exists.1 h6;obtain ⟨n',hn',e⟩:=Cg hq';exact ⟨q',n',hn',(H9 hl hn').2 ⟨n.id,hid,h6,.inl e.symm⟩,e⟩
  ·
   rw [h7] at h4;obtain ⟨i,j,x,h8,_⟩:=bef_iff.1 h4;obtain ⟨n',hn',e⟩:=Cg h8;exact ⟨i,n',hn',(H9 hl hn').2 ⟨id,hid,h6,.inr (by rw [e];exact h4)⟩,e⟩
 have yek:∀(q:Nat) (n:Pn),l[q]? =some n->Ak l o.past q=true->∃q' n',m[q']? =some n'/\Ak m o.past q'=true/\n'.id=n.id:=by
  intro q n hq hps;obtain ⟨id,hid,_,h4⟩:=(H9 hl hq).1 hps;obtain ⟨h6,_,h7⟩:=hp id hid
  rcases h4 with rfl|h4
  ·
   obtain ⟨q',hq'⟩:=Option.isSome_iff_exists.1 h6;obtain ⟨n',hn',e⟩:=Cg hq';exact ⟨q',n',hn',(H9 hm hn').2 ⟨n.id,hid,h6,.inl e.symm⟩,e⟩
  ·
   rw [<- h7] at h4;obtain ⟨i,j,x,h8,_⟩:=bef_iff.1 h4;obtain ⟨n',hn',e⟩:=Cg h8;exact ⟨i,n',hn',(H9 hm hn').2 ⟨id,hid,h6,.inr (by rw [e];exact h4)⟩,e⟩
 have h0':0<o.sq:=by
  have:0<=Bc l (Ak l o.past) o.by_ l.length:=by
   have h0:∀K,0<=Bc l (Ak l o.past) o.by_ K:=by
    intro K
    induction K with
    |zero=>exact A78 _
    |succ K ih=>
     unfold Bc
     split
     ·
      split
      · exact A83 ih (A84 _ _)
      · exact ih
     · exact ih
   exact h0 _
  omega
 constructor
 ·
  refine Int.not_le.2 (At2 h0' (fun k n hk hb hps=> ?_) _);obtain ⟨q',n',h3,h4,h5⟩:=key k n hk hps;obtain ⟨e1,e2⟩:=hm.idAt hk;obtain ⟨e3,e4⟩:=hl.idAt h3;have h6:=Ns (p:=Ak l o.past) (d:=o.by_) (List.getElem?_eq_some_iff.1 h3).1 h3 (by rw [<- e3,h5,e1,hb]) h4;rw [<- e2,<- h5,e4];omega
 ·
  rw [A97] at h2 ⊢;refine h2.imp zq (fun e=> ?_);rw [A98] at e ⊢;obtain ⟨k,n,_,h3,h4,h5,h6⟩:=aheadTo_iff.1 e;obtain ⟨q',n',h7,h8,h9⟩:=yek k n h3 h5;obtain ⟨e1,e2⟩:=hl.idAt h3;obtain ⟨e3,e4⟩:=hm.idAt h7;exact aheadTo_iff.2 ⟨q',n',(List.getElem?_eq_some_iff.1 h7).1,h7,by rw [<- e3,h9,e1,h4],h8,by rw [<- e4,h9,e2,h6]⟩
theorem Lg {cards:List Cd} {l:List Pn} {o:Op} (h:Au cards l o=0):(∃c,Ev cards o.by_=some c/\Sg.check c.s o.bare o.r o.s=true)/\(o.kind=1->l=[]):=by
 unfold Au at h
 by_cases h1:o.chk≠0
 · rw [if_pos h1] at h;exact absurd h h1
 rw [if_neg h1] at h
 by_cases h2:(plc l o.name).isSome=true
 · rw [if_pos h2] at h;omega
 rw [if_neg h2] at h
 by_cases h3:200<=l.length
 · rw [if_pos h3] at h;omega
 rw [if_neg h3] at h
 cases hc:Ev cards o.by_ with
 |none=>rw [hc] at h;dsimp only at h;omega
 |some c=>
  rw [hc] at h;dsimp only at h
  by_cases h4:Sg.check c.s o.bare o.r o.s=false
  · rw [if_pos h4] at h;omega
  rw [if_neg h4] at h
  by_cases h5:o.kind=1/\l≠[]
  · rw [if_pos h5] at h;omega
  refine ⟨⟨c,rfl,A99 _▸h4⟩,fun hk=> ?_⟩;exact Decidable.byContradiction fun hne=>h5 ⟨hk,hne⟩
theorem At4 {o:Op} (h:o.chk=0):o.past=[]<->o.kind=1:=(chk_ok.1 h).2.2.2.2.2.2
theorem Rows.first {cards:List Cd} {l:List Pn} (h:Rows cards l) {i:Nat} {n:Pn} (hi:l[i]? =some n):n.o.kind=1<->i=0:=by
 constructor
 ·
  intro hk;have h1:=(Lg (h.step hi).1).2 hk;have h2:=(List.getElem?_eq_some_iff.1 hi).1;have h3:=congrArg List.length h1;rw [List.length_take,List.length_nil] at h3;omega
 ·
  rintro rfl;refine (At4 (h.ok 0 n hi).chk).1 ?_
  cases hp:n.o.past with
  |nil=>rfl
  |cons x r=>
   obtain ⟨p,hp,_⟩:=(h.ok 0 n hi).par x (by rw [hp];exact A62);omega
theorem N9 {cards:List Cd} {l m:List Pn} (hl:Rows cards l) (hm:Rows cards m) (hs:Ft l m) {i:Nat} {n:Pn} (hi:l[i]? =some n) (hnew:plc m n.id=none) (hroom:m.length<200):
  Au cards m n.o=if n.o.past.any (fun id=>(plc m id).isNone)=true then 10 else 0:=by
 have k:=hl.ok i n hi;have hstep:=(hl.step hi).1;obtain ⟨⟨c,hc,hsg⟩,hkd⟩:=Lg hstep;have hT:=Kk hstep;have h1:¬n.o.chk≠0:=fun h=>h k.chk;have h2:¬(plc m n.o.name).isSome=true:=by rw [<- k.id,hnew];exact A85
 have h5:¬(n.o.kind=1/\m≠[]):=by
  rintro ⟨hk,hne⟩;have e0:=(hl.first hi).1 hk
  cases hm0:m[0]? with
  |none=>
   rw [List.getElem?_eq_none_iff] at hm0;exact hne (List.length_eq_zero_iff.1 (by omega))
  |some n'=>
   have hk':=(hm.first hm0).2 rfl;obtain ⟨j,n2,h6,h7,h8⟩:=Lf hl hm hs (hm.ok 0 n' hm0).plc hm0;rw [<- h8] at hk';have e1:=(hl.first h7).1 hk';rw [e1,<- e0,hi] at h7;injection h7 with h7
   have h9:=(hm.ok 0 n' hm0).plc;have e3:n'.id=n.id:=by rw [(hm.ok 0 n' hm0).id,k.id,h7,h8]
   rw [e3,hnew] at h9
   cases h9
 unfold Au;rw [if_neg h1,if_neg h2,if_neg (by omega),hc];dsimp only;rw [if_neg (by rw [hsg];decide),if_neg h5]
 by_cases hp:n.o.past.any (fun id=>(plc m id).isNone)=true
 · rw [if_pos hp,if_pos hp]
 rw [if_neg hp,if_neg hp]
 have hpar:∀id∈n.o.past,∃j,plc m id=some j:=by
  intro id hid
  cases hq:plc m id with
  |some j=>exact ⟨j,rfl⟩
  |none=>exact absurd (List.any_eq_true.2 ⟨id,hid,by rw [hq];rfl⟩) hp
 have hl0:=hl.take i;have hs0:=As9 l i
 have hbm:∀id∈n.o.past,∀a,bef m a id=bef (l.take i) a id:=by
  intro id hid a;obtain ⟨j,hj⟩:=hpar id hid;obtain ⟨p,hp⟩:=hT.past id hid;rw [N7 hl hm hs j id a hj,N7 hl hl0 hs0 p id a hp]
 have h7:¬(clash m n.o.past=true\/n.o.at_<late m n.o.past):=by
  rintro (h|h)
  ·
   obtain ⟨x,hx,y,hy,hb⟩:=(N8 hm.few).1 h;rw [hbm y hy] at hb;have:=(N8 hl0.few).2 ⟨x,hx,y,hy,hb⟩;rw [hT.clash] at this
   cases this
  ·
   have e:late m n.o.past=late (l.take i) n.o.past:=At1 (fun id hid=>by
    obtain ⟨j,hj⟩:=hpar id hid;obtain ⟨p,hp⟩:=hT.past id hid;rw [Uf hl hm hs hj,Uf hl hl0 hs0 hp])
   rw [e] at h;exact absurd hT.late (Int.not_le.2 h)
 have h8:Cu m (Ak m n.o.past) n.o=false:=At3 hl0 hm (fun id hid=>by
  obtain ⟨j,hj⟩:=hpar id hid;obtain ⟨p,hp⟩:=hT.past id hid;exact ⟨by rw [hj];rfl,by rw [hp];rfl,hbm id hid⟩) hT.seq
 rw [if_neg h7,h8];rfl
def ready (m:List Pn) (o:Op):Bool:=!o.past.any (fun id=>(plc m id).isNone)
structure Di (cards:List Cd) (l m:List Pn) (left:List Op):Prop where
 rl:Rows cards l
 rm:Rows cards m
 perm:(m.map Pn.o++left).Perm (l.map Pn.o)
theorem Di.among {cards:List Cd} {l m:List Pn} {left:List Op} (h:Di cards l m left):Ft l m:=by
 intro n' hn;have h1:n'.o∈l.map Pn.o:=h.perm.mem_iff.1 (A79 _ (A63 hn));obtain ⟨n,h2,h3⟩:=List.mem_map.1 h1;exact ⟨n,h2,h3⟩
theorem Rows.names {cards:List Cd} {l:List Pn} (h:Rows cards l):(l.map Pn.o).map Op.name=l.map Pn.id:=by
 rw [List.map_map];refine List.map_congr_left (fun n hn=> ?_);obtain ⟨i,hi⟩:=A60 hn;exact (h.ok i n hi).id.symm
theorem Di.nodup {cards:List Cd} {l m:List Pn} {left:List Op} (h:Di cards l m left):(m.map Pn.id++left.map Op.name).Nodup:=by
 have h1:=h.perm.map Op.name;rw [A71,h.rm.names,h.rl.names] at h1;exact h1.nodup_iff.2 h.rl.nodup
theorem Di.of {cards:List Cd} {l m:List Pn} {left:List Op} (h:Di cards l m left) {o:Op} (ho:o∈left):∃(i:Nat) (n:Pn),l[i]? =some n/\n.o=o/\plc m n.id=none:=by
 have h1:o∈l.map Pn.o:=h.perm.mem_iff.1 (A72 _ ho);obtain ⟨n,h2,h3⟩:=List.mem_map.1 h1;obtain ⟨i,hi⟩:=A60 h2;refine ⟨i,n,hi,h3,?_⟩
 cases hp:plc m n.id with
 |none=>rfl
 |some j=>
  obtain ⟨n',hn',e⟩:=Cg hp;have h4:=(List.nodup_append.1 h.nodup).2.2 n'.id (A63 (A59 hn')) o.name (A63 ho);rw [e,(h.rl.ok i n hi).id,h3] at h4;exact absurd rfl h4
theorem Di.err {cards:List Cd} {l m:List Pn} {left:List Op} (h:Di cards l m left) (hlen:l.length<200) {o:Op} (ho:o∈left):Au cards m o=if ready m o=true then 0 else 10:=by
 obtain ⟨i,n,h1,rfl,h3⟩:=h.of ho
 have hle:m.length<=l.length:=by
  have:=h.perm.length_eq;rw [A76,A67,A67] at this;omega
 rw [N9 h.rl h.rm h.among h1 h3 (by omega)];unfold ready
 cases n.o.past.any (fun id=>(plc m id).isNone)<;>rfl
theorem Di.take {cards:List Cd} {l m:List Pn} {left:List Op} (h:Di cards l m left) (hlen:l.length<200) {k:Nat} {o:Op} (hk:left[k]? =some o) (hr:ready m o=true):Di cards l (m++[Az m o]) (left.eraseIdx k):=by
 have he:=h.err hlen (A59 hk);rw [if_pos hr] at he;refine ⟨h.rl,.snoc m o h.rm he,?_⟩;refine List.Perm.trans ?_ h.perm;rw [A71,A86];refine List.Perm.append_left _ ?_;obtain ⟨hlt,rfl⟩:=List.getElem?_eq_some_iff.1 hk;rw [Ba0];conv=>rhs;rw [<- Ba1 k left,Ba2 hlt]
 exact (A87 (a:=left[k]) (l₁:=left.take k) (l₂:=left.drop (k+1))).symm
theorem Di.nextOne {cards:List Cd} {l m:List Pn} {left:List Op} (h:Di cards l m left) (hne:left≠[]):∃(k:Nat) (o:Op),left[k]? =some o/\ready m o=true:=by
 refine Classical.byContradiction fun hno=> ?_
 have hall:∀(i:Nat) (n:Pn),l[i]? =some n->n.o∉left:=by
  intro i
  induction i using A82 with
  |_ i ih=>
   intro n hi hin;obtain ⟨k,hk⟩:=A60 hin;refine hno ⟨k,n.o,hk,?_⟩;unfold ready;rw [Bool.not_eq_true',Ba3];intro id hid;obtain ⟨p,hp,hq⟩:=(h.rl.ok i n hi).par id hid;obtain ⟨n2,hn2,e⟩:=Cg hq;have h1:n2.o∈l.map Pn.o:=A63 (A59 hn2)
   rcases List.mem_append.1 (h.perm.mem_iff.2 h1) with h2|h2
   ·
    obtain ⟨n3,h3,h4⟩:=List.mem_map.1 h2;obtain ⟨j,hj⟩:=A60 h3;have e2:n3.id=id:=by rw [(h.rm.ok j n3 hj).id,h4,<- (h.rl.ok p n2 hn2).id,e]
    have:=(h.rm.ok j n3 hj).plc;rw [e2] at this;rw [this];exact A85
   · exact absurd h2 (ih p hp n2 hn2)
 cases left with
 |nil=>exact hne rfl
 |cons o r=>
  have h1:o∈l.map Pn.o:=h.perm.mem_iff.1 (A72 _ A62);obtain ⟨n,h2,rfl⟩:=List.mem_map.1 h1;obtain ⟨i,hi⟩:=A60 h2;exact hall i n hi A62
def Tried (m:List Pn) (left:List Op) (i:Nat):Prop:=
 ∃j,i<=60+14*(14-left.length)+j/\(0<j->60+j<=i/\j<left.length/\∀t,t<j->∀o,left[(i-1-t)%left.length]? =some o->ready m o=false)
theorem Tried.few {m:List Pn} {left:List Op} {i:Nat} (h:Tried m left i) (hlen:left.length<=14) (hne:left≠[]):i<400:=by
 obtain ⟨j,h1,h2⟩:=h;have h3:0<left.length:=List.length_pos_iff.2 hne
 rcases Nat.eq_zero_or_pos j with h0|h0
 · omega
 ·
  have:=(h2 h0).2.1;omega
theorem Di.ends {cards:List Cd} {l m:List Pn} (h:Di cards l m []):(m.map Pn.id).Perm (l.map Pn.id):=by
 have h1:=h.perm.map Op.name;rw [List.append_nil,h.rm.names,h.rl.names] at h1;exact h1
theorem Ug {cards:List Cd} {l:List Pn} (h:Rows cards l) {x id:Id}:id∈El l (Cn l [x]) l.length<->bef l id x=true:=by
 rw [As8,bef_iff];unfold Cn;constructor
 ·
  rintro ⟨i,n,h1,h2,rfl⟩;rw [List.any_cons,List.any_nil,Bool.or_false] at h1;obtain ⟨p,m,h3,h4,h5⟩:=upB_iff.1 h1;exact ⟨i,p,m,(h.ok i n h2).plc,h3,h4,h5⟩
 ·
  rintro ⟨i,j,m,h1,h2,h3,h4⟩;obtain ⟨n,hn,e⟩:=Cg h1;refine ⟨i,n,?_,hn,e⟩;rw [List.any_cons,List.any_nil,Bool.or_false];exact upB_iff.2 ⟨j,m,h2,h3,h4⟩
theorem Di.past {cards:List Cd} {l m:List Pn} (h:Di cards l m []) {x:Id} (hx:x∈l.map Pn.id):(El m (Cn m [x]) m.length).Perm (El l (Cn l [x]) l.length):=by
 obtain ⟨n,h1,rfl⟩:=List.mem_map.1 (h.ends.mem_iff.2 hx);obtain ⟨j,hj⟩:=A60 h1;refine (Ba4 (Uc h.rm _ _) (Uc h.rl _ _)).2 fun id=> ?_;rw [Ug h.rm,Ug h.rl,N7 h.rl h.rm h.among j _ _ (h.rm.ok j n hj).plc]
theorem Fp {α:Type} [BEq α] [LawfulBEq α]:∀{xs ys:List α},xs.Nodup->(∀x∈xs,x∈ys)->xs.length<=ys.length
 |[],_,_,_=>Nat.zero_le _
 |x::r,ys,hn,hs=>by
  rw [List.nodup_cons] at hn;have hx:=hs x A62;have h:=Fp (xs:=r) (ys:=ys.erase x) hn.2 (fun z hz=>(List.mem_erase_of_ne (fun e=>hn.1 (by rw [<- e];exact hz))).2 (hs z (A77 _ hz)));rw [List.length_erase_of_mem hx] at h;have:=List.length_pos_of_mem hx;rw [List.length_cons];omega
def Ci (cards:List Cd):Nat->List Pn->List Op->List Pn × List Op
 |0,m,ws=>(m,ws)
 |f+1,m,ws=>match ws.findIdx? (fun o=>ready m o) with
  |none=>(m,ws)
  |some i=>match ws[i]? with
   |none=>(m,ws)
   |some o=>Ci cards f (if Au cards m o=0 then m++[Az m o] else m) (ws.eraseIdx i)
def Bp (cards:List Cd) (s:List Pn × List Op) (o:Op):Int × (List Pn × List Op):=
 if (plc s.1 o.name).isSome=true\/s.2.any (fun x=>Id.eq x.name o.name)=true then (5,s)
 else if ready s.1 o=false then if 200<=s.2.length then (3,s) else (0,(s.1,s.2++[o]))
 else if Au cards s.1 o≠0 then (Au cards s.1 o,s)
 else (0,Ci cards s.2.length (s.1++[Az s.1 o]) s.2)
structure Cb (cards:List Cd) (l:List Pn) (C:List Op) (m:List Pn) (ws:List Op):Prop where
 rl:Rows cards l
 rm:Rows cards m
 perm:(m.map Pn.o++ws).Perm C
 sub:∀o∈C,∃n∈l,n.o=o
 nodup:(C.map Op.name).Nodup
theorem Cb.among {cards:List Cd} {l m:List Pn} {C ws:List Op} (h:Cb cards l C m ws):Ft l m:=by
 intro n' hn;obtain ⟨n,h2,h3⟩:=h.sub n'.o (h.perm.mem_iff.1 (A79 _ (A63 hn)));exact ⟨n,h2,h3⟩
theorem Cb.names {cards:List Cd} {l m:List Pn} {C ws:List Op} (h:Cb cards l C m ws):(m.map Pn.id++ws.map Op.name).Nodup:=by
 have h1:=h.perm.map Op.name;rw [A71,h.rm.names] at h1;exact h1.nodup_iff.2 h.nodup
theorem Cb.of {cards:List Cd} {l m:List Pn} {C ws:List Op} (h:Cb cards l C m ws) {o:Op} (ho:o∈ws):∃(i:Nat) (n:Pn),l[i]? =some n/\n.o=o/\plc m n.id=none:=by
 obtain ⟨n,h2,h3⟩:=h.sub o (h.perm.mem_iff.1 (A72 _ ho));obtain ⟨i,hi⟩:=A60 h2;refine ⟨i,n,hi,h3,?_⟩
 cases hp:plc m n.id with
 |none=>rfl
 |some j=>
  obtain ⟨n',hn',e⟩:=Cg hp;have h4:=(List.nodup_append.1 h.names).2.2 n'.id (A63 (A59 hn')) o.name (A63 ho);rw [e,(h.rl.ok i n hi).id,h3] at h4;exact absurd rfl h4
theorem Cb.few {cards:List Cd} {l m:List Pn} {C ws:List Op} (h:Cb cards l C m ws):m.length<=l.length/\ws.length<=l.length:=by
 have hp:=h.perm.length_eq;rw [A76,A67] at hp
 have hC:C.length<=l.length:=by
  have h1:(C.map Op.name).length<=((l.map Pn.o).map Op.name).length:=by
   refine Fp h.nodup (fun x hx=> ?_);obtain ⟨o,ho,rfl⟩:=List.mem_map.1 hx;obtain ⟨n,hn,rfl⟩:=h.sub o ho;exact A63 (A63 hn)
  simpa using h1
 omega
theorem Cb.err {cards:List Cd} {l m:List Pn} {C ws:List Op} (h:Cb cards l C m ws) (hlen:l.length<200) {i:Nat} {n:Pn} (hi:l[i]? =some n) (hnew:plc m n.id=none):Au cards m n.o=if ready m n.o=true then 0 else 10:=by
 rw [N9 h.rl h.rm h.among hi hnew (by have:=h.few.1;omega)];unfold ready
 cases n.o.past.any (fun id=>(plc m id).isNone)<;>rfl
theorem Cb.take {cards:List Cd} {l m:List Pn} {C ws:List Op} (h:Cb cards l C m ws) (hlen:l.length<200) {k:Nat} {o:Op} (hk:ws[k]? =some o) (hr:ready m o=true):Au cards m o=0/\Cb cards l C (m++[Az m o]) (ws.eraseIdx k):=by
 obtain ⟨i,n,h1,rfl,h3⟩:=h.of (A59 hk);have he:=h.err hlen h1 h3;rw [if_pos hr] at he;refine ⟨he,h.rl,.snoc m n.o h.rm he,?_,h.sub,h.nodup⟩;refine List.Perm.trans ?_ h.perm;rw [A71,A86];refine List.Perm.append_left _ ?_;obtain ⟨hlt,e⟩:=List.getElem?_eq_some_iff.1 hk;rw [Ba0];conv=>rhs;rw [<- Ba1 k ws,Ba2 hlt]
 show ([n.o]++(ws.take k++ws.drop (k+1))).Perm _;rw [e];exact (A87 (a:=n.o) (l₁:=ws.take k) (l₂:=ws.drop (k+1))).symm
theorem Cb.goOn {cards:List Cd} {l:List Pn} {C:List Op} (hlen:l.length<200):∀(f:Nat) (m:List Pn) (ws:List Op),Cb cards l C m ws->ws.length<=f->
  Cb cards l C (Ci cards f m ws).1 (Ci cards f m ws).2/\∀o∈(Ci cards f m ws).2,ready (Ci cards f m ws).1 o=false
 |0,m,ws,h,hf=>by
  have e:ws=[]:=List.length_eq_zero_iff.1 (by omega);subst e;exact ⟨h,fun o ho=>absurd ho A69⟩
 |f+1,m,ws,h,hf=>by
  unfold Ci
  cases hx:ws.findIdx? (fun o=>ready m o) with
  |none=>
   dsimp only;refine ⟨h,fun o ho=> ?_⟩;have:=List.findIdx?_eq_none_iff.1 hx o ho;simpa using this
  |some i=>
   dsimp only;obtain ⟨hlt,hr,_⟩:=List.findIdx?_eq_some_iff_getElem.1 hx;have hk:ws[i]? =some ws[i]:=A61 hlt;rw [hk];dsimp only;obtain ⟨he,h2⟩:=h.take hlen hk hr;rw [if_pos he];exact Cb.goOn hlen f _ _ h2 (by rw [List.length_eraseIdx_of_lt hlt];omega)
theorem Cb.next {cards:List Cd} {l m:List Pn} {C ws:List Op} (h:Cb cards l C m ws) (hlen:l.length<200) (hst:∀o∈ws,ready m o=false) {i:Nat} {n:Pn} (hi:l[i]? =some n):
  ∃C',Cb cards l C' (Bp cards (m,ws) n.o).2.1 (Bp cards (m,ws) n.o).2.2/\(∀o∈(Bp cards (m,ws) n.o).2.2,ready (Bp cards (m,ws) n.o).2.1 o=false)/\∀o,o∈C'<->o∈C\/o=n.o:=by
 have ae:=(h.rl.ok i n hi).id;unfold Bp;dsimp only
 by_cases h1:(plc m n.o.name).isSome=true\/ws.any (fun x=>Id.eq x.name n.o.name)=true
 ·
  rw [if_pos h1];refine ⟨C,h,hst,fun o=>⟨.inl,fun ho=>ho.elim id (fun e=> ?_)⟩⟩;rw [e]
  have ad:∀o'∈C,o'.name=n.o.name->n.o∈C:=fun o' aa e'=>by
   obtain ⟨n2,af,rfl⟩:=h.sub o' aa;obtain ⟨j,hj⟩:=A60 af;have k1:=(h.rl.ok j n2 hj).plc;have k2:=(h.rl.ok i n hi).plc;rw [(h.rl.ok j n2 hj).id,e',<- ae,k2] at k1;injection k1 with k1
   rw [<- k1,hi] at hj;injection hj with hj
   rw [hj];exact aa
  rcases h1 with h1|h1
  ·
   cases hp:plc m n.o.name with
   |none=>rw [hp] at h1;cases h1
   |some j=>
    obtain ⟨n',ag,e'⟩:=Cg hp;exact ad n'.o (h.perm.mem_iff.1 (A79 _ (A63 (A59 ag)))) (by rw [<- (h.rm.ok j n' ag).id,e'])
  ·
   obtain ⟨x,hx,e'⟩:=List.any_eq_true.1 h1;exact ad x (h.perm.mem_iff.1 (A72 _ hx)) ((Id.eq_iff _ _).1 e')
 ·
  rw [if_neg h1]
  have hp:plc m n.id=none:=by
   cases hp:plc m n.id with
   |none=>rfl
   |some j=>rw [ae] at hp;exact absurd (Or.inl (by rw [hp];rfl)) h1
  have aj:n.o∉C:=fun hc=>by
   rcases List.mem_append.1 (h.perm.mem_iff.2 hc) with h2|h2
   ·
    obtain ⟨n3,h3,h4⟩:=List.mem_map.1 h2;obtain ⟨j,hj⟩:=A60 h3;have:=(h.rm.ok j n3 hj).plc;rw [(h.rm.ok j n3 hj).id,h4,<- ae,hp] at this
    cases this
   · exact h1 (.inr (List.any_eq_true.2 ⟨n.o,h2,(Id.eq_iff _ _).2 rfl⟩))
  have ab:∀o'∈C,o'.name≠n.o.name:=fun o' aa e'=>by
   obtain ⟨n2,af,rfl⟩:=h.sub o' aa;obtain ⟨j,hj⟩:=A60 af;have k1:=(h.rl.ok j n2 hj).plc;have k2:=(h.rl.ok i n hi).plc;rw [(h.rl.ok j n2 hj).id,e',<- ae,k2] at k1;injection k1 with k1
   rw [<- k1,hi] at hj;injection hj with hj
   rw [<- hj] at aa;exact aj aa
  have ah:Cb cards l (C++[n.o]) m (ws++[n.o]):=by
   refine ⟨h.rl,h.rm,by rw [<- A86];exact h.perm.append_right _,fun o ho=> ?_,?_⟩
   ·
    rcases List.mem_append.1 ho with h2|h2
    · exact h.sub o h2
    · rw [List.mem_singleton.1 h2];exact ⟨n,A59 hi,rfl⟩
   ·
    rw [A71,A92];refine ⟨h.nodup,by simp,fun a ha b hb e=> ?_⟩;obtain ⟨o',aa,rfl⟩:=List.mem_map.1 ha;rw [List.map_cons,List.map_nil,A75] at hb;exact ab o' aa (e.trans hb)
  have ac:∀o,o∈C++[n.o]<->o∈C\/o=n.o:=fun o=>by rw [List.mem_append,A75]
  by_cases h2:ready m n.o=false
  ·
   rw [if_pos h2,if_neg (by have:=h.few.2;omega)];refine ⟨C++[n.o],ah,fun o ho=> ?_,ac⟩
   rcases List.mem_append.1 ho with h3|h3
   · exact hst o h3
   · rw [List.mem_singleton.1 h3];exact h2
  ·
   have ai:ready m n.o=true:=(A99 _).mp h2;have he:=h.err hlen hi hp;rw [if_pos ai] at he;rw [if_neg h2,if_neg (by rw [he];exact fun hh=>hh rfl)];have hk:(ws++[n.o])[ws.length]? =some n.o:=by rw [List.getElem?_append_right (A64 _),Nat.sub_self];rfl
   have h3:=(ah.take hlen hk ai).2;rw [show (ws++[n.o]).eraseIdx ws.length=ws by rw [List.eraseIdx_append_of_length_le (A64 _),Nat.sub_self];simp] at h3;obtain ⟨h4,h5⟩:=Cb.goOn hlen ws.length _ _ h3 (A64 _);exact ⟨C++[n.o],h4,h5,ac⟩
theorem Cb.all {cards:List Cd} {l m:List Pn} {C ws:List Op} (h:Cb cards l C m ws) (hst:∀o∈ws,ready m o=false) (hall:∀n∈l,n.o∈C):ws=[]/\Di cards l m []:=by
 have hC:C.Perm (l.map Pn.o):=by
  have hnl:(l.map Pn.o).Nodup:=by
   have:=h.rl.nodup;rw [<- h.rl.names] at this;exact List.Pairwise.of_map Op.name (fun a b hab e=>hab (congrArg Op.name e)) this
  have hnc:C.Nodup:=List.Pairwise.of_map Op.name (fun a b hab e=>hab (congrArg Op.name e)) h.nodup;exact (Ba4 hnc hnl).2 (fun o=>⟨fun ho=>by obtain ⟨n,hn,rfl⟩:=h.sub o ho;exact A63 hn,fun ho=>by obtain ⟨n,hn,rfl⟩:=List.mem_map.1 ho;exact hall n hn⟩)
 have hR:Di cards l m ws:=⟨h.rl,h.rm,h.perm.trans hC⟩
 by_cases hw:ws=[]
 ·
  subst hw;exact ⟨rfl,hR⟩
 ·
  obtain ⟨k,o,hk,hr⟩:=hR.nextOne hw;rw [hst o (A59 hk)] at hr
  cases hr
def Gg (cards:List Cd) (l:List Pn):List Nat->List Pn × List Op->List Pn × List Op
 |[],s=>s
 |p::ps,s=>Gg cards l ps (match l[p]? with|some n=>(Bp cards s n.o).2|none=>s)
theorem Uh (cards:List Cd) (l:List Pn) (p:Nat):∀(ps:List Nat) (s:List Pn × List Op),Gg cards l (ps++[p]) s=(match l[p]? with|some n=>(Bp cards (Gg cards l ps s) n.o).2|none=>Gg cards l ps s)
 |[],s=>rfl
 |q::ps,s=>by
  rw [List.cons_append];unfold Gg;exact Uh cards l p ps _
theorem Cb.start {cards:List Cd} {l:List Pn} (h:Rows cards l):Cb cards l [] [] []:=⟨h,.nil,List.Perm.refl _,fun _ ho=>absurd ho A69,A74⟩
def RgAt (w:World) (b o:Nat) (l:List Value):Prop:=World.rangeAt w b o l
theorem RgAt.fr {S:Nat->Prop} {w w':World} {b o:Nat} {l:List Value} (h:RgAt w b o l) (hf:Fr S w w') (hb:¬S b):RgAt w' b o l:=fun k v hv=>hf.cell (h k v hv) hb
def inP (l:List Pn) (k p:Nat):Bool:=(l[k]?.map (fun n=>n.ps p)).getD false
def nmP (l:List Pn) (p:Nat):Id:=(l[p]?.map Pn.id).getD ⟨0,0,0⟩
theorem Gh {l:List Pn} {p:Nat} {n:Pn} (h:l[p]? =some n):nmP l p=n.id:=by unfold nmP;rw [h];rfl
theorem Ia {l:List Pn} {k p:Nat} {n:Pn} (h:l[k]? =some n):inP l k p=n.ps p:=by unfold inP;rw [h];rfl
def Cq (l:List Pn) (places:List Nat):Nat->List Nat
 |0=>[]
 |k+1=>match places[k]? with
  |some p=>if ((Cq l places k).contains p||places.any (fun q=>inP l q p))=true then Cq l places k else Cq l places k++[p]
  |none=>Cq l places k
def Dm (l:List Pn) (places:List Nat):List Nat:=Cq l places places.length
theorem Lh (l:List Pn) (places:List Nat):∀k,(Cq l places k).length<=k
 |0=>A64 _
 |k+1=>by
  have ih:=Lh l places k;unfold Cq
  split
  ·
   split
   · omega
   · rw [A76,A95];omega
  · omega
theorem Ui (l:List Pn) (places:List Nat):∀k,(Cq l places k).Nodup
 |0=>A74
 |k+1=>by
  have ih:=Ui l places k;unfold Cq
  split
  ·
   rename_i p _
   split
   · exact ih
   ·
    rename_i hc;refine List.nodup_append.2 ⟨ih,by simp,fun a ha b hb=> ?_⟩;obtain rfl:=List.mem_singleton.1 hb;rintro rfl;rw [List.contains_iff_mem.2 ha] at hc;exact hc rfl
  · exact ih
theorem I9 {l:List Pn} {places:List Nat}:∀(k:Nat) {p:Nat},p∈Cq l places k->p∈places/\∀q∈places,inP l q p=false
 |0,p,h=>by unfold Cq at h;cases h
 |k+1,p,h=>by
  have ih:=I9 (l:=l) (places:=places) k (p:=p);unfold Cq at h
  cases hx:places[k]? with
  |none=>rw [hx] at h;exact ih h
  |some y=>
   rw [hx] at h;dsimp only at h
   by_cases hc:((Cq l places k).contains y||places.any (fun q=>inP l q y))=true
   · rw [if_pos hc] at h;exact ih h
   ·
    rw [if_neg hc] at h
    rcases List.mem_append.1 h with h|h
    · exact ih h
    ·
     obtain rfl:=List.mem_singleton.1 h;refine ⟨A59 hx,fun q hq=> ?_⟩
     cases hi:inP l q p with
     |false=>rfl
     |true=>
      refine absurd ?_ hc;rw [A80];exact .inr (List.any_eq_true.2 ⟨q,hq,hi⟩)
theorem Uj {l:List Pn} {places:List Nat} {p:Nat} (hp:∀q∈places,inP l q p=false):∀(k j:Nat),j<k->places[j]? =some p->p∈Cq l places k
 |0,j,h,_=>absurd h (Nat.not_lt_zero j)
 |k+1,j,h,hj=>by
  have ih:=Uj (l:=l) (places:=places) hp k j;unfold Cq
  rcases A81 j k with hjk|hjk
  ·
   have:=ih hjk hj
   split
   ·
    split
    · exact this
    · exact A79 _ this
   · exact this
  ·
   obtain rfl:j=k:=by omega
   rw [hj];dsimp only
   split
   ·
    rename_i hc;rw [A80] at hc
    rcases hc with hc|hc
    · exact List.contains_iff_mem.1 hc
    ·
     obtain ⟨q,hq,h2⟩:=List.any_eq_true.1 hc;rw [hp q hq] at h2
     cases h2
   · exact A72 _ A62
theorem At5 {cards:List Cd} {l:List Pn} (h:Rows cards l) {places:List Nat} (hne:places≠[]) (hlt:∀p∈places,p<l.length):Dm l places≠[]:=by
 have hmax:∃p∈places,∀q∈places,q<=p:=by
  clear hlt
  induction places with
  |nil=>exact absurd rfl hne
  |cons x r ih=>
   cases r with
   |nil=>exact ⟨x,A62,fun q hq=>by rw [List.mem_singleton.1 hq];exact A64 _⟩
   |cons y r=>
    obtain ⟨p,hp,hq⟩:=ih (by simp)
    rcases A81 p x with hx|hx
    ·
     refine ⟨x,A62,fun q hq2=> ?_⟩
     rcases List.mem_cons.1 hq2 with rfl|h2
     · exact A64 _
     · have:=hq q h2;omega
    ·
     refine ⟨p,A77 _ hp,fun q hq2=> ?_⟩
     rcases List.mem_cons.1 hq2 with rfl|h2
     · exact hx
     · exact hq q h2
 obtain ⟨p,hp,hq⟩:=hmax;obtain ⟨j,hj⟩:=A60 hp
 have hm:=Uj (l:=l) (places:=places) (p:=p) (fun q hq2=>by
  cases hi:inP l q p with
  |false=>rfl
  |true=>
   have hql:=hlt q hq2;have hn:l[q]? =some l[q]:=A61 hql;rw [Ia hn] at hi;have:=(h.ok q _ hn).lt p hi;have:=hq q hq2;omega) places.length j (List.getElem?_eq_some_iff.1 hj).1 hj
 intro e;unfold Dm at e;rw [e] at hm
 cases hm
theorem Oa {l:List Pn} {p:Nat->Bool} {d:Int}:∀(K:Nat),0<Bc l p d K->∃k m,k<K/\l[k]? =some m/\m.o.by_=d/\p k=true/\m.o.sq=Bc l p d K
 |0,h=>by unfold Bc at h;omega
 |K+1,h=>by
  have ih:=Oa (l:=l) (p:=p) (d:=d) K;unfold Bc at h ⊢
  cases hK:l[K]? with
  |none=>
   rw [hK] at h;dsimp only at h ⊢;obtain ⟨k,m,h1,h2⟩:=ih h;exact ⟨k,m,by omega,h2⟩
  |some n=>
   rw [hK] at h;dsimp only at h ⊢
   by_cases hc:(n.o.by_==d&&p K)=true
   ·
    rw [if_pos hc] at h ⊢
    rcases Int.le_total (Bc l p d K) n.o.sq with hle|hle
    ·
     rw [Int.max_eq_right hle];rw [A70,beq_iff_eq] at hc;exact ⟨K,n,by omega,hK,hc.1,hc.2,rfl⟩
    ·
     rw [Int.max_eq_left hle] at h ⊢;obtain ⟨k,m,h1,h2⟩:=ih h;exact ⟨k,m,by omega,h2⟩
   ·
    rw [if_neg hc] at h ⊢;obtain ⟨k,m,h1,h2⟩:=ih h;exact ⟨k,m,by omega,h2⟩
theorem Li (l:List Pn) (p:Nat->Bool) (d:Int):∀K,0<=Bc l p d K
 |0=>A78 _
 |K+1=>by
  have ih:=Li l p d K;unfold Bc
  split
  ·
   split
   · exact A83 ih (A84 _ _)
   · exact ih
  · exact ih
theorem Ob {l:List Pn} {p:Nat->Bool} {d m:Int} (h0:0<=m) (h:∀n∈l,n.o.sq<=m):∀K,Bc l p d K<=m
 |0=>h0
 |K+1=>by
  have ih:=Ob (l:=l) (p:=p) (d:=d) h0 h K;unfold Bc
  split
  ·
   rename_i n hn
   split
   · exact Int.max_le.2 ⟨ih,h n (A59 hn)⟩
   · exact ih
  · exact ih
theorem Uk {l:List Pn} {ids:List Id} {m:Int} (h0:0<=m) (h:∀id∈ids,Ct l id<=m):late l ids<=m:=by
 unfold late
 suffices H:∀t:Int,t<=m->ids.foldl (fun t id=>max t (Ct l id)) t<=m from H 0 h0
 induction ids with
 |nil=>intro t ht;exact ht
 |cons x r ih=>intro t ht;exact ih (fun y hy=>h y (A77 _ hy)) _ (Int.max_le.2 ⟨ht,h x A62⟩)
theorem Ul (l:List Pn) (ids:List Id):0<=late l ids:=by
 unfold late
 suffices H:∀t:Int,0<=t->0<=ids.foldl (fun t id=>max t (Ct l id)) t from H 0 (A78 _)
 induction ids with
 |nil=>intro t ht;exact ht
 |cons x r ih=>intro t ht;exact ih _ (A83 ht (A84 _ _))
def Dj (k:Int) (b s a:Int) (past:List Id) (e:Id) (y:List UInt8):Op:=if k=7 then {base b s 7 a past [] with of:=e,body:=y} else {base b s 4 a past [] with need:=0}
theorem Lj (k b s a:Int) (past:List Id) (e:Id) (y:List UInt8):(Dj k b s a past e y).past=past:=by unfold Dj;split<;>rfl
theorem Ja (k b s a:Int) (past:List Id) (e:Id) (y:List UInt8):(Dj k b s a past e y).by_=b:=by unfold Dj;split<;>rfl
theorem At6 (k b s a:Int) (past:List Id) (e:Id) (y:List UInt8):(Dj k b s a past e y).sq=s:=by unfold Dj;split<;>rfl
theorem Oc (k b s a:Int) (past:List Id) (e:Id) (y:List UInt8):(Dj k b s a past e y).at_=a:=by unfold Dj;split<;>rfl
theorem At7 (k b s a:Int) (past:List Id) (e:Id) (y:List UInt8):(Dj k b s a past e y).kind≠1:=by
 unfold Dj
 split
 ·
  show (7:Int)≠1
  decide
 ·
  show (4:Int)≠1
  decide
theorem At8 {k b s a:Int} {past:List Id} {e:Id} {y:List UInt8} (hb:1<=b/\b<=12) (hs:1<=s/\s<=2147483647) (ha:0<=a/\a<=2147483647) (hp:past.length<=12/\(∀x∈past,x.named=true)/\Row past/\past≠[]) (he:e.named=true) (hy:1<=y.length/\y.length<=20):(Dj k b s a past e y).chk=0:=by
 unfold Dj
 split
 · exact Zy ⟨by decide,hb,hs,ha,⟨hp.1,hp.2.1,hp.2.2.1,⟨fun h=>absurd h hp.2.2.2,fun h=>by cases h⟩⟩,⟨by decide,fun _ h=>absurd h A69,.inl rfl⟩⟩ he hy
 · exact Zx ⟨by decide,hb,hs,ha,⟨hp.1,hp.2.1,hp.2.2.1,⟨fun h=>absurd h hp.2.2.2,fun h=>by cases h⟩⟩,⟨by decide,fun _ h=>absurd h A69,.inl rfl⟩⟩
structure FkB (l:List Pn):Prop where
 sq:∀n∈l,n.o.sq<=l.length
 at_:∀n∈l,n.o.at_<=3*l.length
 by_:∀n∈l,1<=n.o.by_/\n.o.by_<=12
 s1:∀n∈l,1<=n.o.sq
 few:l.length<=14
def Jc (l:List Pn) (k b dt:Int) (hs:List Nat) (e:Id) (y:List UInt8):Op:=
 Dj k b (Bc l (Ak l (hs.map (nmP l))) b l.length+1) (dt+late l (hs.map (nmP l))) (Ba (hs.map (nmP l))) e y
theorem Um {l:List Pn} {xs ys:List Id} (h:xs.Perm ys):Ak l xs=Ak l ys:=by
 funext q;unfold Ak Cn C8;rw [h.any_eq,h.any_eq]
theorem At9 {cards:List Cd} {l:List Pn} (h:Rows cards l) (hB:FkB l) (hc:∀b:Int,1<=b->b<=4->∃c,Ev cards b=some c/\c.s=Sg.pub (sec Ca b.toNat)) {hs:List Nat} (hne:hs≠[]) (hnd:hs.Nodup) (h3:hs.length<=3) (hlt:∀p∈hs,p<l.length) (hanti:∀p∈hs,∀q∈hs,inP l q p=false)
  {k b dt:Int} (hb:1<=b/\b<=4) (hdt:0<=dt/\dt<=3) {e:Id} {y:List UInt8} (he:e.named=true) (hy:1<=y.length/\y.length<=20) (hnew:plc l (Jc l k b dt hs e y).name=none):Au cards l (sgn (Jc l k b dt hs e y))=0:=by
 obtain ⟨c,ai,al⟩:=hc b hb.1 hb.2;have ac:∀p∈hs,∃n,l[p]? =some n/\nmP l p=n.id:=fun p hp=>⟨_,A61 (hlt p hp),Gh (A61 (hlt p hp))⟩
 have ab:(hs.map (nmP l)).Nodup:=by
  rw [List.Nodup,List.pairwise_map];refine hnd.imp_of_mem (fun {p q} hp hq hpq e=>hpq ?_);obtain ⟨n,hn,e1⟩:=ac p hp;obtain ⟨m,hm,e2⟩:=ac q hq;have k1:=(h.ok p n hn).plc;have k2:=(h.ok q m hm).plc;rw [<- e1,e,e2,k2] at k1;injection k1 with k1
  exact k1.symm
 have aa:∀x∈Ba (hs.map (nmP l)),∃p n,p∈hs/\l[p]? =some n/\n.id=x/\plc l x=some p:=by
  intro x hx;obtain ⟨p,hp,rfl⟩:=List.mem_map.1 ((Dt _).mem_iff.1 hx);obtain ⟨n,hn,e1⟩:=ac p hp;exact ⟨p,n,hp,hn,e1.symm,by rw [e1];exact (h.ok p n hn).plc⟩
 have ak:∀n∈l,n.id.named=true:=by
  intro n hn;obtain ⟨i,hi⟩:=A60 hn;rw [(h.ok i n hi).id];refine T8 (hB.by_ n hn) ⟨hB.s1 n hn,?_⟩;have:=hB.sq n hn;have:=hB.few;omega
 have ao:=Li l (Ak l (hs.map (nmP l))) b l.length;have ag:Bc l (Ak l (hs.map (nmP l))) b l.length<=l.length:=Ob (by omega) hB.sq _
 have aj:late l (hs.map (nmP l))<=3*l.length:=by
  refine Uk (by omega) (fun x hx=> ?_);obtain ⟨p,hp,rfl⟩:=List.mem_map.1 hx;obtain ⟨n,hn,e1⟩:=ac p hp;rw [e1,Iu (h.ok p n hn).plc hn];exact hB.at_ n (A59 hn)
 have af:=hB.few;have ae:=Ul l (hs.map (nmP l));unfold Jc at hnew ⊢;generalize hS:Bc l (Ak l (hs.map (nmP l))) b l.length=S at*;generalize hT:late l (hs.map (nmP l))=T at*
 have ad:(Dj k b (S+1) (dt+T) (Ba (hs.map (nmP l))) e y).chk=0:=by
  refine At8 ⟨hb.1,by omega⟩ ⟨by omega,by omega⟩ ⟨by omega,by omega⟩ ⟨?_,?_,Zu ab,?_⟩ he hy
  · rw [(Dt _).length_eq,A67];omega
  ·
   intro x hx;obtain ⟨p,n,_,hn,rfl,_⟩:=aa x hx;exact ak n (A59 hn)
  ·
   intro e0;have:=(Dt (hs.map (nmP l))).length_eq;rw [e0,A67,List.length_nil] at this;exact hne (List.length_eq_zero_iff.1 this.symm)
 refine T7 ad hnew (by omega) (by rw [Ja];exact ai) (by rw [Ja];exact al) (.inl (At7 _ _ _ _ _ _ _)) ?_ ?_ ?_ ?_
 ·
  rw [Lj,Ba3];intro x hx;obtain ⟨p,n,_,_,_,h4⟩:=aa x hx;rw [h4];exact A85
 ·
  rw [Lj]
  cases hcl:clash l (Ba (hs.map (nmP l))) with
  |false=>rfl
  |true=>
   obtain ⟨x,hx,z,hz,hb⟩:=(N8 h.few).1 hcl;obtain ⟨p,n,hp,hn,_,h4⟩:=aa x hx;obtain ⟨q,m,hq,hm,_,h5⟩:=aa z hz;obtain ⟨i,j,m',e1,e2,e3,e4⟩:=bef_iff.1 hb;rw [h4] at e1;injection e1 with e1
   rw [h5] at e2;injection e2 with e2
   subst e1 e2;have:=hanti p hp q hq;rw [Ia e3,e4] at this
   cases this
 ·
  rw [Lj,Oc];refine Uk (by omega) (fun x hx=> ?_);have h1:Ct l x<=T:=by rw [<- hT];exact St ((Dt _).mem_iff.1 hx)
  omega
 ·
  rw [Lj];have ah:Ak l (Ba (hs.map (nmP l)))=Ak l (hs.map (nmP l)):=Um (Dt _);rw [ah];unfold Cu;rw [Ja,At6,hS,A96];refine ⟨decide_eq_false (by omega),?_⟩;rw [A97]
  rcases Int.lt_or_le 0 S with h0|h0
  ·
   right;rw [A98];obtain ⟨q,m,h1,h2,h4,h5,h6⟩:=Oa l.length (by rw [hS];exact h0);exact aheadTo_iff.2 ⟨q,m,h1,h2,h4,h5,by rw [h6,hS];omega⟩
  ·
   left;exact decide_eq_false (by omega)
theorem Dg:(zp.info? 28).map (·.size)=some 4:=by kernel_rfl
theorem Gi (v:Value):Instr.loadAt 28 v=ldS 28 v:=rfl
theorem Lk (p v:Value):Instr.storeAt 28 p v=stS 28 p v:=rfl
structure FG where
 cA:Option Addr
 cC:Nat
 cards:List Cd
 lA:Option Addr
 lC:Nat
 xs:List OpL
 iA:Option Addr
 iC:Nat
 pA:Option Addr
 pC:Nat
 ps:List UpL
 l:List Pn
def FG.ids (r:FG):List Id:=r.l.map Pn.id
def FG.cells (r:FG):Array Value:=#[.slice r.cA r.cards.length r.cC,.slice r.lA r.l.length r.lC,.slice r.iA r.l.length r.iC,.slice r.pA r.l.length r.pC]
def Ll (n:Pn) (xs:List Nat):Prop:=xs.Nodup/\∀q,q∈xs<->n.ps q=true
structure FG.own (w:World) (base:Nat) (r:FG):Prop where
 cards:RowAt w base 141 5 r.cA r.cards.length r.cC (r.cards.flatMap Cd.cells)
 ops:RowAt w base 52 27 r.lA r.l.length r.lC (r.xs.flatMap (fun x=>x.cells.toList))
 each:∀x∈r.xs,x.lies w base
 same:r.xs.map OpL.op=r.l.map Pn.o
 ok:∀n∈r.l,n.o.ok/\n.id.ok
 ids:RowAt w base 45 3 r.iA r.l.length r.iC (r.ids.flatMap Id.cells)
 pasts:RowAt w base 22 1 r.pA r.l.length r.pC (r.ps.map UpL.cell)
 eachP:∀x∈r.ps,x.own w base
 lenP:r.ps.length=r.l.length
 sameP:∀(i:Nat) (x:UpL) (n:Pn),r.ps[i]? =some x->r.l[i]? =some n->Ll n x.xs
 rows:Rows r.cards r.l
 num:FkB r.l
 cfew:r.cards.length<=1000
 cok:∀c∈r.cards,c.s<18446744073709551616
theorem FG.own.lower {w:World} {base base':Nat} {r:FG} (h:r.own w base) (hb:base'<=base):r.own w base' where
 cards:=h.cards.lower hb
 ops:=h.ops.lower hb
 each x hx:=(h.each x hx).lower hb
 same:=h.same
 ok:=h.ok
 ids:=h.ids.lower hb
 pasts:=h.pasts.lower hb
 eachP x hx:=RowAt.lower (h.eachP x hx) hb
 lenP:=h.lenP
 sameP:=h.sameP
 rows:=h.rows
 num:=h.num
 cfew:=h.cfew
 cok:=h.cok
theorem FG.own.keepP {S:Nat->Prop} {P:TypeId->Prop} {w w':World} {base:Nat} {r:FG} (h:r.own w base) (hf:Fr S w w') (hS:Types S w P) (h1:¬P 45) (h2:¬P 112) (h3:¬P 103) (h4:¬P 5) (h5:¬P 43) (h6:¬P 3) (h7:¬P 119)
  (h8:¬P 141) (h9:¬P 52) (h10:¬P 22):r.own w' base where
 cards:=h.cards.keepT hf (hS.not h8)
 ops:=h.ops.keepT hf (hS.not h9)
 each x hx:=(h.each x hx).keepP hf hS h1 h2 h3 h4 h5 h6 h7
 same:=h.same
 ok:=h.ok
 ids:=h.ids.keepT hf (hS.not h1)
 pasts:=h.pasts.keepT hf (hS.not h10)
 eachP x hx:=RowAt.keepT (h.eachP x hx) hf (hS.not h6)
 lenP:=h.lenP
 sameP:=h.sameP
 rows:=h.rows
 num:=h.num
 cfew:=h.cfew
 cok:=h.cok
theorem FG.own.non {w w':World} {base:Nat} {r:FG} (h:r.own w base) (hf:Fr Non w w'):r.own w' base:=
 h.keepP (P:=fun _=>False) hf (fun _ _ _ _ _ e=>e.elim) zq zq zq zq zq zq zq zq zq zq
theorem FG.own.rdIds {w:World} {base:Nat} {r:FG} (h:r.own w base):Rd w w.heap.size 3 r.iA r.l.length (r.ids.flatMap Id.cells):=h.ids.sl.rd
theorem FG.ids_len (r:FG):r.ids.length=r.l.length:=by simp [FG.ids]
theorem FG.ids_at {r:FG} {k:Nat} {n:Pn} (h:r.l[k]? =some n):r.ids[k]? =some n.id:=by
 unfold FG.ids;rw [A73,h];rfl
theorem FG.own.xAt {w:World} {base:Nat} {r:FG} (h:r.own w base) {i:Nat} {n:Pn} (hi:r.l[i]? =some n):
  ∃(x:OpL) (b off:Nat),r.xs[i]? =some x/\x.op=n.o/\x.lies w base/\r.lA=some ⟨b,off,none⟩/\b<w.heap.size/\∀j,j<27->∀u,x.cells.toList[j]? =some u->w.cell? ⟨b,off+i*27+j,none⟩=some u:=by
 have hm:(r.xs.map OpL.op)[i]? =some n.o:=by rw [h.same,A73,hi];rfl
 rw [A73] at hm
 cases hx:r.xs[i]? with
 |none=>rw [hx] at hm;cases hm
 |some x=>
  rw [hx] at hm;injection hm with hm
  obtain ⟨b,off,h1,h2,h3⟩:=Fy (f:=fun x:OpL=>x.cells.toList) (fun _=>rfl) (by omega) h.ops.sl.rd hx;exact ⟨x,b,off,rfl,hm,h.each x (A59 hx),h1,h2,h3⟩
theorem FG.own.idAt {w:World} {base:Nat} {r:FG} (h:r.own w base) {i:Nat} (hi:i<r.l.length):
  ∃(m:Pn) (b off:Nat),r.l[i]? =some m/\r.iA=some ⟨b,off,none⟩/\w.cell? ⟨b,off+i*3,none⟩=some (.int .i64 m.id.b)/\w.cell? ⟨b,off+i*3+1,none⟩=some (.int .i64 m.id.s)/\w.cell? ⟨b,off+i*3+2,none⟩=some (.int .u64 (m.id.u:Int)):=by
 obtain ⟨b,off,h1,_,h2,h3,h4⟩:=Id.at h.rdIds (FG.ids_at (A61 hi));exact ⟨_,b,off,A61 hi,h1,h2,h3,h4⟩
theorem FG.own.pAt {w:World} {base:Nat} {r:FG} (h:r.own w base) {i:Nat} {n:Pn} (hi:r.l[i]? =some n):
  ∃(x:UpL) (b off:Nat),Ll n x.xs/\x.own w base/\r.pA=some ⟨b,off,none⟩/\b<w.heap.size/\w.cell? ⟨b,off+i,none⟩=some x.cell/\x.xs.length<=r.l.length/\(∀q∈x.xs,q<i):=by
 have hlt:=(List.getElem?_eq_some_iff.1 hi).1;obtain ⟨x,hx⟩:∃x,r.ps[i]? =some x:=⟨_,A61 (by rw [h.lenP];exact hlt)⟩;have hk:=h.sameP i x n hx hi;obtain ⟨b,off,u,h1,h2,h3,h4⟩:=h.pasts.sl.rd.at hlt;rw [A73,hx] at h3;injection h3 with h3
 subst h3;have hq:∀q∈x.xs,q<i:=fun q hq=>(h.rows.ok i n hi).lt q ((hk.2 q).1 hq)
 have hl:x.xs.length<=r.l.length:=by
  have:=Fp hk.1 (ys:=List.range r.l.length) (fun q hm=>List.mem_range.2 (Nat.lt_trans (hq q hm) hlt));simpa using this
 exact ⟨x,b,off,hk,h.eachP x (A59 hx),h1,h2,h4,hl,hq⟩
def Dh (l0:List Int) (i:Nat):Nat:=match l0[i]? with|some q=>(Ee q 1000000).toNat|none=>0
def Em (l:List Pn) (d:Int):Nat->Int
 |0=> -1
 |k+1=>match l[k]? with|some n=>if n.o.by_=d then (k:Int) else Em l d k|none=>Em l d k
theorem Od (l:List Pn) (d:Int):∀k,-1<=Em l d k/\Em l d k<k
 |0=>⟨A78 _,show (-1:Int)<0 by decide⟩
 |k+1=>by
  have ih:=Od l d k;unfold Em
  split
  ·
   split
   · omega
   · omega
  · omega
end Oq
namespace Oq
attribute [local go_sem] A65 A66
theorem Au0 {l:List Int} {k:Nat} {q x:Int} (h:l[k]? =some x):(l.take (k+1)).contains q=((l.take k).contains q||decide (q=x)):=by
 rw [Df h,Bool.eq_iff_iff,A80,A88,A88,List.mem_append,A75,decide_eq_true_eq]
theorem Un (B n c:Nat) (A:Option Addr) (l:List Int) (x:Int) (w:World) (hn:Hid (l.length=n)) (hr:Rd w B 1 A n (l.map Iv)) (hnm:n<=1000000):
  Calls zp 37 #[.slice A n c,.int .i64 x] w fun e w'=>e=.returned (.bool (l.contains x))/\Fr Non w w':=by
 go_enter func37,ntmps37;go_wp2
 go_loopw [5] (fun v wr=>∃k:Nat,v=.int .i64 (k:Int)/\k<=n/\Hid ((l.take k).contains x=false)/\w=wr) (fun v _=>n-(intOf v).toNat)
 case atStart=>exact ⟨0,rfl,by omega,rfl,rfl⟩
 case round=>
  obtain ⟨k,rfl,hk,hh,rfl⟩:=hrel
  by_cases hlt:k<n
  ·
   obtain ⟨y,hy⟩:∃y,l[k]? =some y:=⟨_,A61 (by rw [hn.out];exact hlt)⟩;obtain ⟨b,off,u,rfl,hbB,hu,c0⟩:=hr.at hlt;rw [A73,hy] at hu;injection hu with hu
   subst hu;have c0':cI w b (off+k) y:=c0;clear c0;have hsn:=lh (Au0 (q:=x) hy);obtain ⟨i1,i2,i3⟩:=ix k n
   by_cases he:y=x
   ·
    have hb:(y==x)=true:=beq_iff_eq.2 he
    have hfin:Hid (l.contains x=true):=by
     show _=_;rw [A88];exact he▸A59 hy
    clear hy he;go_wp2
    go_ret
    exact ⟨by rw [hfin.out];rfl,Fr.refl _ _⟩
   ·
    have hb:(y==x)=false:=beq_eq_false_iff_ne.2 he
    have hfin:Hid ((l.take (k+1)).contains x=false):=by
     show _=_;rw [hsn.out,hh.out,decide_eq_false (fun e=>he e.symm)];rfl
    clear hy he;go_wp2;go_roundw
    case rel=>exact ⟨k+1,by go_num,by omega,hfin,by first|rfl|trivial⟩
    case measure=>first|(simp [intOf];done)|(simp [intOf];omega)
  ·
   obtain rfl:k=n:=by omega
   have hfin:Hid (l.contains x=false):=by have h:=hh.out;rw [A68 (by rw [hn.out];omega)] at h;exact h
   go_wp2
   go_ret
   exact ⟨by rw [hfin.out];rfl,Fr.refl _ _⟩
end Oq
namespace Oq
def Br (l:List Pn) (a b:Id):Bool:=decide (Ao l a<Ao l b)||(Ao l a==Ao l b&&Id.less a b)
theorem rkLess_iff {l:List Pn} {a b:Id}:Br l a b=true<->Ao l a<Ao l b\/(Ao l a=Ao l b/\Id.less a b=true):=by
 unfold Br;rw [A80,A70,decide_eq_true_iff,beq_iff_eq]
theorem Au1 (l:List Pn) (a:Id):Br l a a=false:=by
 cases h:Br l a a with
 |false=>rfl
 |true=>
  rcases rkLess_iff.1 h with h|⟨_,h⟩
  · omega
  · rw [Id.less_irr] at h;cases h
theorem Oe {l:List Pn} {a b:Id} (h:Br l a b=true):Br l b a=false:=by
 cases h2:Br l b a with
 |false=>rfl
 |true=>
  rcases rkLess_iff.1 h with h|⟨_,h⟩<;>rcases rkLess_iff.1 h2 with h2|⟨_,h2⟩
  · omega
  · omega
  · omega
  · rw [Id.less_as h] at h2;cases h2
theorem Jd (l:List Pn) (a b:Id):Br l a b=true\/a=b\/Br l b a=true:=by
 rcases Nat.lt_trichotomy (Ao l a) (Ao l b) with h|h|h
 · exact .inl (rkLess_iff.2 (.inl h))
 ·
  rcases Id.less_tot a b with h2|h2|h2
  · exact .inl (rkLess_iff.2 (.inr ⟨h,h2⟩))
  · exact .inr (.inl h2)
  · exact .inr (.inr (rkLess_iff.2 (.inr ⟨h.symm,h2⟩)))
 · exact .inr (.inr (rkLess_iff.2 (.inl h)))
theorem Of {l:List Pn} {a b c:Id} (h1:Br l a b=true) (h2:Br l b c=true):Br l a c=true:=by
 rcases rkLess_iff.1 h1 with h1|⟨e1,h1⟩<;>rcases rkLess_iff.1 h2 with h2|⟨e2,h2⟩
 · exact rkLess_iff.2 (.inl (by omega))
 · exact rkLess_iff.2 (.inl (by omega))
 · exact rkLess_iff.2 (.inl (by omega))
 · exact rkLess_iff.2 (.inr ⟨by omega,Id.less_tr h1 h2⟩)
def RowK (l:List Pn) (ids:List Id):Prop:=ids.Pairwise (fun a b=>Br l b a=false)
theorem Uo {α:Type} {r:α->α->Prop} (anti:∀a b,r a b->r b a->a=b):∀{xs ys:List α},xs.Pairwise r->ys.Pairwise r->xs.Perm ys->xs=ys
 |[],ys,_,_,h=>(List.Perm.nil_eq h)
 |x::xs,[],_,_,h=>by have:=h.length_eq;simp at this
 |x::xs,y::ys,h1,h2,h=>by
  rw [List.pairwise_cons] at h1 h2
  have hxy:x=y:=by
   have hx:x∈y::ys:=h.mem_iff.1 A62;have hy:y∈x::xs:=h.mem_iff.2 A62
   rcases List.mem_cons.1 hx with e|hx
   · exact e
   rcases List.mem_cons.1 hy with e|hy
   · exact e.symm
   exact anti x y (h1.1 y hy) (h2.1 x hx)
  subst hxy;rw [Uo anti h1.2 h2.2 (List.Perm.cons_inv h)]
theorem RowK.unique {l:List Pn} {xs ys:List Id} (h1:RowK l xs) (h2:RowK l ys) (hp:xs.Perm ys):xs=ys:=
 Uo (fun a b ha hb=>by
  rcases Jd l a b with h|h|h
  · rw [hb] at h;cases h
  · exact h
  · rw [ha] at h;cases h) h1 h2 hp
def Dw (l:List Pn) (x:Id):List Id->List Id
 |[]=>[x]
 |y::r=>if Br l y x=true then y::Dw l x r else x::y::r
def Ck (l:List Pn) (ids:List Id):List Id:=ids.foldl (fun out x=>Dw l x out) []
theorem Og (l:List Pn) (x:Id):∀ys,(Dw l x ys).Perm (x::ys)
 |[]=>List.Perm.refl _
 |y::r=>by
  unfold Dw
  split
  · exact ((Og l x r).cons y).trans (List.Perm.swap x y r)
  · exact List.Perm.refl _
theorem Up {l:List Pn} {x:Id}:∀{ys:List Id},RowK l ys->RowK l (Dw l x ys)
 |[],_=>List.pairwise_singleton _ _
 |y::r,h=>by
  have h':=List.pairwise_cons.1 h;unfold Dw
  split
  ·
   rename_i hyx;refine List.pairwise_cons.2 ⟨fun z hz=> ?_,Up h'.2⟩;have hz2:=(Og l x r).mem_iff.1 hz
   rcases List.mem_cons.1 hz2 with e|hz3
   ·
    rw [e];exact Oe hyx
   · exact h'.1 z hz3
  ·
   rename_i hyx;refine List.pairwise_cons.2 ⟨fun z hz=> ?_,h⟩;have hyx':Br l y x=false:=A90 _▸hyx
   rcases List.mem_cons.1 hz with e|hzr
   · rw [e];exact hyx'
   ·
    cases hzx:Br l z x with
    |false=>rfl
    |true=>
     rcases Jd l x y with h1|h1|h1
     ·
      have h2:=Of hzx h1;rw [h'.1 z hzr] at h2;cases h2
     ·
      subst h1;rw [h'.1 z hzr] at hzx;cases hzx
     · rw [hyx'] at h1;cases h1
theorem Oh (l:List Pn):∀(ids out:List Id),RowK l out->RowK l (ids.foldl (fun out x=>Dw l x out) out)/\(ids.foldl (fun out x=>Dw l x out) out).Perm (out++ids)
 |[],out,h=>⟨h,by rw [List.append_nil];exact List.Perm.refl _⟩
 |x::r,out,h=>by
  obtain ⟨h1,h2⟩:=Oh l r (Dw l x out) (Up h);refine ⟨h1,h2.trans ?_⟩;refine ((Og l x out).append_right r).trans ?_;exact (A87 (a:=x) (l₁:=out) (l₂:=r)).symm
theorem Oi (l:List Pn) (ids:List Id):RowK l (Ck l ids):=(Oh l ids [] List.Pairwise.nil).1
theorem Gj (l:List Pn) (ids:List Id):(Ck l ids).Perm ids:=by
 have:=(Oh l ids [] List.Pairwise.nil).2;rwa [List.nil_append] at this
theorem Oj {l:List Pn} {xs ids:List Id} (h:RowK l xs) (hp:xs.Perm ids):xs=Ck l ids:=h.unique (Oi l ids) (hp.trans (Gj l ids).symm)
theorem Au2 (l:List Pn) (ids:List Id):(Ck l ids).length=ids.length:=(Gj l ids).length_eq
theorem Au3 {l m:List Pn} {ids:List Id} (h:∀x∈ids,Ao l x=Ao m x):Ck l ids=Ck m ids:=by
 refine Oj ?_ (Gj l ids);refine (Oi l ids).imp_of_mem (fun {a b} ha hb hab=> ?_);have e1:=h a ((Gj l ids).mem_iff.1 ha);have e2:=h b ((Gj l ids).mem_iff.1 hb);unfold Br at hab ⊢;rw [<- e1,<- e2];exact hab
