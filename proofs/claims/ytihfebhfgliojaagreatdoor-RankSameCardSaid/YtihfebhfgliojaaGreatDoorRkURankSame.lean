/-
  huddlelaw14.RankSame: in whatever row operations came, and in whatever row they are handed in: one row, and the same seniors.
    Conditions: op.kinds lies as its text lays it; the numbers read.
  RankSame: whatever the input is, where the one listed variable is as its text lays it, the law returns true, and nothing that was there has turned.
    Condition: none.
  RankSame: the tied card.
    Condition: none.
-/
import Derived.JoinedOf
import Derived.RowKitTokens
import Derived.LaidLaws
import Derived.Test.YtihfebhfgliojaaGreatDoorTie
import Derived.Test.YtihfebhfgliojaaGreatDoorCards
import Derived.SevenTiedAt
import Derived.Test.YtihfebhfgliojaaGreatDoorRkU19
set_option maxRecDepth 100000
set_option maxHeartbeats 16000000
open Bool renaming not_eq_true'->Az0,false_ne_true->Az5
open List renaming getElem?_eq_getElem->Ax3,length_append->Ax4,getElem?_map->Ax5,mem_of_getElem?->Ax6,length_map->Ax7,range->Ax8,length_range->Ax9,getElem?_of_mem->Ay1,map_append->Ay2,flatMap_cons->Ay5,mem_map_of_mem->Ay7,append_nil->Ay8,take_length->Ay9,take_append_of_le_length->Az1,nodup_range->Az2,getElem?_eq_none->Az3,drop_eq_getElem_cons->Az4,contains_iff_mem->Az6,flatMap_append->Az8,flatMap_nil->Az9,drop_length->A00,length_reverse->A01
open Nat renaming le_trans->Ay0,zero_le->Ay4,le_refl->Ay6
open Go.World renaming size_alloc->Ay3,block_lt_of_cell?->Az7
open Go.Proofs.Tryz
open Go.Proofs.Tryz renaming prog->zp
open Go.Lib renaming hid->lh
open List renaming set->zl
open Go.Ending renaming returned->ze
namespace Go.Proofs.YtihfebhfgliojaaGreatDoor
open Go.RowKit
namespace Oq
theorem Av4 {l:List Pn} {xs ys:List Id} (hp:xs.Perm ys):Af l xs=Af l ys:=N4 (Kr l xs) ((Ek l xs).trans hp)
theorem Av5 {l m:List Pn} {ids:List Id} (h:∀x∈ids,Aj l x=Aj m x):Af l ids=Af m ids:=by
 refine N4 ?_ (Ek l ids);refine (Kr l ids).imp_of_mem (fun {a b} ha hb hab=> ?_);have e1:=h a ((Ek l ids).mem_iff.1 ha);have e2:=h b ((Ek l ids).mem_iff.1 hb);unfold Bg at hab ⊢;rw [<- e1,<- e2];exact hab
structure C7 (l:List Pn) (ps:List Nat):Prop where
 nd:ps.Nodup
 lt:∀p∈ps,p<l.length
 par:∀(j p:Nat),ps[j]? =some p->∀q∈Bt l p,q∈ps.take j
theorem C7.nil (l:List Pn):C7 l []:=⟨List.nodup_nil,fun _ h=>absurd h List.not_mem_nil,fun j p h=>by simp at h⟩
def Er (l:List Pn) (ps:List Nat) (i k:Nat):Bool:=!ps.contains i&&((Bt l i).take k).all (fun q=>ps.contains q)
def Ga (l:List Pn) (ps:List Nat) (i:Nat):Bool:=Er l ps i (Bt l i).length
theorem Av6 (l:List Pn) (ps:List Nat) (i:Nat):Er l ps i 0=!ps.contains i:=by
 unfold Er;rw [List.take_zero,List.all_nil,Bool.and_true]
theorem Av7 {l:List Pn} {ps:List Nat} {i k q:Nat} (h:(Bt l i)[k]? =some q):Er l ps i (k+1)=(Er l ps i k&&ps.contains q):=by
 unfold Er;rw [Db h,List.all_append,List.all_cons,List.all_nil,Bool.and_true,Bool.and_assoc]
theorem readyAt_iff {l:List Pn} {ps:List Nat} {i:Nat}:Ga l ps i=true<->i∉ps/\∀q∈Bt l i,q∈ps:=by
 unfold Ga Er;rw [Ay9,Bool.and_eq_true,Az0,List.all_eq_true];constructor
 ·
  rintro ⟨h1,h2⟩;exact ⟨fun h=>(by rw [List.contains_iff_mem.2 h] at h1;cases h1),fun q hq=>List.contains_iff_mem.1 (h2 q hq)⟩
 ·
  rintro ⟨h1,h2⟩;refine ⟨?_,fun q hq=>List.contains_iff_mem.2 (h2 q hq)⟩;rw [Bool.eq_false_iff];exact fun h=>h1 (List.contains_iff_mem.1 h)
theorem C7.snoc {l:List Pn} {ps:List Nat} (h:C7 l ps) {i:Nat} (hi:i<l.length) (hr:Ga l ps i=true):C7 l (ps++[i]):=by
 obtain ⟨h1,h2⟩:=readyAt_iff.1 hr;refine ⟨List.nodup_append.2 ⟨h.nd,by simp,fun a ha b hb=> ?_⟩,fun p hp=> ?_,fun j p hj q hq=> ?_⟩
 ·
  rw [List.mem_singleton.1 hb];rintro rfl;exact h1 ha
 ·
  rcases List.mem_append.1 hp with hp|hp
  · exact h.lt p hp
  · rw [List.mem_singleton.1 hp];exact hi
 ·
  rcases Nat.lt_or_ge j ps.length with hlt|hge
  ·
   rw [List.getElem?_append_left hlt] at hj;rw [Az1 (Nat.le_of_lt hlt)];exact h.par j p hj q hq
  ·
   have hjl:=(List.getElem?_eq_some_iff.1 hj).1;rw [Ax4,List.length_singleton] at hjl;have e:j=ps.length:=by omega
   rw [e,List.getElem?_append_right (Ay6 _),Nat.sub_self,List.getElem?_cons_zero] at hj;injection hj with hj
   subst hj;rw [e,Az1 (Ay6 _),Ay9];exact h2 q hq
theorem Av8 {cards:List Cd} {l:List Pn} (h:Rows cards l) {i q:Nat} (hq:q∈Bt l i):q<i:=by
 unfold Bt at hq
 cases hn:l[i]? with
 |none=>rw [hn] at hq;cases hq
 |some n=>
  rw [hn] at hq;unfold Ap at hq;obtain ⟨x,hx,rfl⟩:=List.mem_map.1 hq;obtain ⟨p,h1,h2⟩:=(h.ok i n hn).par x hx;rw [h2];exact h1
theorem C7.len {l:List Pn} {ps:List Nat} (h:C7 l ps):ps.length<=l.length:=by
 have:=Hl (m:=Ax8 l.length) h.nd (fun p hp=>List.mem_range.2 (h.lt p hp));rwa [Ax9] at this
theorem C7.next {cards:List Cd} {l:List Pn} (hr:Rows cards l) {ps:List Nat} (hlt:ps.length<l.length):∃i,i<l.length/\Ga l ps i=true:=by
 refine Classical.byContradiction fun hno=> ?_
 have hall:∀i,i<l.length->i∈ps:=by
  intro i
  induction i using Nat.strongRecOn with
  |_ i ih=>
   intro hi;refine Classical.byContradiction fun hni=>hno ⟨i,hi,readyAt_iff.2 ⟨hni,fun q hq=> ?_⟩⟩;have:=Av8 hr hq;exact ih q this (by omega)
 have:=Hl (l:=Ax8 l.length) (m:=ps) Az2 (fun p hp=>hall p (List.mem_range.1 hp));rw [Ax9] at this;omega
def Ee (l:List Pn) (ps:List Nat) (i:Nat):List Nat:=(Ax8 i).filter (Ga l ps)
theorem Av9 (l:List Pn) (ps:List Nat) (i:Nat):Ee l ps (i+1)=Ee l ps i++if Ga l ps i=true then [i] else []:=by
 unfold Ee;rw [List.range_succ,List.filter_append];congr 1
 by_cases h:Ga l ps i=true
 · rw [if_pos h,List.filter_cons_of_pos h,List.filter_nil]
 · rw [if_neg h,List.filter_cons_of_neg h,List.filter_nil]
theorem Aw0 (l:List Pn) (ps:List Nat) (i:Nat):(Ee l ps i).length<=i:=Ay0 (List.length_filter_le _ _) (by rw [Ax9];exact Ay6 _)
theorem Od {l:List Pn} {ps:List Nat} {i p:Nat} (h:p∈Ee l ps i):p<i/\Ga l ps p=true:=by
 unfold Ee at h;obtain ⟨h1,h2⟩:=List.mem_filter.1 h;exact ⟨List.mem_range.1 h1,h2⟩
theorem Aw1 {cards:List Cd} {l:List Pn} (hr:Rows cards l) {ps:List Nat} (hlt:ps.length<l.length):0<(Ee l ps l.length).length:=by
 obtain ⟨i,h1,h2⟩:=C7.next hr hlt;exact List.length_pos_of_mem (List.mem_filter.2 ⟨List.mem_range.2 h1,h2⟩)
def opP (l:List Pn) (p:Nat):Op:=(l[p]?.map Pn.o).getD Op.zero
theorem Lj {l:List Pn} {p:Nat} {n:Pn} (h:l[p]? =some n):opP l p=n.o:=by unfold opP;rw [h];rfl
theorem Aw2 {l:List Pn} {ps:List Nat} (h:C7 l ps) (hl:ps.length=l.length):(ps.map (opP l)).Perm (l.map Pn.o):=by
 have hp:ps.Perm (Ax8 l.length):=(List.perm_ext_iff_of_nodup h.nd Az2).2 fun x=>by
  rw [List.mem_range];refine ⟨h.lt x,fun hx=>Classical.byContradiction fun hn=> ?_⟩
  have:=Hl (l:=x::ps) (m:=Ax8 l.length) (List.nodup_cons.2 ⟨hn,h.nd⟩) (fun p hp=>by
   rcases List.mem_cons.1 hp with e|e
   · rw [e];exact List.mem_range.2 hx
   · exact List.mem_range.2 (h.lt p e))
  rw [List.length_cons,Ax9] at this;omega
 refine (hp.map (opP l)).trans (List.Perm.of_eq ?_);apply List.ext_getElem?;intro i;rw [Ax5,Ax5]
 rcases Nat.lt_or_ge i l.length with hi|hi
 ·
  rw [List.getElem?_range hi,Ax3 hi];show some (opP l i)=some _;rw [Lj (Ax3 hi)]
 ·
  rw [Az3 (by rw [Ax9];exact hi),Az3 hi];rfl
theorem Aw3 {cards:List Cd} {l:List Pn} (hr:Rows cards l) {ps:List Nat} (h:C7 l ps) (hl:ps.length=l.length):Cn cards l [] ((ps.drop 0).map (opP l)):=
 ⟨hr,.nil,by rw [List.drop_zero,List.map_nil,List.nil_append];exact Aw2 h hl⟩
theorem Aw4 {cards:List Cd} {l m:List Pn} (hr:Rows cards l) {ps:List Nat} (hT:C7 l ps) {i p:Nat} (hR:Cn cards l m ((ps.drop i).map (opP l))) (hm:m.map Pn.o=(ps.take i).map (opP l)) (hp:ps[i]? =some p) (h200:l.length<200):
  An cards m (opP l p)=0/\Cn cards l (m++[Be m (opP l p)]) ((ps.drop (i+1)).map (opP l))/\(m++[Be m (opP l p)]).map Pn.o=(ps.take (i+1)).map (opP l):=by
 have hpl:=hT.lt p (Ax6 hp);have hn:=Ax3 hpl;have hi:=(List.getElem?_eq_some_iff.1 hp).1
 have hd:ps.drop i=p::ps.drop (i+1):=by
  rw [Az4 hi,(List.getElem?_eq_some_iff.1 hp).2]
 have hk:((ps.drop i).map (opP l))[0]? =some (opP l p):=by rw [hd];rfl
 have hrd:ready m (opP l p)=true:=by
  unfold ready;rw [Az0,List.any_eq_false];intro id hid;rw [Lj hn] at hid;obtain ⟨q,hq,hpq⟩:=(hr.ok p _ hn).par id hid
  have hqu:q∈Bt l p:=by
   unfold Bt;rw [hn];unfold Ap;exact List.mem_map.2 ⟨id,hid,by rw [hpq];rfl⟩
  have hqt:=hT.par i p hp q hqu;obtain ⟨n2,hn2,e⟩:=Bk hpq
  have h1:n2.o∈m.map Pn.o:=by
   rw [hm];exact List.mem_map.2 ⟨q,hqt,Lj hn2⟩
  obtain ⟨n3,h3,h4⟩:=List.mem_map.1 h1;obtain ⟨j,hj⟩:=Ay1 h3;have e2:n3.id=id:=by rw [(hR.rm.ok j n3 hj).id,h4,<- (hr.ok q n2 hn2).id,e]
  have:=(hR.rm.ok j n3 hj).plc;rw [e2] at this;rw [this];exact Az5
 have he:=hR.err h200 (Ax6 hk);rw [if_pos hrd] at he;have ht:=hR.take h200 hk hrd;rw [hd] at ht;refine ⟨he,ht,?_⟩;rw [Ay2,hm,Db hp,Ay2];rfl
theorem Cn.by {cards:List Cd} {l m:List Pn} (h:Cn cards l m []) {x:Id} (hx:x∈l.map Pn.id):Aw m x=Aw l x:=by
 obtain ⟨n,h1,rfl⟩:=List.mem_map.1 (h.ends.mem_iff.2 hx);obtain ⟨j,hj⟩:=Ay1 h1;have hpj:=(h.rm.ok j n hj).plc
 have ha:n.o∈l.map Pn.o:=by
  have:=h.perm.mem_iff.1 (List.mem_append_left _ (Ay7 h1));exact this
 obtain ⟨n2,h2,h3⟩:=List.mem_map.1 ha;obtain ⟨i,hi⟩:=Ay1 h2;have e:n2.id=n.id:=by rw [(h.rl.ok i n2 hi).id,h3,<- (h.rm.ok j n hj).id]
 have hpi:=(h.rl.ok i n2 hi).plc;rw [e] at hpi;rw [Ib hpj hj,Ib hpi hi,h3]
theorem Uq {l m:List Pn} {row:List Id} (h:∀x∈row,Aw m x=Aw l x):∀k,Ch m row k=Ch l row k
 |0=>rfl
 |k+1=>by
  unfold Ch;rw [Uq h k]
  cases hx:row[k]? with
  |none=>rfl
  |some x=>
   dsimp only;rw [h x (Ax6 hx)]
theorem Aw5 {cards:List Cd} {l m:List Pn} (h:Cn cards l m []) {ids:List Id} (hs:∀x∈ids,x∈l.map Pn.id) {back:List Id} (hb:back.Perm ids):Af m back=Af l ids/\Ce m (Af l ids)=Ce l (Af l ids):=by
 have h1:Af m back=Af l ids:=by
  rw [Av4 hb];exact Av5 (fun x hx=>h.lev (hs x hx))
 refine ⟨h1,?_⟩;unfold Ce;exact Uq (fun x hx=>h.by (hs x ((Ek l ids).mem_iff.1 hx))) _
end Oq
section
attribute [local go_sem ↓] Go.wp_at_zero Go.wp_at_succ
namespace Oq
attribute [local go_sem] Bool.not_false Bool.not_true
attribute [local go_sem ↓] Cj Nt
def lenV:Value->Nat
 | .slice _ n _=>n
 |_=>0
def Hp (r:RG) (p:Nat):Array Value:=((r.xs[p]?).map OpL.cells).getD #[]
def Oe (r:RG) (w:World) (e:Ending) (w':World):Prop:=
 ∃(ps:List Nat) (A:Option Addr) (c:Nat),e=.returned (.slice A r.l.length c)/\C7 r.l ps/\ps.length=r.l.length/\Own w' w.heap.size 44 27 A r.l.length c (ps.flatMap (fun p=>(Hp r p).toList))/\Fr Non w w'
theorem Aw6 (ps:List Nat) (q:Nat):(ps.map (fun x:Nat=>(x:Int))).contains (q:Int)=ps.contains q:=by
 rw [Bool.eq_iff_iff,Az6,Az6,List.mem_map];constructor
 ·
  rintro ⟨a,h1,h2⟩;have e:a=q:=by omega
  rw [<- e];exact h1
 ·
  intro h;exact ⟨q,h,rfl⟩
theorem Aw7 (base B n c:Nat) (r:RG) (A:Option Addr) (l0:List Int) (w:World) (h:r.own w base) (_hn:Hid (l0.length=n)) (hr:Rd w B 1 A n (l0.map Iv)) (hok:∀x∈l0,I64 x) (h14:r.l.length<=14):
  Calls zp 25 #[.agg r.cells,.slice A n c] w (Oe r w):=by
 have bg:=Blk.new w 32 r.cells;have f0:Fr Non w (w.alloc (.cells r.cells 32)):=(Fr.refl Non w).alloc _;have g1:Hid (r.cells[1]? =some (.slice r.lA r.l.length r.lC)):=rfl;have g3:Hid (r.cells[3]? =some (.slice r.uA r.l.length r.uC)):=rfl
 have ci:Hid (∀i,i<r.l.length->∃(A2:Option Addr) (c2 b ad:Nat),r.uA=some ⟨b,ad,none⟩/\cS w b (ad+i) A2 ((Bt r.l i).length) c2/\(Bt r.l i).length<=1000/\Rd w w.heap.size 1 A2 (Bt r.l i).length ((Bt r.l i).map Qv)):=by
  intro i hi;have aa:=Ax3 hi;obtain ⟨x,b,ad,h1,h2,h3,_,h4⟩:=h.uAt aa;rw [Jp aa];refine ⟨x.A,x.c,b,ad,h3,?_,?_,?_⟩
  · rw [<- h1];exact h4
  ·
   rw [Gh];exact (h.ok _ (Ax6 aa)).1.past.1
  · rw [<- h1];exact h2.sl.rd
 have ce:Hid (∀p,p<r.l.length->∃(x:OpL) (b ad:Nat),Hp r p=x.cells/\r.lA=some ⟨b,ad,none⟩/\RgAt w b (ad+p*27) x.cells.toList):=by
  intro p hp;obtain ⟨x,b,ad,h1,_,_,h2,_,h3⟩:=h.xAt (Ax3 hp);refine ⟨x,b,ad,by unfold Hp;rw [h1];rfl,h2,fun k v hv=>h3 k (List.getElem?_eq_some_iff.1 hv).1 v hv⟩
 have cg:Hid (∀ps i,Er r.l ps i 0=!ps.contains i):=Av6 r.l;have cr:Hid (∀ps i k q,(Bt r.l i)[k]? =some q->Er r.l ps i (k+1)=(Er r.l ps i k&&ps.contains q)):=fun ps i k q hq=>Av7 hq;have b7:Hid (∀ps i,Ee r.l ps (i+1)=Ee r.l ps i++if Er r.l ps i (Bt r.l i).length=true then [i] else []):=Av9 r.l;have cq:Hid (∀ps,Ee r.l ps 0=[]):=fun _=>rfl;have cp:Hid (∀ps i,(Ee r.l ps i).length<=i):=Aw0 r.l;have a0:Hid (∀ps p,C7 r.l ps->p∈Ee r.l ps r.l.length->p<r.l.length/\C7 r.l (ps++[p])):=fun ps p hT hp=>⟨(Od hp).1,hT.snoc (Od hp).1 (Od hp).2⟩;have ah:Hid (∀ps,ps.length<r.l.length->0<(Ee r.l ps r.l.length).length):=fun ps hp=>Aw1 h.rows hp;have df:Hid (∀ps,C7 r.l ps->ps.length<=r.l.length):=fun ps hT=>hT.len;have cz:Hid (C7 r.l []):=C7.nil r.l;unfold Oe;clear h;generalize Hp r=xc at*;generalize C7 r.l=TP at*;generalize Ee r.l=ML at*;generalize Er r.l=RT at*;generalize Bt r.l=US at*;generalize r.l.length=N at*;generalize r.lA=LA at*;generalize r.lC=LC at*;generalize r.uA=UA at*;generalize r.uC=UC at*;generalize r.cells=CS at*;go_enter func25,ntmps25;go_upto_region 1 with (fail)
 have cx:=f0.size;have dk:w.heap.size<(w.alloc (.cells CS 32)).heap.size:=by rw [Ay3];omega
 generalize w.alloc (.cells CS 32)=w0 at*;have bv:=bg;clear bg;go_wp2_with fail
 go_loopw [5,6] (fun sd so wr=>∃(ps:List Nat) (Ad Ao:Option Addr) (cd co:Nat),sd=.slice Ad ps.length cd/\so=.slice Ao ps.length co/\Hid (TP ps)/\ps.length<=N/\Own wr w0.heap.size 3 1 Ad ps.length cd (ps.map Qv)/\Own wr w0.heap.size 44 27 Ao ps.length co (ps.flatMap (fun p=>(xc p).toList))/\Fr Non w0 wr) (fun sd _ _=>N-lenV sd)
 case atStart=>exact ⟨[],none,none,0,0,rfl,rfl,cz.out,Ay4 _,Own.nil _ _ _ _,Own.nil _ _ _ _,Fr.refl _ _⟩
 case round=>
  obtain ⟨ps,Ad,Ao,cd,co,rfl,rfl,hT,dc,ba,bc,hf⟩:=hrel;have c1:cS wr w.heap.size 1 LA N LC:=((bv.fr hf zq).cell 1).trans g1.out;obtain ⟨M,hM⟩:=Aa ps.length;rw [hM.out] at dc ba bc ⊢
  by_cases hlt:M<N
  ·
   have t1:decide ((M:Int)<(N:Int))=true:=decide_eq_true (by omega);have kH:=lh (fun (q:Nat) (v:World) (B:Nat) (hr:Rd v B 1 Ad M (ps.map Qv))=>Uf B M cd Ad (ps.map (fun x:Nat=>(x:Int))) (q:Int) v (show Hid _ by show (ps.map (fun x:Nat=>(x:Int))).length=M;rw [Ax7,hM.out]) (by rw [List.map_map];exact hr) (by omega));simp only [Aw6] at kH;have ap:=ba.rd;have ay:=lh (b7.out ps);have a3:=lh (cg.out ps);have az:=lh (cr.out ps);have a8:=lh (cq.out ps);have bd:=lh (cp.out ps);have af:=lh (a0.out ps);have be:=lh (ah.out ps (by rw [hM.out];exact hlt));clear b7 cg cr cq cp a0 ah;generalize ML ps=MP at*;generalize RT ps=RP at*;generalize wr=wo at*;clear wr;go_wp2_with fail
   go_loopw [7,8] (fun sm v wi=>∃(i:Nat) (Am:Option Addr) (cm:Nat) (ms:List Nat),v=.int .i64 (i:Int)/\sm=.slice Am ms.length cm/\i<=N/\Hid (ms=MP i)/\Own wi wo.heap.size 3 1 Am ms.length cm (ms.map Qv)/\Fr Non wo wi) (fun _ v _=>N-(intOf v).toNat)
   case atStart=>exact ⟨0,none,0,[],rfl,rfl,Ay4 _,a8.out.symm,Own.nil _ _ _ _,Fr.refl _ _⟩
   case round=>
    obtain ⟨i,Am,cm,ms,rfl,rfl,hi,ah,ax,ag⟩:=hrel;have a1:ms.length<=i:=by rw [ah.out];exact bd.out i
    have cf:=ag.cell c1 zq;have ao:∀k,Ae Am=some k->wo.heap.size<=k:=fun k hk=>(ax.row k hk).1
    by_cases hit:i<N
    ·
     obtain ⟨i1,i2,i3⟩:=ix i N
     obtain ⟨A2,c2,b2,o2,rfl,bs,cu,ak⟩:=ci.out i hit;have bp:=lh (kH.out i wr _ (ap.fr ag zr));have ae:=lh (ay.out i);have b1:=lh (az.out i);have bj:=lh (a3.out i);obtain ⟨us,dd⟩:=Aa (US i);rw [dd.out] at bs cu ak ae b1;obtain ⟨L,hL⟩:=Aa us.length;rw [hL.out] at bs cu ak ae;obtain ⟨RK,cb⟩:∃RK:Nat->Bool,(fun k=>RP i k)=RK:=⟨_,rfl⟩;have a2:∀k,RP i k=RK k:=fun k=>congrFun cb k;simp only [a2] at ae b1 bj;clear cb a2;obtain ⟨PC,db⟩:=Aa (ps.contains i);rw [db.out] at bp bj;obtain ⟨c4,al⟩:=Aa (!PC);rw [al.out] at bj;have bt:(!PC)=c4:=al.out;go_upto_region 9 with (go_at_call 40;(with_reducible refine (bp.out).mono ?_);rintro _ w3 ⟨rfl,f3⟩)
     have b0:=ag.trans f3 zr;have bu:=ax.fr f3 zr;clear bp ax ag f3 cf bt;clear wr;try rw [al.out]
     go_wp2_with fail
     go_loopw [9,10] (fun s v wk=>∃k:Nat,v=.int .i64 (k:Int)/\s=.bool (RK k)/\k<=L/\Fr Non w3 wk) (fun _ v _=>L-(intOf v).toNat)
     case atStart=>exact ⟨0,rfl,by rw [bj.out],Ay4 _,Fr.refl _ _⟩
     case round=>
      obtain ⟨k,rfl,rfl,hk,bi⟩:=hrel;have aw:=b0.trans bi zr;have ca:=f0.trans (hf.trans aw zr) zr;have di:cS wr w.heap.size 3 (some ⟨b2,o2,none⟩) N UC:=((bv.fr (hf.trans aw zr) zq).cell 3).trans g3.out;have dh:=ca.cell bs zq
      by_cases hkt:k<L
      ·
       obtain ⟨k1,k2,k3⟩:=ix k L
       obtain ⟨qk,ct⟩:∃qk,us[k]? =some qk:=⟨_,Ax3 (by rw [hL.out];exact hkt)⟩;obtain ⟨bq,oq,u,rfl,-,hu,d0⟩:=(ak.fr ca zr).at hkt;rw [Ax5,ct] at hu;injection hu with hu
       subst hu;replace d0:cI wr bq (oq+k) (qk:Int):=d0;have cc:=lh (kH.out qk wr _ (ap.fr aw zr));have bh:=lh (b1.out k qk ct);obtain ⟨BC,cj⟩:=Aa (ps.contains qk);rw [cj.out] at cc bh;obtain ⟨BR,bw⟩:=Aa (RK k);rw [bw.out] at bh ⊢;clear cj
       cases BR
       case false=>
        go_wp2_with fail;go_roundw
        case rel=>exact ⟨k+1,by go_num,by rw [bh.out];rfl,by omega,bi⟩
        case measure=>simp [intOf];omega
       case true=>
        go_wp2_with (go_at_call 40;(with_reducible refine (cc.out).mono ?_);rintro _ w4 ⟨rfl,f4⟩);have bo:=bi.trans f4 zr;go_roundw
        case rel=>exact ⟨k+1,by go_num,by rw [bh.out];rfl,by omega,bo⟩
        case measure=>simp [intOf];omega
      ·
       obtain rfl:k=L:=by omega
       have b8:=bu.fr bi zr;obtain ⟨BR,bw⟩:=Aa (RK k);rw [bw.out] at ae ⊢;rw [<- ah.out] at ae
       cases BR
       case false=>
        have aq:Hid (MP (i+1)=ms):=by show _=_;rw [ae.out,if_neg Az5,Ay8]
        clear ae;go_wp2_with fail;go_roundw
        case rel=>exact ⟨i+1,Am,cm,ms,by go_num,rfl,by omega,aq.out.symm,b8,aw⟩
        case measure=>simp [intOf];omega
       case true=>
        have aq:Hid (MP (i+1)=ms++[i]):=by show _=_;rw [ae.out,if_pos rfl]
        have bz:=Blk.new wr 3 #[.int .i64 (i:Int)];have dg:=aw.size;clear ae;go_wp2_with (first|(at_builtin;go_loud (refine Bc (base:=wo.heap.size) (.tmp 53) (.tmp 55) 22 rfl rfl rfl rfl Es (b8.alloc (.cells #[.int .i64 (i:Int)] 3)) (Rd.blk (n:=1) (size:=1) bz rfl) (by simp [Value.oneCell']) (by omega) (by omega) (by rw [Ay3];omega) ?_);intro A8 c8 w8 ac av a4));have f8:Fr Non wo w8:=(aw.alloc (.cells #[.int .i64 (i:Int)] 3)).trans av (fun j hj e=>by have:=ao j e;omega)
        have au:Own w8 wo.heap.size 3 1 A8 (ms++[i]).length c8 ((ms++[i]).map Qv):=by
         rw [Ax4,Ay2];exact ac
        go_roundw
        case rel=>exact ⟨i+1,A8,c8,ms++[i],by go_num,by rw [Ax4];rfl,by omega,aq.out.symm,au,f8⟩
        case measure=>simp [intOf];omega
    ·
     obtain rfl:i=N:=by omega
     have ar:=be.out;rw [<- ah.out] at ar;have ai:=lh (fun p (hp:p∈ms)=>af.out p hT.out (by have e:=ah.out;rw [<- e];exact hp));have a9:∀k,Ae Ad=some k->w0.heap.size<=k/\k<wo.heap.size:=ba.row;have ab:∀k,Ae Ao=some k->w0.heap.size<=k/\k<wo.heap.size:=bc.row;have a5:=ba.fr ag zr;have bb:=bc.fr ag zr;have b4:=hf.trans ag zr;obtain ⟨K,cl⟩:=Aa ms.length;rw [cl.out] at ar a1 ax ⊢;clear ah ay a3 az a8 bd af be kH ci c1 ap ba bc hf ag
     go_upto_if 61 with (fail)
     clear cf
     go_cut [11] from 57 to 69 (fun s wc=>∃nn:Nat,s=.int .i64 (nn:Int)/\nn<K/\Fr Non wr wc)
     case first=>
      by_cases hMn:M<n
      ·
       obtain ⟨b3,o3,u,rfl,-,hu,b6⟩:=(hr.fr (f0.trans b4 zr) zr).at hMn;rw [Ax5] at hu;obtain ⟨q3,cs,rfl⟩:=Option.map_eq_some_iff.1 hu;have b5:=hok q3 (Ax6 cs);have ch:=lh (fun (v:World)=>Im q3 (K:Int) v b5.1 b5.2 (by omega) (by omega));have cw:=Il (n:=q3) (m:=(K:Int)) (by omega);obtain ⟨nn,aa⟩:∃nn:Nat,Dh q3 (K:Int)=(nn:Int):=⟨(Dh q3 (K:Int)).toNat,by omega⟩;rw [aa] at ch cw;replace aa:=lh aa;replace b6:cI wr b3 (o3+M) q3:=b6;have i1:(M:Int)<(n:Int):=by omega
       have i2:(0:Int)<=M:=by omega
       have i3:(M:Int).toNat=M:=by omega
       clear hu cs b5 hr hok;go_wp2_with (go_at_call 39;(with_reducible refine (ch.out _).mono ?_);rintro _ _ ⟨rfl,rfl⟩);go_meet;exact ⟨nn,rfl,by omega,Fr.refl _ _⟩
      ·
       have i1:¬(M:Int)<(n:Int):=by omega
       go_wp2_with fail;go_meet;exact ⟨0,rfl,by omega,Fr.refl _ _⟩
     case rest=>
     obtain ⟨nn,rfl,aa,f5⟩:=hcut;have bn:=b4.trans f5 zr;obtain ⟨p,hp⟩:∃p,ms[nn]? =some p:=⟨_,Ax3 (by rw [cl.out];exact aa)⟩;obtain ⟨c0,bl⟩:=ai.out p (Ax6 hp);replace bl:=lh bl;obtain ⟨x,bx,ox,de,rfl,bk⟩:=ce.out p c0;obtain ⟨bm,om,u,rfl,-,hu,bf⟩:=((ax.fr f5 zr).rd).at aa;rw [Ax5,hp] at hu;injection hu with hu
     subst hu;replace bf:cI wc bm (om+nn) (p:Int):=bf;have dn:wo.heap.size<=bm:=ao bm rfl;have dm:bx<w.heap.size:=Az7 w _ (bk 0 _ rfl);have aj:=a5.fr f5 zr;have a6:=bb.fr f5 zr;have bz:=Blk.new wc 3 #[.int .i64 (p:Int)];have c7:=bn.size;obtain ⟨n1,n2,n3⟩:=ix nn K
     obtain ⟨p1,p2,p3⟩:=ix p i
     clear a5 bb ax ai ce f5 b4 hp hr hok ar a1 ao;go_wp2_with (first|(at_builtin;go_loud (refine Bc (base:=w0.heap.size) (.tmp 70) (.tmp 75) 22 rfl rfl rfl rfl Es (aj.alloc (.cells #[.int .i64 (p:Int)] 3)) (Rd.blk (n:=1) (size:=1) bz rfl) (by simp [Value.oneCell']) (by omega) (by omega) (by rw [Ay3];omega) ?_);intro A8 c8 w8 ac av a4));have F8:Fr Non w0 w8:=(bn.alloc (.cells #[.int .i64 (p:Int)] 3)).trans av (fun j hj e=>by have:=(a9 j e).1;omega);have cv:=Own.grow2 (a6.alloc (.cells #[.int .i64 (p:Int)] 3)) (aj.alloc (.cells #[.int .i64 (p:Int)] 3)) (by decide) av;have C0:cI w8 bm (om+nn) (p:Int):=av.cell (((Fr.refl Non wc).alloc (.cells #[.int .i64 (p:Int)] 3)).cell bf zq) (fun e=>by have:=(a9 bm e).2;omega);have G0:cS w8 w.heap.size 1 (some ⟨bx,ox,none⟩) i LC:=((bv.fr F8 zq).cell 1).trans g1.out;have R0:RgAt w8 bx (ox+p*27) x.cells.toList:=bk.fr (f0.trans F8 zr) zq
     have au:Own w8 w0.heap.size 3 1 A8 (ps++[p]).length c8 ((ps++[p]).map Qv):=by
      rw [Ax4,Ay2,hM.out];exact ac
     have dj:=S9 x;have cn:=Hc (P:=zp) x.cells bx (ox+p*27) underlying44 rfl (by kernel_rfl);have dl:∀w',RgAt w' bx (ox+p*27) x.cells.toList->(ldS 44 (.pointer (some ⟨bx,ox+p*27,none⟩))).run zp w'=.ok (.agg x.cells) w':=fun w' h=>cn w' h;have c3:=F8.size;have F0:Fr Non w8 w8.drew:=(Fr.refl Non w8).drew;clear cn aj a6 bz c7 bf bk bn ac av a4;refine Cr (S:=fun w'=>cS w' w.heap.size 1 (some ⟨bx,ox,none⟩) i LC/\cI w' bm (om+nn) (p:Int)/\RgAt w' bx (ox+p*27) x.cells.toList) 11 (by kernel_rfl) ?_;have uu:=aI G0 (aI C0 R0);refine tkG 0 uu (h:=tkG 1 uu (h:=tkG 2 uu (h:=tkG 3 uu (h:=tkG 4 uu (h:=tkG 5 uu (h:=tkG 6 uu (h:=tkG 7 uu (h:=tkG 8 uu (h:=?_)))))))));clear uu;simp only [zl];refine Bl 9 (by kernel_rfl) rfl (fun K hK=> ?_);go_simp;have b9:=(Blk.new w8 44 x.cells).drew;have ck:=(cv.alloc (.cells x.cells 44)).fr ((Fr.refl Non _).drew) zr;have F1:Fr Non w8 (w8.alloc (.cells x.cells 44)).drew:=((Fr.refl Non w8).alloc _).drew;obtain ⟨ga,da⟩:=Aa w8.heap.size;rw [da.out] at b9 ⊢;generalize (w8.alloc (.cells x.cells 44)).drew=v1 at*;obtain ⟨G1,C1⟩:=zk2 F1 G0 C0;have R1:=RgAt.fr (S:=Non) R0 F1 zq;refine hK.out _ _ ⟨G1,C1,R1⟩ (fun hZ=> ?_);clear hZ hK K;try simp only [Ac,zl]
     refine Bl 10 (by kernel_rfl) rfl (fun K hK=> ?_);refine Ej (base:=w0.heap.size) (.tmp 77) (.tmp 86) 27 rfl rfl rfl Hh ck (Rd.blk (n:=1) (size:=27) b9 rfl) (Nu x) (by omega) (by omega) (Ay0 c3 F1.size) ?_;intro A9 c9 v2 br a7 c5;have G2:=a7.cell G1 (fun e=>by have:=(ab w.heap.size e).1;omega);have C2:=a7.cell C1 (fun e=>by have:=(ab bm e).2;omega);have R2:=RgAt.fr R1 a7 (fun e=>by have:=(ab bx e).1;omega);have c6:=Own.grow2 (au.fr F1 zr) ck (by decide) a7;have F9:Fr Non w0 v2:=(F8.trans F1 zr).trans a7 (fun j hj e=>by have:=(ab j e).1;omega);refine hK.out _ _ ⟨G2,C2,R2⟩ (fun hZ=> ?_);clear hZ hK K;try simp only [Ac,zl]
     refine Ck (by kernel_rfl) ?_;refine oG 11 (fun K hK=> ?_);go_simp;refine hK.out _ _ trivial (fun hZ=> ?_);clear hZ hK K;try simp only [Ac,zl]
     refine oD ?_;go_simp;go_wp2_with fail;go_roundw
     case rel=>exact ⟨ps++[p],A8,A9,c8,c9,by rw [Ax4,hM.out];rfl,by rw [Ax4,hM.out];rfl,bl,by rw [Ax4,hM.out];show M+1<=i;omega,c6,by rw [Ax4,hM.out,Az8,Ay5,Az9,Ay8,de];exact br,F9⟩
     case measure=>simp [lenV];omega
  ·
   have cy:M=N:=by omega
   subst cy;go_wp2_with fail
   go_ret
   exact ⟨ps,Ao,co,rfl,hT.out,hM.out,bc.lower cx,f0.trans hf zr⟩
end Oq
namespace Oq
attribute [local go_sem] Bool.not_false Bool.not_true
attribute [local go_sem ↓] Cx E5 Eu Cj
def Gu (r:RG) (p:Nat):OpL:=(r.xs[p]?).getD OpL.zero
theorem Ur (r:RG):∀(ps:List Nat),(∀p∈ps,p<r.xs.length)->ps.flatMap (fun p=>(Hp r p).toList)=(ps.map (Gu r)).flatMap (fun x=>x.cells.toList)
 |[],_=>rfl
 |p::t,h=>by
  rw [Ay5,List.map_cons,Ay5,Ur r t (fun q hq=>h q (List.mem_cons_of_mem _ hq))];have hp:=h p List.mem_cons_self;unfold Hp Gu;rw [Ax3 hp];rfl
theorem Aw8 {r:RG} (hs:r.xs.map OpL.op=r.l.map Pn.o) {ps:List Nat} (hT:C7 r.l ps) {i p:Nat} (hp:ps[i]? =some p):∃x:OpL,(ps.map (Gu r))[i]? =some x/\x∈r.xs/\x.op=opP r.l p:=by
 have hl:=hT.lt p (Ax6 hp)
 have hxl:r.xs.length=r.l.length:=by
  have:=congrArg List.length hs;rwa [Ax7,Ax7] at this
 have hx:=Ax3 (l:=r.xs) (i:=p) (by omega);refine ⟨r.xs[p],?_,List.getElem_mem _,?_⟩
 ·
  rw [Ax5,hp];show some (Gu r p)=_;unfold Gu;rw [hx];rfl
 ·
  have h1:(r.xs.map OpL.op)[p]? =(r.l.map Pn.o)[p]? :=by rw [hs]
  rw [Ax5,Ax5,hx,Ax3 hl] at h1;injection h1 with h1
  rw [Lj (Ax3 hl)];exact h1
theorem Aw9 {ids:List Id} {k:Nat} {y:Id} (h:ids[k]? =some y):(ids.drop k).reverse=(ids.drop (k+1)).reverse++[y]:=by
 obtain ⟨h1,h2⟩:=List.getElem?_eq_some_iff.1 h;rw [Az4 h1,List.reverse_cons,h2]
theorem Ax0 {cards:List Cd} {l:List Pn} {b B n c:Nat} {q:Gph} {A:Option Addr} {ids back:List Id} {w:World} (hq:GAt w b q) (hR:Cn cards l q.pns []) (h14:ids.length<=14) (hc:ClosedOk l ids) (hok:∀x∈ids,x.ok) (hb:back.Perm ids) (hn:Hid (back.length=n)) (hr:Rd w B 3 A n (back.flatMap Id.cells)):
  Calls zp 27 #[.pointer (some ⟨q.gb,0,none⟩),.slice A n c] w (Bp (Af l ids) w)/\Calls zp 29 #[.pointer (some ⟨q.gb,0,none⟩),.slice A n c] w (Ex (Ce l (Af l ids)) w):=by
 have hids:∀x∈ids,x∈l.map Pn.id:=fun x hx=>by
  obtain ⟨m,h1,h2⟩:=Oa (hc.2 x hx);rw [<- h2];exact Ay7 h1
 obtain ⟨e1,e2⟩:=Aw5 hR hids hb;have hn14:n<=14:=by rw [<- hn.out,hb.length_eq];exact h14
 have hokb:∀x∈back,x.ok:=fun x hx=>hok x (hb.mem_iff.1 hx);have hnd:back.Nodup:=hb.nodup_iff.2 hc.1;have hin:∀x∈back,(plc q.pns x).isSome=true:=fun x hx=>hR.rm.placed (hR.ends.mem_iff.2 (hids x (hb.mem_iff.1 hx)))
 have hchk:∀m∈q.pns,m.o.chk=0:=fun m hm=>by
  obtain ⟨i,hi⟩:=Ay1 hm;exact (hR.rm.ok i m hi).chk
 have h1:=N5 b q B n c A back w hq hn hr hn14 hokb hnd;have h2:=Uj b q B n c A back w hq hn hr hn14 hokb hnd hin hchk;rw [e1] at h1 h2;rw [e2] at h2;exact ⟨h1,h2⟩
theorem rankSame_law (A:Option Addr) (c:Nat) (l0:List Int) (A':Option Addr) (c':Nat) (l1:List Int) (A'':Option Addr) (c'':Nat) (l2:List Int) (w:World) (hk:KindsAt w) (hr:Rd w w.heap.size 1 A l0.length (l0.map Iv)) (hnc:l0.length<=c) (hnm:c<=9223372036854775807) (hok:∀x∈l0,I64 x) (hr':Rd w w.heap.size 1 A' l1.length (l1.map Iv)) (_hnc':l1.length<=c') (_hnm':c'<=9223372036854775807) (hok':∀x∈l1,I64 x) (hr'':Rd w w.heap.size 1 A'' l2.length (l2.map Iv)) (_hnc'':l2.length<=c'') (_hnm'':c''<=9223372036854775807) (hok'':∀x∈l2,I64 x):
  Calls zp 4 #[.slice A l0.length c,.slice A' l1.length c',.slice A'' l2.length c''] w (Ag true w):=by
 have hG:∀r:RG,(zp.info? 32).map (·.size)=some r.cells.size:=fun r=>Co;have km:=lh (Lh w.heap.size l0.length c A l0 w rfl hr hnc hnm hok hk);unfold Ii at km;have az:=fun (w':World) (hf:Fr Non w w')=>Ob w' (hk.fr hf);unfold Ag at az;replace az:=lh az;have bc:Hid (∀wz,Fr Non w wz->Ag true w (.returned (.bool true)) wz):=fun wz h=>⟨rfl,h⟩;generalize Ag true w=POST at*;obtain ⟨n0,b9⟩:=Aa l0.length;rw [b9.out] at km ⊢;have bg:=lh (fun (b:Nat) (r:RG) (v:World) (hf:Fr Non w v) (h:r.own v b)=>Kj b r w.heap.size l2.length c'' A'' l2 v h rfl (hr''.fr hf zr) hok'');obtain ⟨n2,cg⟩:=Aa l2.length;rw [cg.out] at bg ⊢;have a2:=lh (fun (b:Nat) (r:RG) (v:World) (hf:Fr Non w v) (h:r.own v b) (ak:r.l.length<=14)=>Aw7 b w.heap.size l1.length c' r A' l1 v h rfl (hr'.fr hf zr) hok' ak);unfold Oe at a2;obtain ⟨n1,cz⟩:=Aa l1.length;rw [cz.out] at a2 ⊢;have av:0<w.heap.size:=Az7 w _ (hk 0 (by decide));clear hr hnc hnm hok b9 hr'' _hnc'' _hnm'' hok'' cg;go_enter func4,ntmps4;go_upto_region 2 with (go_at_call 23;(with_reducible refine (km.out).mono ?_);rintro _ w1 ⟨r,g,b,rfl,st,a0,cn,c2,f1⟩;(have bz:=Blk.new w1 32 zG);(have cr:=Br (P:=zp) w1.heap.size 32 (cs:=r.cells) (hG r) (old:=zG) rfl (E6 r)))
 have bv:=bz.setRow (cs:=r.cells);have f2:Fr Non w1 ((w1.alloc (.cells zG 32)).setRow w1.heap.size r.cells):=((Fr.refl Non w1).alloc _).setRow (fun hh=>absurd hh (by omega)) _;have ac:=st.non f2;have ai:=f1.trans f2 zr;obtain ⟨gv,cf⟩:=Aa w1.heap.size;rw [cf.out] at bv ac ai ⊢;clear cr bz f2 f1 st km cf;generalize (w1.alloc (.cells zG 32)).setRow gv r.cells=w2 at*;have hl:=Bi (P:=zp) gv 32 underlying32 rfl (hG r);have ad:=ac.ro.rows;have bl:r.cards.length=4:=by rw [a0,Mr];rfl
 have a8:=ac.ro.cards.sl.rd;rw [bl,a0] at a8;have c0:w2.cell? ⟨gv,0,none⟩=some (.slice r.cA 4 r.cC):=by rw [<- bl];exact bv.cell 0
 have kn:=lh (Sk w2.heap.size 4 r.cC r.cA [1,2,3,1] w2 rfl (by decide) a8 (Nat.lt_of_lt_of_le av ai.size));have k2:=hk.fr ai;have ao:=lh a0;clear a8 a0 bl av;go_upto_region 3 with (go_at_call 24;(with_reducible refine (kn.out).mono ?_);rintro _ w3 ⟨h,rfl,hh,ce,ca,f3⟩)
 have aw:Hid (h.cards=r.cards):=ca.trans ao.out.symm;have bj:Hid (h.pns=[]):=by show _=_;unfold Gph.pns;rw [ce];rfl
 have aq:=ac.non f3;have cd:=ai.trans f3 zr;have dc:=bv.fr f3 zq;obtain ⟨hb,bn⟩:=Aa h.gb;rw [bn.out];obtain ⟨b4,bi⟩:=Aa w2.heap.size;rw [bi.out] at hh;clear ce ca kn c0 ao;go_upto_region 5 with (fail)
 go_upto_region 6 with (go_at_call 25;(with_reducible refine (a2.out _ r _ cd aq.ro aq.few).mono ?_);rintro _ w4 ⟨ps,A4,c4,rfl,hT,ab,o4,f4⟩)
 have bw:=hh.fr f4;have bu:=f3.trans f4 zr
 have b1:r.xs.length=r.l.length:=by
  have:=congrArg List.length aq.ro.same;rwa [Ax7,Ax7] at this
 rw [Ur r ps (fun p hp=>by rw [b1];exact hT.lt p hp)] at o4;have b0:(ps.map (Gu r)).length=r.l.length:=by rw [Ax7,ab]
 have ae:=lh (Aw3 ad hT ab);have ah:ps.drop r.l.length=[]:=by rw [<- ab,A00]
 have b5:=lh (fun i p (hp:ps[i]? =some p)=>Aw8 aq.ro.same hT hp)
 have ch:Hid (∀x∈r.xs,x.lies w2 w.heap.size/\x.op.ok):=fun x hx=>⟨ac.ro.each x hx,by
  have h1:x.op∈r.l.map Pn.o:=by rw [<- ac.ro.same];exact Ay7 hx
  obtain ⟨n,hn,e⟩:=List.mem_map.1 h1;rw [<- e];exact (ac.ro.ok n hn).1⟩
 have ak:=ac.few;have af:=lh (fun i p m hR hm hp=>Aw4 (m:=m) ad hT (i:=i) (p:=p) hR hm hp (by omega));have ar:=lh (fun x hx=>ac.idok (x:=x) hx);obtain ⟨N,hN⟩:=Aa r.l.length;rw [hN.out] at o4 b0 ah ab ak ⊢;clear b1 hh f3 f4 hT aq dc cd;go_wp2_with fail
 go_loopw [11] (fun v wr=>∃(i:Nat) (q:Gph),v=.int .i64 (i:Int)/\i<=N/\Hid (GAt wr b4 q)/\Hid (q.gb=hb)/\Hid (q.cards=r.cards)/\Hid (Cn r.cards r.l q.pns ((ps.drop i).map (opP r.l)))/\Hid (q.pns.map Pn.o=(ps.take i).map (opP r.l))/\Own wr w3.heap.size 44 27 A4 N c4 ((ps.map (Gu r)).flatMap (fun x=>x.cells.toList))/\Fr Non w2 wr) (fun v _=>N-(intOf v).toNat)
 case atStart=>exact ⟨0,h,rfl,Ay4 _,bw,bn.out,aw.out,by rw [bj.out];exact ae.out,by rw [bj.out];rfl,o4,bu⟩
 case round=>
  clear bw o4 bu;obtain ⟨i,q,rfl,hi,hq,a3,bh,hR,hm,own,hf⟩:=hrel
  by_cases hlt:i<N
  ·
   obtain ⟨p,hp⟩:∃p,ps[i]? =some p:=⟨_,Ax3 (by rw [ab];exact hlt)⟩;obtain ⟨x,hx,ci,br⟩:=b5.out i p hp;obtain ⟨he,a4,ax⟩:=af.out i p q.pns hR.out hm.out hp;rw [<- br] at he a4 ax;obtain ⟨xo,bq⟩:=ch.out x ci;obtain ⟨bx,ox,rfl,dg,cc⟩:=Ff (f:=fun x:OpL=>x.cells.toList) (fun _=>rfl) (by omega) (n:=N) own.rd hx;have bs:World.rangeAt wr bx (ox+i*27) x.cells.toList:=fun k v hv=>cc k (List.getElem?_eq_some_iff.1 hv).1 v hv;have bb:=Hc (P:=zp) x.cells bx (ox+i*27) underlying44 rfl (by kernel_rfl) wr bs;have a1:=lh (Sm (x:=x) (p:=Be q.pns x.op) (l:=q.pns) rfl hq.out (xo.non hf).at bq (k2.fr hf) (by rw [bh.out];exact he) rfl);rw [a3.out] at a1;unfold Hx at a1;obtain ⟨i1,i2,i3⟩:=ix i N
   have co:=lh (fun k hk=>hq.out.ge (k:=k) hk);have cw:=hq.out.types;obtain ⟨XC,b2⟩:=Aa x.cells;rw [b2.out] at bb a1;replace a4:=lh a4;replace ax:=lh ax;clear bs cc xo bq he ci hx br hp hq hR hm b2;go_wp2_with (first|(go_at_call 17;(with_reducible refine (a1.out).mono ?_);rintro _ wb ⟨rfl,q2,c3,bp,a5,ap,fb⟩));have c5:Fr Non w2 wb:=hf.trans fb (fun k hk e=>by have:=co.out k e;have:=bi.out;omega);have bm:=own.keepT fb cw (by unfold Gty;decide);go_roundw
   case rel=>exact ⟨i+1,q2,by go_num,by omega,c3,bp.trans a3.out,a5.trans bh.out,by rw [ap];exact a4.out,by rw [ap];exact ax.out,bm,c5⟩
   case measure=>simp [intOf];omega
  ·
   obtain rfl:i=N:=by omega
   rw [ah,List.map_nil] at hR;have bk:=ac.non hf;have a9:=ai.trans hf zr;have ct:=bv.fr hf zq;clear own hm af b5 ch ae bj aw bn a2 b0 ah ab bv;generalize wr=w5 at*;clear wr;go_upto_region 12 with (go_at_call 26;(with_reducible refine (bg.out _ r _ a9 bk.ro).mono ?_);rintro _ w6 ⟨aa,⟨A6,c6,rfl,o6,f6⟩,aj,_⟩)
   have a7:=bk.non f6;have cu:=a9.trans f6 zr;have b6:=lh (hq.out.fr f6);obtain ⟨n,hn⟩:=Aa aa.length;rw [hn.out] at o6 ⊢;have au:n<=14:=by rw [<- hn.out];exact Ay0 aj.len (by rw [hN.out];exact ak)
   have al:Hid ((Af r.l aa).length=n):=by show _=_;rw [E7,hn.out]
   have ay:Hid ((aa.reverse).length=n):=by show _=_;rw [A01,hn.out]
   have kO:=lh (fun (v:World) (hv:Fr Non w6 v) (B:Nat) (A:Option Addr) (c:Nat) (hr:Rd v B 3 A n (aa.flatMap Id.cells))=>(a7.non hv).order aj hn (c:=c) hr);have kS:=lh (fun (v:World) (hv:Fr Non w6 v) (B:Nat) (A:Option Addr) (c:Nat) (hr:Rd v B 3 A n (aa.flatMap Id.cells))=>(a7.non hv).sen aj hn (c:=c) hr);have kR:=lh (fun (v:World) (hv:Fr Non w6 v) (B:Nat) (A:Option Addr) (c:Nat) (hr:Rd v B 3 A n (aa.reverse.flatMap Id.cells))=>Ax0 (c:=c) (b6.out.fr hv) hR.out (by rw [hn.out];exact au) aj (fun x hx=>ar.out x (aj.2 x hx)) (List.reverse_perm aa) ay hr);rw [a3.out] at kR;have kP:=lh (fun (v:World) (hv:Fr Non w6 v) (B:Nat) (A:Option Addr) (c:Nat) hr=>(kR.out v hv B A c hr).1);have kT:=lh (fun (v:World) (hv:Fr Non w6 v) (B:Nat) (A:Option Addr) (c:Nat) hr=>(kR.out v hv B A c hr).2);unfold Bp at kO kP;unfold Ex at kS kT;rw [al.out] at kO kP;have kE:=lh (fun (v:World) (B B':Nat) (A A':Option Addr) (c c':Nat) (h1:Rd v B 3 A n ((Af r.l aa).flatMap Id.cells)) (h2:Rd v B' 3 A' n ((Af r.l aa).flatMap Id.cells))=>Ss B n c B' n c' A A' (Af r.l aa) (Af r.l aa) v al al h1 h2 (by omega) true ⟨fun _=>rfl,fun _=>rfl⟩);unfold Ag at kE
   have cm:(Ce r.l (Af r.l aa)).length<=14:=by
    unfold Ce;refine Ay0 (Ks _ _ _) ?_;rw [al.out];exact au
   obtain ⟨m,hm⟩:=Aa (Ce r.l (Af r.l aa)).length;have kI:=lh (fun (v:World) (A A':Option Addr) (c c':Nat) h1 h2=>Ug m c c' A A' (Ce r.l (Af r.l aa)) v hm.out h1 h2 (by rw [<- hm.out];omega));rw [hm.out] at kS kT cm;obtain ⟨GB,cj⟩:=Aa g.gb;rw [cj.out] at kO kS ⊢;clear kR ac bk a7 ad hG cj cn c2 aj bg hl al ay hR hq b6 a3 bh ar ct f6 a9 hm k2 hN ak bi ai hf;have df:=Id.cells_one aa;generalize Af r.l aa=RS at*;generalize Ce r.l RS=SL at*;have bd:=o6.rd;have be:aa.length=n:=hn.out;have cb:Hid (∀k y,aa[k]? =some y->(aa.drop k).reverse=(aa.drop (k+1)).reverse++[y]):=fun k y h=>Aw9 h;have b3:Hid ((aa.drop n).reverse=[]):=by show _=_;rw [<- be,A00];rfl
   have b7:Hid ((aa.drop 0).reverse=aa.reverse):=rfl;obtain ⟨BK,b8⟩:∃BK:Nat->List Id,(fun k=>(aa.drop k).reverse)=BK:=⟨_,rfl⟩;have ag:∀k,(aa.drop k).reverse=BK k:=fun k=>congrFun b8 k;have de:Hid (∀k,(BK k).length=n-k):=fun k=>by rw [<- ag k,A01,List.length_drop,be]
   simp only [ag] at cb b3 b7;clear b8 ag be;have c9:=iw ((n:Int)-1);go_wp2_with fail
   go_loopw [13,14] (fun s v wr=>∃(k K:Nat) (As:Option Addr) (cs:Nat),v=.int .i64 ((k:Int)-1)/\s=.slice As K cs/\k+K=n/\Own wr w6.heap.size 38 3 As K cs ((BK k).flatMap Id.cells)/\Fr Non w6 wr) (fun _ v _=>(intOf v+1).toNat)
   case atStart=>exact ⟨n,0,none,0,by first|rfl|(rw [c9]),rfl,rfl,by rw [b3.out];exact Own.nil _ _ _ _,Fr.refl _ _⟩
   case round=>
    obtain ⟨k,K,As,cs,rfl,rfl,dh,own,hf⟩:=hrel
    cases k
    case succ k=>
     have e1:((k+1:Nat):Int)-1=(k:Int):=by omega
     rw [e1];obtain ⟨k1,k2,k3⟩:=ix k n
     have tk:decide ((k:Int)>=0)=true:=decide_eq_true (by omega);obtain ⟨y,hy⟩:∃y,aa[k]? =some y:=⟨_,Ax3 (by rw [hn.out];omega)⟩;obtain ⟨ba,oa,rfl,-,y0,y1,y2⟩:=Id.at (bd.fr hf zr) hy;have ay:=cb.out k y hy;have bz:=Blk.new wr 38 y.V;have dd:=hf.size;have bf:=own.row;go_wp2_with (first|(at_builtin;go_loud (refine Bc (base:=w6.heap.size) (.tmp 55) (.tmp 60) 28 rfl rfl rfl rfl Dp (own.alloc (.cells y.V 38)) (Rd.blk (n:=1) (size:=3) bz rfl) (by simp [Value.oneCell']) (by omega) (by omega) (by rw [Ay3];omega) ?_);intro A8 c8 w8 a6 cy cv));have f8:Fr Non w6 w8:=(hf.alloc (.cells y.V 38)).trans cy (fun j hj e=>by have:=(bf j e).1;omega)
     have bo:Own w8 w6.heap.size 38 3 A8 (K+1) c8 ((BK k).flatMap Id.cells):=by
      rw [ay,Az8,Ay5,Az9,Ay8];exact a6
     go_roundw
     case rel=>exact ⟨k,K+1,A8,c8,by go_num,rfl,by omega,bo,f8⟩
     case measure=>simp [intOf]
    case zero=>
     obtain rfl:K=n:=by omega
     have e1:((0:Nat):Int)-1= -1:=rfl;rw [e1];rw [b7.out] at own;have bt:=own.rd;have da:=bd.fr hf zr;go_upto_region 17 with (fail)
     go_wp2_with (first
      |(go_at_call 27;(with_reducible refine (kO.out _ hf _ _ _ da).mono ?_);rintro _ w7 ⟨A7,c7,rfl,o7,f7⟩;have g7:=hf.trans f7 zr;have db:=bt.fr f7 zr)
      |(go_at_call 27;(with_reducible refine (kP.out _ g7 _ _ _ db).mono ?_);rintro _ w8 ⟨A8,c8,rfl,o8,f8⟩;have g8:=g7.trans f8 zr;have cx:=o7.fr f8 zr)
      |(go_at_call 20;(with_reducible refine (kE.out _ _ _ _ _ _ _ cx.rd o8.rd).mono ?_);rintro _ w9 ⟨rfl,f9⟩;have g9:=g8.trans f9 zr;have cp:=bd.fr g9 zr;have c1:=bt.fr (f7.trans (f8.trans f9 zr) zr) zr)
      |(go_at_call 29;(with_reducible refine (kS.out _ g9 _ _ _ cp).mono ?_);rintro _ wA ⟨AA,cA,rfl,oA,fA⟩;have gA:=g9.trans fA zr;have ck:=c1.fr fA zr)
      |(go_at_call 29;(with_reducible refine (kT.out _ gA _ _ _ ck).mono ?_);rintro _ wB ⟨AB,cB,rfl,oB,fB⟩;have gB:=gA.trans fB zr;have cl:=oA.fr fB zr)
      |(go_at_call 28;(with_reducible refine (kI.out _ _ _ _ _ cl.rd oB.rd).mono ?_);rintro _ wC ⟨rfl,fC⟩;have gC:=cu.trans (gB.trans fC zr) zr)
      |(go_at_call 30;(with_reducible refine (az.out _ gC).mono ?_);rintro _ wz ⟨rfl,cq⟩))
     exact bc.out _ (gC.trans cq zr)
end Oq
end
section
open Go.ChangeShapes Go.WideShapes Go.ChangeAt Go.RowKit
theorem Ax1 (os:Os) (started:os.Started) (H:Type) (enc:TypeId × Value->H):
  ReturnsInHanded {} Tryz.checked os 4 .any (fun w args=>(Rows.rankSameSpec.pre enc zp f4 [] false w args/\laidMetH zp [("huddle/op.kinds",Rows.laid_huddle_op_kinds)] w)/\sizedMet enc zp f4 (OpenSpec.ofChange Rows.rankSameSpec) false w args)
   (Rows.rankSameSpec.post enc zp f4 false true false false):=by
 refine returnsInHanded_of_change_and (C:=Tryz.checked) (X:=fun w _=>laidMetH zp [("huddle/op.kinds",Rows.laid_huddle_op_kinds)] w) (fun _ _ _ hh h=>h.of_heap hh) Tryz.own started (by kernel_rfl) func4
  (ChangeSpec.witness_at (enc:=enc) (C:=Tryz.checked) (os:=os) (X:=fun w _=>laidMetH zp [("huddle/op.kinds",Rows.laid_huddle_op_kinds)] w) false (Hw os) #[.slice none 0 0,.slice none 0 0,.slice none 0 0] 8 rfl (by kernel_rfl) (by kernel_rfl) (by kernel_rfl) (by kernel_rfl) (by kernel_rfl) (Mh os _)) ?_
 intro W base args ds gs before hval0 hW _ _ hL _;have hk:=Mg hL;have hval:∀(j:Nat) t v,Tryz.f4.params[j]? =some t->args[j]? =some v->Value.okWide zp W .any base t v:=hval0;have hW':=hW;obtain ⟨p,q,hA0,hV,rfl,hfz,hnd⟩:=hW;have hA:DataW.TrodAll enc zp W 0 (fun _=>true) true Tryz.f4.params.toList args.toList ds p:=hA0;rw [params4] at hA hval;obtain ⟨v0,v1,v2,d0,d1,d2,p0,p1,p2,rfl,rfl,rfl,h0,h1,h2⟩:=trodAll_three hA;obtain ⟨A0,c0,l0,rfl,hlc0,hc0,hr0,hok0⟩:=Gb underlying22 underlying3 (by kernel_rfl) (hval 0 22 v0 rfl rfl) h0;obtain ⟨A1,c1,l1,rfl,hlc1,hc1,hr1,hok1⟩:=Gb underlying22 underlying3 (by kernel_rfl) (hval 1 22 v1 rfl rfl) h1;obtain ⟨A2,c2,l2,rfl,hlc2,hc2,hr2,hok2⟩:=Gb underlying22 underlying3 (by kernel_rfl) (hval 2 22 v2 rfl rfl) h2;refine (Oq.rankSame_law A0 c0 l0 A1 c1 l1 A2 c2 l2 W hk hr0 hlc0 hc0 hok0 hr1 hlc1 hc1 hok1 hr2 hlc2 hc2 hok2).mono fun e W' ⟨he,hf⟩=> ?_;exact ⟨_,he,Ln Tryz.laidOut (by kernel_rfl) rfl (by kernel_rfl) underlying4 hW' ⟨rfl,rfl,rfl⟩ hf⟩
theorem Ax2:Rows.RankSameSaid:=
 OpenClaim.holds_of_wide 4 f4 rfl rfl rfl rfl rfl rfl rfl ⟨rfl,rfl,rfl,rfl,rfl⟩ rfl rfl rfl rfl rfl (by kernel_rfl) func4 (by kernel_rfl)
  (of_decide_eq_true (by kernel_rfl)) (by unfold Func.isWrapper;rw [if_neg (by decide+kernel)];exact ⟨rfl,rfl⟩)
  (fun os started H enc _=>Ax1 os started H enc)
end
section
open Go
theorem rankSame_card_holds:Rows.RankSameCardSaid:=
 Claim7.holds_tied_plain_at .later [] [.data] true (true, "384d72dad725d37bd6ac49b23d359ed0607772ed35652509833cbd7c76661533") false
  Ax2 (fun _ h=>by cases h) (by kernel_rfl) (fun _ h=>by cases h) rankSame_row_tie rfl ⟨rfl,rfl⟩ (by kernel_rfl) rfl
  (fun f fn hf hfn=>by
   obtain rfl:f=4:=Option.some.inj ((show zp.funcNamed "huddle/huddlelaw14.RankSame" =some 4 by kernel_rfl).symm.trans hf)|>.symm;obtain rfl:fn=f4:=(Option.some.inj (Tryz.func4.symm.trans hfn)).symm
   exact ⟨by kernel_rfl,fun j t ht=>by
    rw [params4] at ht
    have hm:t∈([22,22,22]:List TypeId):=by
     have h2:=Array.mem_of_getElem? ht;simpa using h2
    have hall:([22,22,22]:List TypeId).all (fun t=> !(zp.wantsStandIn t))=true:=by kernel_rfl
    have:=List.all_eq_true.1 hall t hm;exact (by simpa using this:zp.wantsStandIn t=false)⟩)
  (by kernel_rfl)
end
end Go.Proofs.YtihfebhfgliojaaGreatDoor
