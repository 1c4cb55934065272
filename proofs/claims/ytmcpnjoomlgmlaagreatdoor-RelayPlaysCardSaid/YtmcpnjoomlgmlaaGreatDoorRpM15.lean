/- Contracts of functions, walked (part 15).
Conditions: as each theorem says. -/
import Derived.WalkMore
import Derived.Test.YtmcpnjoomlgmlaaGreatDoorRpM14
set_option maxRecDepth 100000
set_option maxHeartbeats 16000000
open Array renaming getElem?_toList->A96,getElem?_eq_getElem->A97
open Bool renaming not_false->A64,not_true->A65,eq_iff_iff->A71,false_ne_true->A93
open List renaming getElem?_eq_getElem->A59,not_mem_nil->A60,length_append->A61,getElem?_map->A62,mem_of_getElem?->A63,map_append->A66,flatMap_append->A67,getElem?_append_right->A68,mem_singleton->A70,flatMap_cons->A74,getElem?_append_left->A75,getElem?_toArray->A76,length_eraseIdx_of_lt->A77,getElem?_eq_none->A78,mem_append->A79,take_length->A80,contains_iff_mem->A82,length_cons->A83,flatMap_nil->A86,append_nil->A87,eraseIdx_eq_take_drop_succ->A89,length_take->A90,any_eq_true->A92,take_append_drop->A94,getElem?_take_of_lt->A95,take_of_length_le->A98
open Nat renaming le_refl->A69,zero_le->A72,le_trans->A81,lt_or_ge->A85,sub_self->A88
open Go.World renaming setCell->A73,size_alloc->A84,rangeAt->A91
open Go.Proofs.Tryz
open Go.Proofs.Tryz renaming prog->zp
open Go.Lib renaming hid->lh
open List renaming set->zl
open Go.Ending renaming returned->ze
namespace Go.Proofs.YtmcpnjoomlgmlaaGreatDoor
open Go.RowKit
attribute [local go_sem ↓] Go.wp_at_zero Go.wp_at_succ
namespace Oq
attribute [local go_sem] A64 A65
theorem Ol (B n c i:Nat) (A:Option Addr) (l0:List Int) (w:World) (hn:Hid (l0.length=n)) (hr:Rd w B 1 A n (l0.map Iv)) (hok:∀x∈l0,I64 x) (_hnm:n<=9223372036854775807) (_hi9:i<=1000):
  Calls zp 33 #[.slice A n c,.int .i64 (i:Int)] w fun e w'=>e=.returned (.int .i64 (Dh l0 i:Int))/\Fr Non w w':=by
 by_cases hlt:i<n
 ·
  obtain ⟨p,hp⟩:∃q,l0[i]? =some q:=⟨_,A59 (by rw [hn.out];exact hlt)⟩;obtain ⟨b,off,u,rfl,_,hu,c0⟩:=hr.at hlt;rw [A62,hp] at hu;injection hu with hu
  subst hu;replace c0:cI w b (off+i) p:=c0;have hpo:=hok p (A63 hp);have hv:Hid (Dh l0 i=(Ee p 1000000).toNat):=by show _=_;unfold Dh;rw [hp]
  obtain ⟨ba1,ba2⟩:=Jp (n:=p) (m:=1000000) (by omega);obtain ⟨N,hN⟩:∃N:Nat,Ee p 1000000=(N:Int):=⟨(Ee p 1000000).toNat,by omega⟩;have kar:=lh (fun w'=>Pm p 1000000 w' hpo.1 hpo.2 (by omega) (by omega));have hv2:Hid (Dh l0 i=N):=by show _=_;rw [hv.out,hN];omega
  rw [hN] at kar;rw [hv2.out];obtain ⟨i1,i2,i3⟩:=ix i n
  have t1:decide ((i:Int)>=(n:Int))=false:=decide_eq_false (by omega);have t1':decide ((n:Int)<=(i:Int))=false:=t1;have t1n:decide (n<=i)=false:=decide_eq_false (by omega);clear hv hN hp hok hr;go_enter func33,ntmps33;go_wp2_with (go_at_call 7;(with_reducible refine (kar.out _).mono ?_);rintro _ wz ⟨rfl,rfl⟩)
  go_ret
  exact ⟨rfl,Fr.refl _ _⟩
 ·
  have hv:Hid (Dh l0 i=0):=by
   show _=_;unfold Dh;rw [A78 (by rw [hn.out];omega)]
  rw [hv.out];have t1:decide ((i:Int)>=(n:Int))=true:=decide_eq_true (by omega);have t1':decide ((n:Int)<=(i:Int))=true:=t1;have t1n:decide (n<=i)=true:=decide_eq_true (by omega);go_enter func33,ntmps33;go_wp2_with fail
  go_ret
  exact ⟨rfl,Fr.refl _ _⟩
theorem Au4 (base:Nat) (r:FG) (d:Int) (w:World) (h:r.own w base):
  Calls zp 34 #[.agg r.cells,.int .i64 d] w fun e w'=>e=.returned (.int .i64 (Em r.l d r.l.length))/\Fr Non w w':=by
 have af:=h.num.few;have bg:=Blk.new w 28 r.cells;have f0:Fr Non w (w.alloc (.cells r.cells 28)):=(Fr.refl Non w).alloc _;have g1:Hid (r.cells[1]? =some (.slice r.lA r.l.length r.lC)):=rfl
 have ab:Hid (∀i,i<r.l.length->∃(m:Pn) (b ac:Nat),r.l[i]? =some m/\r.lA=some ⟨b,ac,none⟩/\cI w b (ac+i*27) m.o.by_):=by
  intro i hi;obtain ⟨y,b,ac,_,h1,_,h3,_,h4⟩:=h.xAt (A59 hi);exact ⟨_,b,ac,A59 hi,h3,by rw [<- h1];exact h4 0 (by omega) _ rfl⟩
 have ad:Hid (∀k m,r.l[k]? =some m->Em r.l d (k+1)=if m.o.by_=d then (k:Int) else Em r.l d k):=by
  intro k m hm;conv=>lhs;unfold Em
  rw [hm]
 have ag:Hid (Em r.l d 0= -1):=rfl;clear h;generalize r.lA=LA at*;generalize r.lC=LC at*;generalize r.cells=CS at*;obtain ⟨N,hN⟩:=Ab r.l.length;rw [hN.out] at g1 ab af ⊢;generalize Em r.l d=LI at*;have e0:=iw ((N:Int)-1);go_enter func34,ntmps34;have c1:cS (w.alloc (.cells CS 28)) w.heap.size 1 LA N LC:=(bg.cell 1).trans g1.out;go_upto_region 1 with (fail)
 generalize w.alloc (.cells CS 28)=w0 at*;go_wp2_with fail
 go_loopw [5] (fun v wr=>∃k:Nat,v=.int .i64 ((k:Int)-1)/\k<=N/\Hid (LI N=LI k)/\w0=wr) (fun v _=>(intOf v+1).toNat)
 case atStart=>exact ⟨N,rfl,A69 _,rfl,rfl⟩
 case round=>
  obtain ⟨k,rfl,hk,ae,rfl⟩:=hrel
  cases k with
  |zero=>
   have em:(((0:Nat):Int)-1)=(-1:Int):=by decide
   rw [em];have t1:decide ((-1:Int)>=0)=false:=by decide
   have ah:decide ((0:Int)<= -1)=false:=by decide
   have hf:=lh (ae.out.trans ag.out);clear ad ab;go_wp2_with fail
   go_ret
   exact ⟨zeI hf.out.symm,f0⟩
  |succ k=>
   have ek:(((k+1:Nat):Int)-1)=(k:Int):=by omega
   rw [ek];obtain ⟨m,b,ac,hm,rfl,c2⟩:=ab.out k (by omega);have ai:=f0.cell c2 zq;have aa:=ad.out k m hm;obtain ⟨i1,i2,i3⟩:=ix k N
   have t1:decide ((k:Int)>=0)=true:=decide_eq_true (by omega);have ah:decide (0<=(k:Int))=true:=decide_eq_true (by omega);have e1:=iw ((k:Int)-1)
   by_cases he:m.o.by_=d
   ·
    rw [if_pos he] at aa;have hf:=lh (ae.out.trans aa);have t2:(m.o.by_==d)=true:=beq_iff_eq.2 he;clear ad ab aa he hm;go_wp2_with fail
    go_ret
    exact ⟨zeI hf.out.symm,f0⟩
   ·
    rw [if_neg he] at aa;have hf:=lh (ae.out.trans aa);have t2:(m.o.by_==d)=false:=beq_eq_false_iff_ne.2 he;clear ad ab aa he hm ae;go_wp2_with fail;go_roundw
    case rel=>exact ⟨k,by first|rfl|go_num,by omega,hf.out,by first|rfl|trivial⟩
    case measure=>first|(simp [intOf];done)|(simp [intOf];omega)
def Gz (l:List Pn) (places ys:List Nat):Prop:=ys.Nodup/\∀q,q∈ys<->(q∈places\/∃p∈places,inP l p q=true)
def Om (l:List Pn) (places:List Nat) (w:World) (e:Ending) (w':World):Prop:=∃(ys:List Nat) (A:Option Addr) (c:Nat),e=.returned (.slice A ys.length c)/\Gz l places ys/\(∀q∈ys,q<l.length)/\Own w' w.heap.size 3 1 A ys.length c (ys.map Qv)/\Fr Non w w'
structure Bh (l:List Pn) (places:List Nat) (i:Nat) (all:List Nat) (k:Nat) (ys:List Nat):Prop where
 nodup:ys.Nodup
 mem:∀q,q∈ys<->((∃p∈places.take i,q=p\/inP l p q=true)\/q∈all.take k)
theorem Bh.start (l:List Pn) (places:List Nat) (all:List Nat):Bh l places 0 all 0 []:=⟨List.nodup_nil,fun q=>⟨fun h=>absurd h A60,fun h=>by
 rcases h with ⟨p,hp,_⟩|h
 · exact absurd hp A60
 · exact absurd h A60⟩⟩
theorem Bh.old {l:List Pn} {places all ys:List Nat} {i k x:Nat} (h:Bh l places i all k ys) (hx:all[k]? =some x) (hc:ys.contains x=true):Bh l places i all (k+1) ys:=⟨h.nodup,fun q=>by
 rw [Df hx,A79,A70,h.mem q];constructor
 ·
  rintro (h1|h1)
  · exact .inl h1
  · exact .inr (.inl h1)
 ·
  rintro (h1|h1|rfl)
  · exact .inl h1
  · exact .inr h1
  · exact (h.mem q).1 (List.contains_iff_mem.1 hc)⟩
theorem Bh.new {l:List Pn} {places all ys:List Nat} {i k x:Nat} (h:Bh l places i all k ys) (hx:all[k]? =some x) (hc:ys.contains x=false):Bh l places i all (k+1) (ys++[x]):=⟨(by
 refine List.nodup_append.2 ⟨h.nodup,by simp,fun a ha b hb=> ?_⟩;obtain rfl:=List.mem_singleton.1 hb;rintro rfl;rw [List.contains_iff_mem.2 ha] at hc
 cases hc),fun q=>by
 rw [Df hx,A79,A79,A70,h.mem q];constructor
 ·
  rintro ((h1|h1)|h1)
  · exact .inl h1
  · exact .inr (.inl h1)
  · exact .inr (.inr h1)
 ·
  rintro (h1|h1|h1)
  · exact .inl (.inl h1)
  · exact .inl (.inr h1)
  · exact .inr h1⟩
theorem Bh.next {l:List Pn} {places all ys Hw:List Nat} {i p:Nat} (h:Bh l places i all all.length ys) (hp:places[i]? =some p) (ha:∀q,q∈all<->(q=p\/inP l p q=true)):Bh l places (i+1) Hw 0 ys:=⟨h.nodup,fun q=>by
 rw [h.mem q,Df hp,A80,ha q];constructor
 ·
  rintro (⟨p',h1,h2⟩|h1)
  · exact .inl ⟨p',List.mem_append_left _ h1,h2⟩
  · exact .inl ⟨p,List.mem_append_right _ List.mem_cons_self,h1⟩
 ·
  rintro (⟨p',h1,h2⟩|h1)
  ·
   rcases List.mem_append.1 h1 with h1|h1
   · exact .inl ⟨p',h1,h2⟩
   ·
    rw [List.mem_singleton.1 h1] at h2;exact .inr h2
  · exact absurd h1 A60⟩
theorem Bh.done {l:List Pn} {places all ys:List Nat} (h:Bh l places places.length all 0 ys):Gz l places ys:=⟨h.nodup,fun q=>by
 rw [h.mem q,A80];constructor
 ·
  rintro (⟨p,h1,rfl|h2⟩|h1)
  · exact .inl h1
  · exact .inr ⟨p,h1,h2⟩
  · exact absurd h1 A60
 ·
  rintro (h1|⟨p,h1,h2⟩)
  · exact .inl ⟨q,h1,.inl rfl⟩
  · exact .inl ⟨p,h1,.inr h2⟩⟩
theorem Bh.few {l:List Pn} {places all ys:List Nat} {i k N:Nat} (h:Bh l places i all k ys) (hb:∀q∈ys,q<N):ys.length<=N:=by
 have:=Fp h.nodup (ys:=List.range N) (fun q hq=>List.mem_range.2 (hb q hq));simpa using this
theorem He {w:World} {b b' size n c:Nat} {e:TypeId} {A:Option Addr} {xs:List Value} (h:Own w b' e size A n c xs) (hb:b<=b'):Own w b e size A n c xs:=by
 obtain ⟨h1,h2⟩:=h;refine ⟨h1,?_⟩
 rcases h2 with h2|⟨g,cap,cur,e1,e2,e3⟩
 · exact .inl h2
 · exact .inr ⟨g,cap,cur,e1,A81 hb e2,e3⟩
theorem On (B n c:Nat) (A:Option Addr) (zs:List Nat) (x:Nat) (w:World) (hn:Hid (zs.length=n)) (hr:Rd w B 1 A n (zs.map Qv)) (hnm:n<=1000000):
  Calls zp 37 #[.slice A n c,.int .i64 (x:Int)] w fun e w'=>e=.returned (.bool (zs.contains x))/\Fr Non w w':=by
 have e1:(zs.map (fun q:Nat=>(q:Int))).map Iv=zs.map Qv:=by rw [List.map_map];rfl
 have e2:(zs.map (fun q:Nat=>(q:Int))).contains (x:Int)=zs.contains x:=by
  rw [A71,A82,A82,List.mem_map];constructor
  ·
   rintro ⟨q,h1,h2⟩;have:q=x:=by omega
   exact this▸h1
  ·
   intro h;exact ⟨x,h,rfl⟩
 have k:=Un B n c A (zs.map (fun q:Nat=>(q:Int))) (x:Int) w (by show _=_;rw [List.length_map];exact hn.out) (by rw [e1];exact hr) hnm;rw [e2] at k;exact k
theorem Au5 (ps:List Nat):∀u∈ps.map Qv,u.oneCell'=true:=fun u hu=>by
 obtain ⟨x,_,rfl⟩:=List.mem_map.1 hu;rfl
theorem Uq (base B n c:Nat) (r:FG) (A:Option Addr) (places:List Nat) (w:World) (h:r.own w base) (hn:Hid (places.length=n)) (hr:Rd w B 1 A n (places.map Qv)) (hnm:n<=1000) (hlt:∀p∈places,p<r.l.length):
  Calls zp 47 #[.agg r.cells,.slice A n c] w (Om r.l places w):=by
 have a7:=h.num.few;have bg:=Blk.new w 28 r.cells;have f0:Fr Non w (w.alloc (.cells r.cells 28)):=(Fr.refl Non w).alloc _;have g3:Hid (r.cells[3]? =some (.slice r.pA r.l.length r.pC)):=rfl
 have bb:Hid (∀p,p<r.l.length->∃(xs:List Nat) (A2:Option Addr) (c2 b a1:Nat),r.pA=some ⟨b,a1,none⟩/\cS w b (a1+p) A2 xs.length c2/\xs.length<=14/\Rd w w.heap.size 1 A2 xs.length (xs.map Qv)/\(∀q,q∈xs<->inP r.l p q=true)/\∀q∈xs,q<r.l.length):=by
  intro p hp;have hm:=A59 hp;obtain ⟨x,b,a1,h1,h2,h3,_,h4,h5,h6⟩:=h.pAt hm;exact ⟨x.xs,x.A,x.c,b,a1,h3,h4,by omega,RowAt.sl h2|>.rd,fun q=>by rw [h1.2 q,Ia hm],fun q hq=>Nat.lt_trans (h6 q hq) hp⟩
 clear h;replace hlt:=lh hlt;have ap:Hid (∀ys A c w',Gz r.l places ys->(∀q∈ys,q<r.l.length)->Own w' w.heap.size 3 1 A ys.length c (ys.map Qv)->Fr Non w w'->Om r.l places w (.returned (.slice A ys.length c)) w'):=fun ys A c w' h1 h2 h3 h4=>⟨ys,A,c,rfl,h1,h2,h3,h4⟩;generalize Om r.l places w=POST at*;generalize r.pA=PA at*;generalize r.pC=PC at*;generalize r.cells=CS at*;generalize r.l=l at*;obtain ⟨N,hN⟩:=Ab l.length;rw [hN.out] at g3 bb a7 hlt ap;go_enter func47,ntmps47;go_upto_region 1 with (fail)
 have b7:=f0.size;generalize w.alloc (.cells CS 28)=w0 at*;go_wp2_with fail
 go_loopw [5,6] (fun s v wr=>∃(i:Nat) (Ax:Option Addr) (cx:Nat) (ys:List Nat),v=.int .i64 (i:Int)/\s=.slice Ax ys.length cx/\i<=n/\Hid (Bh l places i [] 0 ys)/\Hid (∀q∈ys,q<N)/\Own wr w0.heap.size 3 1 Ax ys.length cx (ys.map Qv)/\Fr Non w0 wr) (fun _ v _=>n-(intOf v).toNat)
 case atStart=>exact ⟨0,none,0,[],rfl,rfl,A72 _,Bh.start _ _ _,fun q hq=>absurd hq A60,Own.nil _ _ _ _,Fr.refl _ _⟩
 case round=>
  obtain ⟨i,Ax,cx,ys,rfl,rfl,hi,au,bl,ae,hf⟩:=hrel;have ay:Fr Non w wr:=f0.trans hf zr
  by_cases hin:i<n
  ·
   obtain ⟨p,hp⟩:∃p,places[i]? =some p:=⟨_,A59 (by rw [hn.out];exact hin)⟩;have bh:=hlt.out p (A63 hp);obtain ⟨xs,A2,c2,b2,o2,rfl,d2,br,bf,bj,a4⟩:=bb.out p bh;obtain ⟨b4,o4,u4,rfl,_,a2,d0⟩:=(hr.fr ay zr).at hin;rw [A62,hp] at a2;injection a2 with a2
   subst a2;replace d0:cI wr b4 (o4+i) (p:Int):=d0;obtain ⟨i1,i2,i3⟩:=ix i n
   obtain ⟨p1,p2,p3⟩:=ix p N
   have a3:Hid (∀q,q∈p::xs<->(q=p\/inP l p q=true)):=fun q=>by rw [List.mem_cons,bj q]
   have bo:Hid (∀q∈p::xs,q<N):=fun q hq=>by
    rcases List.mem_cons.1 hq with rfl|hq
    · exact bh
    · exact a4 q hq
   have b6:=hf.size;go_upto_region 5 with (fail)
   have Hb:cS wr w.heap.size 3 (some ⟨b2,o2,none⟩) N PC:=((bg.fr hf zq).cell 3).trans g3.out;have Db:=ay.cell d2 zq;have Qb:=d0;have F0:Fr Non wr wr.drew:=(Fr.refl Non wr).drew;have H0:cS wr.drew w.heap.size 3 (some ⟨b2,o2,none⟩) N PC:=Hb;have D0:cS wr.drew b2 (o2+p) A2 xs.length c2:=Db;have Q0:cI wr.drew b4 (o4+i) (p:Int):=Qb;clear d0 d2 bb;refine wp_region_held_drew (S:=fun w'=>cS w' w.heap.size 3 (some ⟨b2,o2,none⟩) N PC/\cS w' b2 (o2+p) A2 xs.length c2/\cI w' b4 (o4+i) (p:Int)) (by kernel_rfl) ⟨H0,D0,Q0⟩ (fun uu=> ?_);refine tkN 0 4 uu (h:=tkN 5 8 uu (h:=?_));clear uu;refine oG 4 (fun K hK=> ?_);go_simp;have bq:=(Blk.new wr 3 #[.int .i64 (p:Int)]).drew;have F1:Fr Non wr ((wr.alloc (.cells #[.int .i64 (p:Int)] 3)).drew):=((Fr.refl _ _).alloc _).drew;obtain ⟨H1,D1,Q1⟩:=zk3 F1 Hb Db Qb;refine hK.out _ _ ⟨H1,D1,Q1⟩ (fun hZ=> ?_);clear hZ hK K;try simp only [Ah,zl]
   generalize (wr.alloc (.cells #[.int .i64 (p:Int)] 3)).drew=v1 at*;have af:=Own.blk (base:=wr.heap.size) (n:=1) (size:=1) bq (A69 _) (by omega) rfl (by omega);have bd:=(bf.fr (ay.trans F1 zr) zr);refine oG 13 (fun K hK=> ?_);refine Du (base:=wr.heap.size) (.tmp 19) (.tmp 27) 22 rfl rfl rfl Da af bd (Au5 xs) (by omega) (by omega) F1.size ?_;intro A6 c6 v2 av bt bz;have F2:Fr Non wr v2:=F1.trans bt (fun j hj e=>by have e':wr.heap.size=j:=Option.some.inj e;omega);obtain ⟨H2,D2,Q2⟩:=zk3 F2 Hb Db Qb;refine hK.out _ _ ⟨H2,D2,Q2⟩ (fun uu=> ?_);clear hK K;try simp only [Ah,zl]
   refine tkN 14 1 uu (h:=?_);clear uu;refine oD ?_;go_simp;have ax:[Value.int .i64 (p:Int)]++xs.map Qv=(p::xs).map Qv:=rfl;have ao:1+xs.length=(p::xs).length:=by rw [A83];omega
   have ag:Own v2 wr.heap.size 3 1 A6 (p::xs).length c6 ((p::xs).map Qv):=by
    rw [<- ax,<- ao];exact av
   try rw [ao]
   have aj:(p::xs).length<=15:=by rw [A83];omega
   have a9:Hid (Bh l places i (p::xs) 0 ys):=⟨au.out.nodup,fun q=>by rw [au.out.mem q];simp⟩;have aq:=ae.fr F2 zr;have aw:=ae.row;have bs:=hf.trans F2 zr;have bm:=lh hp;clear av ae hf au ax ao H0 D0 Q0 H1 D1 Q1 H2 D2 Q2 Hb Db Qb hp bj a4 bf bd af;generalize p::xs=al at*;obtain ⟨M,hM⟩:=Ab al.length;rw [hM.out] at ag aj ⊢;generalize v2=wo at*;generalize wr=wa at*;go_wp2_with fail
   go_loopw [5,8] (fun s v wi=>∃(k:Nat) (Ay:Option Addr) (cy:Nat) (zs:List Nat),v=.int .i64 (k:Int)/\s=.slice Ay zs.length cy/\k<=M/\Hid (Bh l places i al k zs)/\Hid (∀q∈zs,q<N)/\Own wi w0.heap.size 3 1 Ay zs.length cy (zs.map Qv)/\Hid (Own wi wa.heap.size 3 1 A6 M c6 (al.map Qv))/\Hid (∀k,Ad Ay=some k->Ad A6≠some k)/\Fr Non w0 wi) (fun _ v _=>M-(intOf v).toNat)
   case atStart=>exact ⟨0,Ax,cx,ys,rfl,rfl,A72 _,a9.out,bl.out,aq,ag,(fun k hk e=>by have h1:=(ag.row k e).1;have h2:=(aw k hk).2;omega),bs⟩
   case round=>
    obtain ⟨k,Ay,cy,zs,rfl,rfl,hk,ah,az,ac,ab,ak,ar⟩:=hrel;have bv:=ac.row
    by_cases hkM:k<M
    ·
     obtain ⟨x,hx⟩:∃x,al[k]? =some x:=⟨_,A59 (by rw [hM.out];exact hkM)⟩;have a4:=bo.out x (A63 hx);obtain ⟨b5,o5,u5,bw,_,a0,d5⟩:=ab.out.rd.at hkM;rw [A62,hx] at a0;injection a0 with a0
     subst a0;subst bw;replace d5:cI wr b5 (o5+k) (x:Int):=d5;have b1:zs.length<=N:=ah.out.few az.out;obtain ⟨j1,j2,j3⟩:=ix k M
     have u0:decide ((k:Int)<M)=true:=decide_eq_true j2;have bk:decide (k<M)=true:=decide_eq_true hkM;have e1:=iw ((k:Int)+1);have kh:=lh (On wr.heap.size zs.length cy Ay zs x wr rfl ac.rd (by omega));have bi:Hid (∀(w4:World),Fr Non wr w4->cI w4 b5 (o5+k) (x:Int)):=fun w4 f=>f.cell d5 zq
     rcases zb (zs.contains x) with hc|hc
     ·
      have ai:=lh (ah.out.old hx hc);rw [hc] at kh;clear hx ah a3;go_wp2_with (go_at_call 37;(with_reducible refine (kh.out).mono ?_);rintro _ wq ⟨rfl,fq⟩;(have d6:=bi.out wq fq);(have ad:=ac.fr fq zr);(have aa:=ab.out.fr fq zr);(have ff:=ar.trans fq zr);clear ac ab ar);go_roundw
      case rel=>exact ⟨k+1,Ay,cy,zs,by go_num,rfl,by omega,ai.out,az.out,ad,aa,ak.out,ff⟩
      case measure=>simp [intOf];omega
     ·
      have ai:=lh (ah.out.new hx hc)
      have a8:Hid (∀q∈zs++[x],q<N):=fun q hq=>by
       rcases List.mem_append.1 hq with hq|hq
       · exact az.out q hq
       · rw [List.mem_singleton.1 hq];exact a4
      rw [hc] at kh;clear hx ah a3
      go_wp2_with (first
       |(go_at_call 37;(with_reducible refine (kh.out).mono ?_);rintro _ wq ⟨rfl,fq⟩;(have d6:=bi.out wq fq);(have ad:=ac.fr fq zr);(have aa:=ab.out.fr fq zr);(have ff:=ar.trans fq zr);clear ac ab ar;(have b3:=ff.size);have bF:=Blk.new wq 3 #[.int .i64 (x:Int)])
       |(at_builtin;go_loud (refine Av (base:=w0.heap.size) (.tmp 42) (.tmp 47) 22 rfl rfl rfl rfl Da (ad.alloc (.cells #[.int .i64 (x:Int)] 3)) (Rd.blk (n:=1) (size:=1) bF rfl) (by simp [Value.oneCell']) (by omega) (by omega) (by rw [A84];omega) ?_);intro A8 c8 w8 bc be ba))
      have bp:=ff.alloc (.cells #[.int .i64 (x:Int)] 3);have f8:Fr Non w0 w8:=bp.trans be (fun j hj e=>by have:=(bv j e).1;omega);have bx:Own w8 wa.heap.size 3 1 (some ⟨b5,o5,none⟩) M c6 (al.map Qv):=(aa.alloc (.cells #[.int .i64 (x:Int)] 3)).fr be (fun j e1 e2=>ak.out j e2 e1)
      have a5:Own w8 w0.heap.size 3 1 A8 (zs++[x]).length c8 ((zs++[x]).map Qv):=by
       rw [A61,A66];exact bc
      have a6:∀q,Ad A8=some q->Ad (some (⟨b5,o5,none⟩:Addr))≠some q:=fun q e e2=>by
       rcases ba with h8|h8
       · exact ak.out q (h8▸e) e2
       ·
        have h9:=(aa.row q e2).2
        have b0:q=wq.heap.size+1:=by
         have:=e.symm.trans h8;injection this with this
         rw [this,A84]
        first|omega|(have b8:=aa.row q e2;omega)
      go_roundw
      case rel=>exact ⟨k+1,A8,c8,zs++[x],by go_num,by rw [A61];rfl,by omega,ai.out,a8.out,a5,bx,a6,f8⟩
      case measure=>simp [intOf];omega
    ·
     obtain rfl:k=M:=by omega
     have u0:decide ((k:Int)<k)=false:=decide_eq_false (by omega);have bk:decide (k<k)=false:=decide_eq_false (by omega);have e1:=iw ((i:Int)+1);have bn:Hid (Bh l places (i+1) [] 0 zs):=(show Bh l places i al al.length zs from hM.out.symm▸ah.out).next bm.out a3.out;clear ah bm a3;go_wp2_with fail;go_roundw
     case rel=>exact ⟨i+1,Ay,cy,zs,by go_num,rfl,by omega,bn.out,az.out,ac,ar⟩
     case measure=>simp [intOf];omega
  ·
   obtain rfl:i=n:=by omega
   have u0:decide ((i:Int)<i)=false:=decide_eq_false (by omega);have bk:decide (i<i)=false:=decide_eq_false (by omega);have bu:Hid (Gz l places ys):=(show Bh l places places.length [] 0 ys from hn.out.symm▸au.out).done;have af:Own wr w.heap.size 3 1 Ax ys.length cx (ys.map Qv):=He ae (by omega);have hd:=lh (ap.out ys Ax cx wr bu.out bl.out af ay);clear ap au ae af;go_wp2_with fail;exact hd.out
theorem Au6 {l:List Pn} {places:List Nat} {k p:Nat} (h:places[k]? =some p):Cq l places (k+1)=if ((Cq l places k).contains p||places.any (fun q=>inP l q p))=true then Cq l places k else Cq l places k++[p]:=by
 conv=>lhs;unfold Cq
 rw [h]
def Lm (ys:List Nat) (w:World) (e:Ending) (w':World):Prop:=∃(A:Option Addr) (c:Nat),e=.returned (.slice A ys.length c)/\Own w' w.heap.size 3 1 A ys.length c (ys.map Qv)/\Fr Non w w'
theorem Au7 (base B n c:Nat) (r:FG) (A:Option Addr) (places:List Nat) (w:World) (h:r.own w base) (hn:Hid (places.length=n)) (hr:Rd w B 1 A n (places.map Qv)) (hnm:n<=1000) (hlt:∀p∈places,p<r.l.length):
  Calls zp 35 #[.agg r.cells,.slice A n c] w (Lm (Dm r.l places) w):=by
 have az:=h.num.few;have bg:=Blk.new w 28 r.cells;have f0:Fr Non w (w.alloc (.cells r.cells 28)):=(Fr.refl Non w).alloc _;have g3:Hid (r.cells[3]? =some (.slice r.pA r.l.length r.pC)):=rfl
 have ap:Hid (∀p,p<r.l.length->∃(xs:List Nat) (A2:Option Addr) (c2 b aq:Nat),r.pA=some ⟨b,aq,none⟩/\cS w b (aq+p) A2 xs.length c2/\xs.length<=14/\Rd w w.heap.size 1 A2 xs.length (xs.map Qv)/\(∀q,xs.contains q=inP r.l p q)):=by
  intro p hp;have hm:=A59 hp;obtain ⟨x,b,aq,h1,h2,h3,_,h4,h5,h6⟩:=h.pAt hm;refine ⟨x.xs,x.A,x.c,b,aq,h3,h4,by omega,RowAt.sl h2|>.rd,fun q=> ?_⟩;rw [A71,A82,Ia hm];exact h1.2 q
 clear h;replace hlt:=lh hlt;have a5:=lh (fun k p (hp:places[k]? =some p)=>Au6 (l:=r.l) (places:=places) hp);have a7:=lh (Lh r.l places);have a6:Hid (Cq r.l places 0=[]):=rfl;have a9:Hid (Cq r.l places n=Dm r.l places):=by show _=_;rw [<- hn.out];rfl
 have aj:Hid (∀A c w',Own w' w.heap.size 3 1 A (Dm r.l places).length c ((Dm r.l places).map Qv)->Fr Non w w'->Lm (Dm r.l places) w (.returned (.slice A (Dm r.l places).length c)) w'):=fun A c w' h1 h2=>⟨A,c,rfl,h1,h2⟩;have ah:Hid (∀x k q,places[k]? =some q->(places.take (k+1)).any (fun q=>inP r.l q x)=((places.take k).any (fun q=>inP r.l q x)||inP r.l q x)):=fun x k q hq=>by rw [Df hq,List.any_append,List.any_cons,List.any_nil,Bool.or_false]
 have ae:Hid (∀x,(places.take n).any (fun q=>inP r.l q x)=places.any (fun q=>inP r.l q x)):=fun x=>by rw [<- hn.out,A80]
 generalize Lm (Dm r.l places) w=POST at*;generalize Dm r.l places=HS at*;generalize Cq r.l places=HT at*;generalize r.pA=PA at*;generalize r.pC=PC at*;generalize r.cells=CS at*;generalize r.l=l at*;obtain ⟨N,hN⟩:=Ab l.length;rw [hN.out] at g3 ap az hlt;go_enter func35,ntmps35;go_upto_region 1 with (fail)
 have bl:=f0.size;generalize w.alloc (.cells CS 28)=w0 at*;go_wp2_with fail
 go_loopw [5,6] (fun s v wr=>∃(i:Nat) (Ax:Option Addr) (cx:Nat) (ys:List Nat),v=.int .i64 (i:Int)/\s=.slice Ax ys.length cx/\i<=n/\Hid (ys=HT i)/\Own wr w0.heap.size 3 1 Ax ys.length cx (ys.map Qv)/\Fr Non w0 wr) (fun _ v _=>n-(intOf v).toNat)
 case atStart=>exact ⟨0,none,0,[],rfl,rfl,A72 _,a6.out.symm,Own.nil _ _ _ _,Fr.refl _ _⟩
 case round=>
  obtain ⟨i,Ax,cx,ys,rfl,rfl,hi,ay,aa,hf⟩:=hrel;have ac:Fr Non w wr:=f0.trans hf zr
  by_cases hin:i<n
  ·
   obtain ⟨x,hx⟩:∃x,places[i]? =some x:=⟨_,A59 (by rw [hn.out];exact hin)⟩;have bm:ys.length<=i:=by rw [ay.out];exact a7.out i
   obtain ⟨b4,o4,u4,rfl,_,ak,d0⟩:=(hr.fr ac zr).at hin;rw [A62,hx] at ak;injection ak with ak
   subst ak;replace d0:cI wr b4 (o4+i) (x:Int):=d0;have af:=lh (a5.out i x hx);rw [<- ay.out] at af;obtain ⟨i1,i2,i3⟩:=ix i n
   have t0:decide ((i:Int)<n)=true:=decide_eq_true i2;have bi:decide (i<n)=true:=decide_eq_true hin;have bh:=iw ((i:Int)+1);have kh:=lh (On wr.heap.size ys.length cx Ax ys x wr rfl aa.rd (by omega));obtain ⟨c0,au⟩:=Ab (ys.contains x);have hB:Hid (∃BB:Nat->Bool,BB 0=c0/\(∀j q,places[j]? =some q->BB (j+1)=(BB j||inP l q x))/\BB n=(ys.contains x||places.any (fun q=>inP l q x))):=⟨fun j=>c0||(places.take j).any (fun q=>inP l q x),by simp,fun j q hq=>by (dsimp only;rw [ah.out x j q hq,Bool.or_assoc]),by (dsimp only;rw [ae.out x,au.out])⟩;obtain ⟨BB,av,ai,a1⟩:=hB.out;replace av:=lh av;replace ai:=lh ai;rw [<- a1] at af;rw [au.out] at kh;have bd:=lh hx;clear hB a1 au ah ae hx a5;go_wp2_with (go_at_call 37;(with_reducible refine (kh.out).mono ?_);rintro _ wq ⟨rfl,fq⟩;(have ax:=aa.fr fq zr);(have a3:=hf.trans fq zr));have bf:Fr Non w wq:=f0.trans a3 zr;clear kh aa hf ac d0;generalize wr=wa at*
   go_loopw [7,8] (fun b v wr=>∃(j:Nat),v=.int .i64 (j:Int)/\b=.bool (BB j)/\j<=n/\Own wr w0.heap.size 3 1 Ax ys.length cx (ys.map Qv)/\Fr Non w0 wr) (fun _ v _=>n-(intOf v).toNat)
   case atStart=>exact ⟨0,rfl,by rw [av.out],A72 _,ax,a3⟩
   case round=>
    obtain ⟨j,rfl,rfl,hj,aa,hf⟩:=hrel;have ac:Fr Non w wr:=f0.trans hf zr;obtain ⟨b6,o6,u6,e6,_,al,d6⟩:=(hr.fr ac zr).at hin;injection e6 with e6
    injection e6 with e7 e8
    subst e7;subst e8;obtain rfl:u6=.int .i64 (x:Int):=by rw [A62,bd.out] at al;injection al with al;exact al.symm
    replace d6:cI wr b4 (o4+i) (x:Int):=d6
    by_cases hjn:j<n
    ·
     obtain ⟨y,hy⟩:∃y,places[j]? =some y:=⟨_,A59 (by rw [hn.out];exact hjn)⟩;have bc:=hlt.out y (A63 hy);obtain ⟨b5,o5,u5,e5,_,ao,d5⟩:=(hr.fr ac zr).at hjn;injection e5 with e5
     injection e5 with e7 e8
     subst e7;subst e8;rw [A62,hy] at ao;injection ao with ao
     subst ao;replace d5:cI wr b4 (o4+j) (y:Int):=d5;obtain ⟨xs,A2,c2,b2,o2,rfl,d2,a8,bb,a4⟩:=ap.out y bc;have ad:=ai.out j y hy;have kq:=lh (On w.heap.size xs.length c2 A2 xs x wr.drew rfl (bb.fr ac.drew zr) (by omega));rw [a4 x] at kq;generalize inP l y x=IP at*;obtain ⟨j1,j2,j3⟩:=ix j n
     obtain ⟨p1,p2,p3⟩:=ix y N
     have u0:decide ((j:Int)<n)=true:=decide_eq_true j2;have a2:decide (j<n)=true:=decide_eq_true hjn;have e1:=iw ((j:Int)+1);have Hb:cS wr w.heap.size 3 (some ⟨b2,o2,none⟩) N PC:=((bg.fr hf zq).cell 3).trans g3.out;have Db:=ac.cell d2 zq;have Ib:=d5;have Jb:=d6;have F0:Fr Non wr wr.drew:=(Fr.refl Non wr).drew;have H0:cS wr.drew w.heap.size 3 (some ⟨b2,o2,none⟩) N PC:=Hb;have D0:cS wr.drew b2 (o2+y) A2 xs.length c2:=Db;have I0:cI wr.drew b4 (o4+j) (y:Int):=Ib;have J0:cI wr.drew b4 (o4+i) (x:Int):=Jb;clear d5 d6 d2 ap hy ai hlt a4;obtain ⟨bj,ab⟩:=Ab (BB j);rw [ab.out] at ad ⊢
     cases bj
     case false=>
      rw [Bool.false_or] at ad;replace ad:=lh ad;go_upto_region 9 with (fail)
      refine wp_region_held_drew (S:=fun w'=>cS w' w.heap.size 3 (some ⟨b2,o2,none⟩) N PC/\cS w' b2 (o2+y) A2 xs.length c2/\cI w' b4 (o4+j) (y:Int)/\cI w' b4 (o4+i) (x:Int)) (by kernel_rfl) ⟨H0,D0,I0,J0⟩ (fun uu=> ?_);refine tkN 0 14 uu (h:=?_);clear uu;refine oG 14 (fun K hK=> ?_);go_simp;go_wp2_with (go_at_call 37;(with_reducible refine (kq.out).mono ?_);rintro _ v1 ⟨rfl,ag⟩;obtain ⟨H1,D1,I1,J1⟩:=zk4 ag H0 D0 I0 J0;have F1:=F0.trans ag zr);refine hK.out _ _ ⟨H1,D1,I1,J1⟩ (fun uu=> ?_);clear hK K;try simp only [Ah,zl]
      refine tkN 15 2 uu (h:=?_);clear uu;refine oD ?_;go_simp;have fz:=hf.trans F1 zr;have oz:=aa.fr F1 zr;clear kq aa hf ac ab;go_wp2_with fail;go_roundw
      case rel=>exact ⟨j+1,by go_num,by rw [ad.out],by omega,oz,fz⟩
      case measure=>simp [intOf];omega
     case true=>
      rw [Bool.true_or] at ad;replace ad:=lh ad;go_upto_region 9 with (fail)
      refine wp_region_held_drew (S:=fun w'=>cS w' w.heap.size 3 (some ⟨b2,o2,none⟩) N PC/\cS w' b2 (o2+y) A2 xs.length c2/\cI w' b4 (o4+j) (y:Int)/\cI w' b4 (o4+i) (x:Int)) (by kernel_rfl) ⟨H0,D0,I0,J0⟩ (fun uu=> ?_);refine tkN 0 2 uu (h:=skN 2 13 uu (h:=tkN 15 2 uu (h:=?_)));clear uu;refine oD ?_;go_simp;have fz:=hf.trans F0 zr;have oz:=aa.fr F0 zr;clear kq aa hf ac ab;go_wp2_with fail;go_roundw
      case rel=>exact ⟨j+1,by go_num,by rw [ad.out],by omega,oz,fz⟩
      case measure=>simp [intOf];omega
    ·
     obtain rfl:j=n:=by omega
     have u0:decide ((j:Int)<j)=false:=decide_eq_false (by omega);have a2:decide (j<j)=false:=decide_eq_false (by omega);clear ai ap;obtain ⟨bj,ab⟩:=Ab (BB j);rw [ab.out] at af ⊢
     cases bj
     case true=>
      rw [if_pos rfl] at af;go_wp2_with fail;go_roundw
      case rel=>exact ⟨i+1,Ax,cx,ys,by go_num,rfl,by omega,af.out.symm,aa,hf⟩
      case measure=>simp [intOf];omega
     case false=>
      rw [if_neg (by simp)] at af;have a0:=aa.row;have bk:=hf.size;have bF:=Blk.new wr 3 #[.int .i64 (x:Int)];go_wp2_with (at_builtin;go_loud (refine Av (base:=w0.heap.size) (.tmp 45) (.tmp 50) 22 rfl rfl rfl rfl Da (aa.alloc (.cells #[.int .i64 (x:Int)] 3)) (Rd.blk (n:=1) (size:=1) bF rfl) (by simp [Value.oneCell']) (by omega) (by omega) (by rw [A84];omega) ?_);intro A8 c8 w8 aw ba be);have f8:Fr Non w0 w8:=(hf.alloc (.cells #[.int .i64 (x:Int)] 3)).trans ba (fun j hj e=>by have:=(a0 j e).1;omega)
      have ar:Own w8 w0.heap.size 3 1 A8 (ys++[x]).length c8 ((ys++[x]).map Qv):=by
       rw [A61,A66];exact aw
      go_roundw
      case rel=>exact ⟨i+1,A8,c8,ys++[x],by go_num,by rw [A61];rfl,by omega,af.out.symm,ar,f8⟩
      case measure=>simp [intOf];omega
  ·
   obtain rfl:i=n:=by omega
   have u0:decide ((i:Int)<i)=false:=decide_eq_false (by omega);have a2:decide (i<i)=false:=decide_eq_false (by omega);obtain rfl:ys=HS:=by rw [ay.out,a9.out]
   have hd:=lh (aj.out Ax cx wr (He aa (by omega)) ac);clear aj aa;go_wp2_with fail;exact hd.out
end Oq
namespace Oq
theorem Au8 {x:OpL} {w:World} {base:Nat} (h:x.lies w base) (R S:Nat):({x with r:=R,s:=S}:OpL).lies w base:=⟨h.past,h.path,h.nodes,h.body,h.refs,h.guards,h.boxes,h.hist,h.seals⟩
def Au9 (o:Op) (base:Nat) (w:World) (e:Ending) (w':World):Prop:=∃y:OpL,e=.returned (.agg y.cells)/\y.op=sgn o/\y.lies w' base/\Fr Non w w'
theorem Av0 (x:OpL) (d base:Nat) (w:World) (hd:x.by_=(d:Int)) (hd':d<=1000) (ho:x.lies w base) (hok:x.op.ok):
  Calls zp 80 #[.agg x.cells] w (Au9 x.op base w):=by
 have h:=Ad8 x d w (by rw [hd,IntKind.wrap_u64];omega) (by omega) ho.at hok;refine Calls.mono h ?_;rintro r w' ⟨h1,h2⟩;exact ⟨_,h1,Aq7 x x.op rfl d (by show x.by_.toNat=d;omega) _ rfl,Au8 (ho.non h2) _ _,h2⟩
def Cx (l:List Pn) (b:Int) (ys:List Nat):Nat->Int
 |0=>1
 |k+1=>match ys[k]? with
  |some p=>match l[p]? with
   |some n=>if n.o.by_=b then max (Cx l b ys k) (n.o.sq+1) else Cx l b ys k
   |none=>Cx l b ys k
  |none=>Cx l b ys k
theorem Ur {l:List Pn} {b:Int} {ys:List Nat} {k p:Nat} {n:Pn} (hp:ys[k]? =some p) (hn:l[p]? =some n):Cx l b ys (k+1)=if n.o.by_=b then max (Cx l b ys k) (n.o.sq+1) else Cx l b ys k:=by
 conv=>lhs;unfold Cx
 rw [hp];dsimp only;rw [hn]
theorem Oo {l:List Pn} {b m:Int} {ys:List Nat} (h1:1<=m) (h:∀p∈ys,∀n,l[p]? =some n->n.o.by_=b->n.o.sq+1<=m):∀k,Cx l b ys k<=m
 |0=>h1
 |k+1=>by
  have ih:=Oo (l:=l) (b:=b) h1 h k;unfold Cx
  split
  ·
   rename_i p hp
   split
   ·
    rename_i n hn
    split
    ·
     rename_i hb;exact Int.max_le.2 ⟨ih,h p (A63 hp) n hn hb⟩
    · exact ih
   · exact ih
  · exact ih
theorem Ot (l:List Pn) (b:Int) (ys:List Nat):∀k,1<=Cx l b ys k
 |0=>Int.le_refl _
 |k+1=>by
  have ih:=Ot l b ys k;unfold Cx
  split
  ·
   split
   ·
    split
    · exact Int.le_trans ih (Int.le_max_left _ _)
    · exact ih
   · exact ih
  · exact ih
theorem Us {l:List Pn} {b:Int} {ys:List Nat} {p:Nat} {n:Pn} (hn:l[p]? =some n) (hb:n.o.by_=b):∀(k j:Nat),j<k->ys[j]? =some p->n.o.sq+1<=Cx l b ys k
 |0,j,h,_=>absurd h (Nat.not_lt_zero j)
 |k+1,j,h,hj=>by
  rcases A85 j k with hjk|hjk
  ·
   have ih:=Us (l:=l) (b:=b) (ys:=ys) hn hb k j hjk hj;unfold Cx
   split
   ·
    split
    ·
     split
     · exact Int.le_trans ih (Int.le_max_left _ _)
     · exact ih
    · exact ih
   · exact ih
  ·
   obtain rfl:j=k:=by omega
   rw [Ur hj hn,if_pos hb];exact Int.le_max_right _ _
theorem Ut {cards:List Cd} {l:List Pn} (h:Rows cards l) (hf:l.length<=200) {hs ys:List Nat} (hb:Gz l hs ys) (hlt:∀p∈hs,p<l.length) (q:Nat):q∈ys<->Ak l (hs.map (nmP l)) q=true:=by
 have hat:∀p∈hs,∃n,l[p]? =some n/\nmP l p=n.id/\plc l (nmP l p)=some p:=fun p hp=>by
  have hn:=A59 (hlt p hp);exact ⟨_,hn,Gh hn,by rw [Gh hn];exact (h.ok p _ hn).plc⟩
 rw [hb.2 q];unfold Ak Cn C8 upB;rw [Bool.and_eq_true,Bool.or_eq_true,decide_eq_true_eq,A92,A92];constructor
 ·
  rintro (hq|⟨p,hp,hi⟩)
  ·
   obtain ⟨n,_,_,h3⟩:=hat q hq;have:=hlt q hq;exact ⟨by omega,.inr ⟨_,List.mem_map.2 ⟨q,hq,rfl⟩,by rw [h3];exact beq_self_eq_true _⟩⟩
  ·
   obtain ⟨n,h1,_,h3⟩:=hat p hp;have h4:n.ps q=true:=by rw [<- Ia h1];exact hi
   have h5:=(h.ok p n h1).lt q h4;have h6:=hlt p hp;refine ⟨by omega,.inl ⟨_,List.mem_map.2 ⟨p,hp,rfl⟩,?_⟩⟩;rw [h3];dsimp only;rw [h1];exact h4
 ·
  rintro ⟨_,⟨x,hx,hq⟩|⟨x,hx,hq⟩⟩
  ·
   obtain ⟨p,hp,rfl⟩:=List.mem_map.1 hx;obtain ⟨n,h1,_,h3⟩:=hat p hp;rw [h3] at hq;dsimp only at hq;rw [h1] at hq;exact .inr ⟨p,hp,by rw [Ia h1];exact hq⟩
  ·
   obtain ⟨p,hp,rfl⟩:=List.mem_map.1 hx;obtain ⟨n,h1,_,h3⟩:=hat p hp;rw [h3,beq_iff_eq] at hq;injection hq with hq
   exact .inl (hq▸hp)
theorem Av1 {cards:List Cd} {l:List Pn} (h:Rows cards l) (hf:l.length<=200) {hs ys:List Nat} (hb:Gz l hs ys) (hlt:∀p∈hs,p<l.length) (b:Int):Cx l b ys ys.length=Bc l (Ak l (hs.map (nmP l))) b l.length+1:=by
 have hp:=Ut h hf hb hlt;refine Int.le_antisymm (Oo (by have:=Li l (Ak l (hs.map (nmP l))) b l.length;omega) (fun p hpy n hn hnb=> ?_) _) ?_
 ·
  have:=Ns (List.getElem?_eq_some_iff.1 hn).1 hn hnb ((hp p).1 hpy);omega
 ·
  rcases Int.lt_or_le 0 (Bc l (Ak l (hs.map (nmP l))) b l.length) with h0|h0
  ·
   obtain ⟨k,m,_,h2,h3,h4,h5⟩:=Oa l.length h0;obtain ⟨j,hj⟩:=List.getElem?_of_mem ((hp k).2 h4);have:=Us h2 h3 ys.length j (List.getElem?_eq_some_iff.1 hj).1 hj;omega
  ·
   have:=Ot l b ys ys.length;omega
def Bs (l:List Pn) (o:Op) (hs:List Nat):Op:={o with sq:=Bc l (Ak l (hs.map (nmP l))) o.by_ l.length+1,at_:=o.at_+late l (hs.map (nmP l)),past:=Ba (hs.map (nmP l))}
def En (l:List Pn) (o:Op) (hs:List Nat):List Pn:=if (plc l (Bs l o hs).name).isSome=true then l else l++[Az l (sgn (Bs l o hs))]
theorem Av2 (l:List Pn) (x:Id):Bd (l.map Pn.id) x=(plc l x).isSome:=by
 rw [A71,Hu,List.mem_map];constructor
 ·
  rintro ⟨n,h1,h2⟩
  cases hp:plc l x with
  |some p=>rfl
  |none=>
   unfold plc at hp;rw [List.findIdx?_eq_none_iff] at hp;have:=hp n h1;rw [h2] at this
   first|exact absurd this (by simp)|(simp at this)
 ·
  intro h;obtain ⟨p,hp⟩:=Option.isSome_iff_exists.1 h;obtain ⟨n,h1,h2⟩:=Cg hp;exact ⟨n,A63 h1,h2⟩
def OpL.put (x:OpL) (s a:Int) (A:Option Addr) (c:Nat) (ps:List Id):OpL:={x with sq:=s,at_:=a,pastA:=A,pastC:=c,past:=ps}
theorem OpL.lies.put {w:World} {base c:Nat} {x:OpL} {s a:Int} {A:Option Addr} {ps:List Id} (h:x.lies w base) (ho:RowLies w base 45 3 A ps.length c (ps.flatMap Id.cells)):(x.put s a A c ps).lies w base:=
 ⟨ho,h.path,h.nodes,h.body,h.refs,h.guards,h.boxes,h.hist,h.seals⟩
theorem Gk {w:World} {g:Nat} (cs:Array Value):Fr (One g) w (w.setRow g cs):=(Fr.refl (One g) w).setRow (fun _=>rfl) cs
theorem FG.own.setG {w:World} {base gv:Nat} {r:FG} {cs:Array Value} (h:r.own w base) (hb:Blk w gv 28 cs) (cs':Array Value):r.own (w.setRow gv cs') base:=
 h.keepP (Gk cs') (Types.one hb) (by decide) (by decide) (by decide) (by decide) (by decide) (by decide) (by decide) (by decide) (by decide) (by decide)
theorem Ou (l0:List Int) (i:Nat):Dh l0 i<=1000000:=by
 unfold Dh
 split
 ·
  rename_i q _;have:=Jp (n:=q) (m:=1000000) (by omega);omega
 · omega
structure Cc (w v:World) (CS:Array Value) (x:OpL) (s a:Int) (A:Option Addr) (n c:Nat) (ps:List Id):Prop where
 g:Blk v w.heap.size 28 CS
 b:Blk v (w.heap.size+1) 52 (x.put s a A c ps).cells
 r:Blk v (w.heap.size+2) 28 #[.slice none 0 0,.slice none 0 0,.slice none 0 0,.slice none 0 0]
 f:Fr Non w v
 sz:w.heap.size+3<=v.heap.size
 past:Own v (w.heap.size+3) 45 3 A n c (ps.flatMap Id.cells)
 len:ps.length=n
theorem Cc.over {S:Nat->Prop} {w v v':World} {CS:Array Value} {x:OpL} {s a:Int} {A:Option Addr} {n c:Nat} {ps:List Id} (h:Cc w v CS x s a A n c ps) (hf:Fr S v v') (hS:∀k,S k->w.heap.size+3<=k) (ho:Own v' (w.heap.size+3) 45 3 A n c (ps.flatMap Id.cells)):Cc w v' CS x s a A n c ps where
 g:=h.g.fr hf (fun e=>by have:=hS _ e;omega)
 b:=h.b.fr hf (fun e=>by have:=hS _ e;omega)
 r:=h.r.fr hf (fun e=>by have:=hS _ e;omega)
 f:=h.f.trans hf (fun k hk e=>by have:=hS _ e;omega)
 sz:=A81 h.sz hf.size
 past:=ho
 len:=h.len
theorem Cc.non {w v v':World} {CS:Array Value} {x:OpL} {s a:Int} {A:Option Addr} {n c:Nat} {ps:List Id} (h:Cc w v CS x s a A n c ps) (hf:Fr Non v v'):Cc w v' CS x s a A n c ps:=
 h.over hf (fun _ e=>e.elim) (h.past.fr hf zr)
theorem Cc.setB {w v:World} {CS:Array Value} {x:OpL} {s a s' a':Int} {A:Option Addr} {n c:Nat} {ps:List Id} (h:Cc w v CS x s a A n c ps) (j:Nat) (u:Value) (hc:(x.put s a A c ps).cells.setIfInBounds j u=(x.put s' a' A c ps).cells):Cc w (v.setCell ⟨w.heap.size+1,j,none⟩ u) CS x s' a' A n c ps where
 g:=h.g.far (p:=⟨w.heap.size+1,j,none⟩) (by show w.heap.size≠w.heap.size+1;omega) u
 b:=hc▸h.b.set j u
 r:=h.r.far (p:=⟨w.heap.size+1,j,none⟩) (by show w.heap.size+2≠w.heap.size+1;omega) u
 f:=h.f.setNew (g:=w.heap.size+1) (by omega) j u
 sz:=by have:=h.sz;first|exact this|(simp [A73];omega)
 past:=Own.setFar h.past h.b (by decide) u
 len:=h.len
theorem Cc.sq {w v:World} {CS:Array Value} {x:OpL} {s a:Int} {A:Option Addr} {n c:Nat} {ps:List Id} (h:Cc w v CS x s a A n c ps) (s':Int):Cc w (v.setCell ⟨w.heap.size+1,1,none⟩ (.int .i64 s')) CS x s' a A n c ps:=h.setB 1 _ rfl
theorem Cc.at_ {w v:World} {CS:Array Value} {x:OpL} {s a:Int} {A:Option Addr} {n c:Nat} {ps:List Id} (h:Cc w v CS x s a A n c ps) (a':Int):Cc w (v.setCell ⟨w.heap.size+1,3,none⟩ (.int .i64 a')) CS x s a' A n c ps:=h.setB 3 _ rfl
theorem Cc.past! {S:Nat->Prop} {w v v':World} {CS:Array Value} {x:OpL} {s a:Int} {A A':Option Addr} {n c n' c':Nat} {ps ps':List Id} (h:Cc w v CS x s a A n c ps) (hf:Fr S v v') (hS:∀k,S k->w.heap.size+3<=k) (ho:Own v' (w.heap.size+3) 45 3 A' n' c' (ps'.flatMap Id.cells)) (hl:ps'.length=n'):Cc w (v'.setCell ⟨w.heap.size+1,4,none⟩ (.slice A' n' c')) CS x s a A' n' c' ps':=by
 have g:=h.g.fr hf (fun e=>by have:=hS _ e;omega);have b:=h.b.fr hf (fun e=>by have:=hS _ e;omega);have r:=h.r.fr hf (fun e=>by have:=hS _ e;omega);have f:=h.f.trans hf (fun k hk e=>by have:=hS _ e;omega);have sz:=A81 h.sz hf.size;refine ⟨g.far (p:=⟨w.heap.size+1,4,none⟩) (by show w.heap.size≠w.heap.size+1;omega) _,?_,r.far (p:=⟨w.heap.size+1,4,none⟩) (by show w.heap.size+2≠w.heap.size+1;omega) _,f.setNew (g:=w.heap.size+1) (by omega) 4 _,?_,Own.setFar ho b (by decide) _,hl⟩
 ·
  subst hl;exact b.set 4 (.slice A' ps'.length c')
 · first|exact sz|(simp [A73];omega)
def FG.more (r:FG) (x:OpL) (lA:Option Addr) (lC:Nat) (iA:Option Addr) (iC:Nat) (pA:Option Addr) (pC:Nat) (u:UpL):FG:=
 {cA:=r.cA,cC:=r.cC,cards:=r.cards,lA:=lA,lC:=lC,xs:=r.xs++[x],iA:=iA,iC:=iC,pA:=pA,pC:=pC,ps:=r.ps++[u],l:=r.l++[Az r.l x.op]}
theorem Av3 {w wz:World} {base:Nat} {r:FG} {x:OpL} {lA iA pA:Option Addr} {lC iC pC:Nat} {u:UpL} (h:r.own w base) (hx:x.lies wz base) (hok:x.op.ok) (hf:Fr Non w wz) (hb:base<=w.heap.size+3) (he:Au r.cards r.l x.op=0) (hB:FkB (r.l++[Az r.l x.op]))
  (oL:Own wz (w.heap.size+3) 52 27 lA (r.l.length+1) lC (r.xs.flatMap (fun x=>x.cells.toList)++x.cells.toList))
  (oI:Own wz (w.heap.size+3) 45 3 iA (r.l.length+1) iC (r.ids.flatMap Id.cells++x.op.name.cells))
  (oU:Own wz (w.heap.size+3) 22 1 pA (r.l.length+1) pC (r.ps.map UpL.cell++[u.cell])) (ou:u.own wz base) (hu:Ll (Az r.l x.op) u.xs):
  (r.more x lA lC iA iC pA pC u).own wz base:=by
 have hlen:(r.l++[Az r.l x.op]).length=r.l.length+1:=by rw [A61];rfl
 refine ⟨h.cards.non hf,?_,?_,?_,?_,?_,?_,?_,?_,?_,Rows.snoc r.l x.op h.rows he,hB,h.cfew,h.cok⟩
 ·
  show RowAt wz base 52 27 lA (r.l++[Az r.l x.op]).length lC ((r.xs++[x]).flatMap (fun x=>x.cells.toList));rw [hlen,A67,A74,A86,A87];exact (RowAt.of_own oL).lower hb
 ·
  intro y hy
  rcases List.mem_append.1 hy with h1|h1
  · exact (h.each y h1).non hf
  ·
   rw [A70] at h1;rw [h1];exact hx
 ·
  show (r.xs++[x]).map OpL.op=(r.l++[Az r.l x.op]).map Pn.o;rw [A66,A66,h.same];rfl
 ·
  intro n hn'
  rcases List.mem_append.1 hn' with h1|h1
  · exact h.ok n h1
  ·
   rw [A70] at h1;rw [h1,I8,Ud];exact ⟨hok,Lb hok⟩
 ·
  show RowAt wz base 45 3 iA (r.l++[Az r.l x.op]).length iC (((r.l++[Az r.l x.op]).map Pn.id).flatMap Id.cells);rw [hlen,A66,A67,List.map_cons,List.map_nil,A74,A86,A87,Ud];exact (RowAt.of_own oI).lower hb
 ·
  show RowAt wz base 22 1 pA (r.l++[Az r.l x.op]).length pC ((r.ps++[u]).map UpL.cell);rw [hlen,A66];exact (RowAt.of_own oU).lower hb
 ·
  intro y hy
  rcases List.mem_append.1 hy with h1|h1
  · exact RowAt.non (h.eachP y h1) hf
  ·
   rw [A70] at h1;rw [h1];exact ou
 ·
  show (r.ps++[u]).length=(r.l++[Az r.l x.op]).length;rw [A61,A61,h.lenP];rfl
 ·
  intro i y n hy hn;replace hy:(r.ps++[u])[i]? =some y:=hy;replace hn:(r.l++[Az r.l x.op])[i]? =some n:=hn
  rcases A85 i r.l.length with hi|hi
  ·
   rw [A75 (by rw [h.lenP];exact hi)] at hy;rw [A75 hi] at hn;exact h.sameP i y n hy hn
  ·
   have hi2:=(List.getElem?_eq_some_iff.1 hn).1;rw [hlen] at hi2;obtain rfl:i=r.l.length:=by omega
   rw [A68 (by rw [h.lenP];exact A69 _),h.lenP,A88] at hy;rw [A68 (A69 _),A88] at hn;injection hy with hy
   injection hn with hn
   rw [<- hy,<- hn];exact hu
def Uu (t:TypeId) (len:Nat) (parts:Array (Nat × Value)):=Instr.buildSlice t len parts
theorem Uw (n:Nat) (p:Array (Nat × Value)):Instr.buildSlice 24 n p=Uu 24 n p:=rfl
theorem Ux (x:OpL) (w:World):(Uu 24 1 #[(0,.agg x.cells)]).run zp w=.ok (.slice (some ⟨w.heap.size,0,none⟩) 1 1) (w.alloc (.cells x.cells 52)):=by
 obtain ⟨ht,hinfo,_⟩:=slOp;obtain ⟨i,hi,hz,hs,_⟩:=info_parts hinfo;exact run_buildSlice w 24 52 1 _ _ i _ ht hi hz (by rw [hs];decide) (by rw [hs];decide) (by rw [hs];kernel_rfl)
theorem Av4 {P:Program} {Q:Exit->Act->World->Prop} {l:List Oper} {md:Region.Mode} {S:World->Prop} {g fuel:Nat} {listed:Array Bool} {a:Act} {w:World} (i j:Nat) {d:Option Tmp} {op:Go.Op} {ty:TypeId} {pos:String} {after:Array Edge} {d':Option Tmp} {op':Go.Op} {ty':TypeId} {pos':String} {after':Array Edge}
  (hr:Region.ready md l.toArray listed=[i,j]) (ho:l[i]? =some ⟨d,op,ty,pos,after,none⟩) (ho':l[j]? =some ⟨d',op',ty',pos',after',none⟩)
  (h:∀K':Act->World->Prop,Shut (∀a w,S w->(S w->Co P md l.toArray Q S g fuel (listed.setIfInBounds i true) a w)->K' a w)->Oper.wp P ⟨d,op,ty,pos,after,none⟩ a w K' Q)
  (h':∀K':Act->World->Prop,Shut (∀a w,S w->(S w->Co P md l.toArray Q S g fuel (listed.setIfInBounds j true) a w)->K' a w)->Oper.wp P ⟨d',op',ty',pos',after',none⟩ a w K' Q):
  Co P md l.toArray Q S g (fuel+1) listed a w:=by
 refine ⟨fun h0=>(by rw [hr] at h0;cases h0),fun k hk=> ?_⟩;rw [hr] at hk
 rcases List.mem_cons.1 hk with rfl|hk
 ·
  refine wpOp_step (o:=⟨d,op,ty,pos,after,none⟩) (by rw [A76];exact ho) (fun K' hK=> ?_);rw [if_pos (show Region.wanted _ _=true from rfl)];exact h K' (fun a w hS hW=>hK a w ⟨fun _=>hS,hW hS⟩)
 ·
  obtain rfl:=List.mem_singleton.1 hk;refine wpOp_step (o:=⟨d',op',ty',pos',after',none⟩) (by rw [A76];exact ho') (fun K' hK=> ?_);rw [if_pos (show Region.wanted _ _=true from rfl)];exact h' K' (fun a w hS hW=>hK a w ⟨fun _=>hS,hW hS⟩)
theorem Ic (r:FG):r.cells.all (·.oneCell')=true:=by unfold FG.cells;simp [Value.oneCell']
theorem Ov (x:OpL):∀u∈x.cells.toList,u.oneCell'=true:=by
 intro u hu;have h:=E8 x;rw [Array.all_eq_true'] at h;exact h u (Array.mem_toList_iff.1 hu)
theorem Uy (l:List OpL):∀u∈l.flatMap (fun x=>x.cells.toList),u.oneCell'=true:=by
 intro u hu;obtain ⟨x,_,hx⟩:=List.mem_flatMap.1 hu;exact Ov x u hx
theorem Av5 (l:List UpL):∀u∈l.map UpL.cell,u.oneCell'=true:=by
 intro u hu;obtain ⟨x,_,rfl⟩:=List.mem_map.1 hu;rfl
theorem Cc.setG {w v:World} {CS:Array Value} {x:OpL} {s a:Int} {A:Option Addr} {n c:Nat} {ps:List Id} (h:Cc w v CS x s a A n c ps) (j:Nat) (u:Value):Cc w (v.setCell ⟨w.heap.size,j,none⟩ u) (CS.setIfInBounds j u) x s a A n c ps where
 g:=h.g.set j u
 b:=h.b.far (p:=⟨w.heap.size,j,none⟩) (by show w.heap.size+1≠w.heap.size;omega) u
 r:=h.r.far (p:=⟨w.heap.size,j,none⟩) (by show w.heap.size+2≠w.heap.size;omega) u
 f:=h.f.setNew (g:=w.heap.size) (by omega) j u
 sz:=by have:=h.sz;first|exact this|(simp [A73];omega)
 past:=Own.setFar h.past h.g (by decide) u
 len:=h.len
theorem OpL.lies.setG {v:World} {base:Nat} {z:OpL} {g:Nat} {cs:Array Value} (h:z.lies v base) (hb:Blk v g 28 cs) (j:Nat) (u:Value):z.lies (v.setCell ⟨g,j,none⟩ u) base:=
 h.keepP ((Fr.refl (One g) v).setOne j u) (Types.one hb) (by decide) (by decide) (by decide) (by decide) (by decide) (by decide) (by decide)
def Hf (base:Nat) (r:FG) (o:Op) (hs:List Nat) (w:World) (e:Ending) (w':World):Prop:=
 ∃r':FG,e=.returned (.agg r'.cells)/\Fr Non w w'/\r'.own w' base/\r'.cards=r.cards/\r'.l=En r.l o hs
theorem Av6 {w wz:World} {base:Nat} {r:FG} {o:Op} {hs ys:List Nat} {z:OpL} {lA iA pA A7:Option Addr} {lC iC pC c7 N M:Nat} (h:r.own w base) (hb:base<=w.heap.size) (hf:Fr Non w wz) (hz:z.op=sgn (Bs r.l o hs)) (hzl:z.lies wz base) (hok:(Bs r.l o hs).ok) (hbh:Gz r.l hs ys) (hlt:∀p∈hs,p<r.l.length)
  (hpl:(plc r.l (Bs r.l o hs).name).isSome=false) (he:Au r.cards r.l (sgn (Bs r.l o hs))=0) (hB:FkB (r.l++[Az r.l (sgn (Bs r.l o hs))])) (hN:r.l.length=N) (hM:ys.length=M)
  (oL:Own wz (w.heap.size+3) 52 27 lA (N+1) lC (r.xs.flatMap (fun x=>x.cells.toList)++z.cells.toList))
  (oI:Own wz (w.heap.size+3) 45 3 iA (N+1) iC (r.ids.flatMap Id.cells++(Bs r.l o hs).name.cells))
  (oU:Own wz (w.heap.size+3) 22 1 pA (N+1) pC (r.ps.map UpL.cell++[.slice A7 M c7]))
  (o7:Own wz (w.heap.size+3) 3 1 A7 M c7 (ys.map Qv)):
  Hf base r o hs w (.returned (.agg #[.slice r.cA r.cards.length r.cC,.slice lA (N+1) lC,.slice iA (N+1) iC,.slice pA (N+1) pC])) wz:=by
 subst hN;subst hM;have hlen:(r.l++[Az r.l z.op]).length=r.l.length+1:=by rw [A61];rfl
 refine ⟨r.more z lA lC iA iC pA pC ⟨A7,c7,ys⟩,?_,hf,Av3 h hzl (by rw [hz];exact Ar9 hok) hf (by omega) (by rw [hz];exact he) (by rw [hz];exact hB) oL (by rw [hz,Aq0];exact oI) oU ((RowAt.of_own o7).lower (by omega)) ⟨hbh.1,fun q=> ?_⟩,rfl,?_⟩
 ·
  show ze (.agg #[.slice r.cA r.cards.length r.cC,.slice lA (r.l.length+1) lC,.slice iA (r.l.length+1) iC,.slice pA (r.l.length+1) pC])=ze (.agg #[.slice r.cA r.cards.length r.cC,.slice lA (r.l++[Az r.l z.op]).length lC,.slice iA (r.l++[Az r.l z.op]).length iC,.slice pA (r.l++[Az r.l z.op]).length pC]);rw [hlen]
 ·
  show q∈ys<->Ak r.l z.op.past q=true;rw [hz,Aq4];show q∈ys<->Ak r.l (Ba (hs.map (nmP r.l))) q=true;rw [Um (Dt _)];exact Ut h.rows (by have:=h.num.few;omega) hbh hlt q
 ·
  show r.l++[Az r.l z.op]=En r.l o hs;unfold En;rw [hpl,if_neg A93,hz]
theorem Ow (g:Nat):∀(vs:List Value) (o:Nat) (w:World) (cur:Array Value) (t:TypeId) (fr:Nat × Nat),w.heap[g]? =some (.cells cur t fr)->
  ∃cur':Array Value,(w.setCells g o vs).heap[g]? =some (.cells cur' t fr)/\cur'.size=cur.size/\∀q,q<cur.size->cur'[q]? =if o<=q/\q<o+vs.length then vs[q-o]? else cur[q]?
 |[],o,w,cur,t,fr,h=>⟨cur,h,rfl,fun q _=>by rw [if_neg (by rw [List.length_nil];omega)]⟩
 |v::vs,o,w,cur,t,fr,h=>by
  have h1:(w.setCell ⟨g,o,none⟩ v).heap[g]? =some (.cells (cur.setIfInBounds o v) t fr):=by
   simp [A73,Array.getElem?_modify,h]
  obtain ⟨cur',e1,e2,e3⟩:=Ow g vs (o+1) _ _ t fr h1;rw [Array.size_setIfInBounds] at e2 e3;refine ⟨cur',e1,e2,fun q hq=> ?_⟩;rw [e3 q hq,A83]
  by_cases h2:o+1<=q/\q<o+1+vs.length
  · rw [if_pos h2,if_pos (by omega),show q-o=(q-(o+1))+1 by omega,List.getElem?_cons_succ]
  ·
   rw [if_neg h2,Array.getElem?_setIfInBounds]
   by_cases h3:o=q
   ·
    subst h3;rw [if_pos rfl,if_pos hq,if_pos (by omega),A88,List.getElem?_cons_zero]
   · rw [if_neg h3,if_neg (by omega)]
theorem Av7 {α:Type} {f:α->List Value} {size:Nat} (hf:∀x,(f x).length=size) (l:List α) (i:Nat) (hi:i<l.length) (q:Nat) (_hq:q<(l.length-1)*size):
  ((l.eraseIdx i).flatMap f)[q]? =if q<i*size then (l.flatMap f)[q]? else (l.flatMap f)[q+size]? :=by
 rw [A89,A67];have e:l.flatMap f=(l.take i).flatMap f++(l.drop i).flatMap f:=by rw [<- A67,A94]
 have hl:((l.take i).flatMap f).length=i*size:=by rw [Er hf,A90,Nat.min_eq_left (by omega)]
 by_cases h:q<i*size
 · rw [if_pos h,A75 (by omega),e,A75 (by omega)]
 ·
  rw [if_neg h,A68 (by omega),e,A68 (by omega),hl,List.drop_eq_getElem_cons hi,A74,A68 (by rw [hf];omega),hf];congr 1;omega
theorem Uz (z:Value) (n:Nat) (hz:z.cells.size=27):(Builtin.zeroCells z.cells n).toList.length=n*27:=by
 simp [Builtin.zeroCells,hz]
theorem Av8 (z:Value) (hz:z.cells.size=27) (h1:∀u∈z.cells.toList,u.oneCell'=true):∀v∈(Builtin.zeroCells z.cells 1).toList,v.oneCell'=true:=by
 intro v hv;unfold Builtin.zeroCells at hv;rw [Array.toList_map] at hv;obtain ⟨i,hi,rfl⟩:=List.mem_map.1 hv
 have hi':i<27:=by
  rw [Array.toList_range,List.mem_range] at hi;omega
 refine h1 _ ?_;have hm:i%z.cells.size<z.cells.size:=Nat.mod_lt _ (by omega);rw [getElem!_pos z.cells (i%z.cells.size) hm,<- Array.getElem_toList (h:=hm)];exact List.getElem_mem _
def Ox (base:Nat) (A:Option Addr) (n c:Nat) (l:List OpL) (w:World) (e:Ending) (w':World):Prop:=
 e=.returned (.slice A n c)/\Own w' base 52 27 A n c (l.flatMap (fun x=>x.cells.toList))/\Fr (fun k=>Ad A=some k) w w'
theorem Ie:∀x:OpL,x.cells.toList.length=27:=fun _=>rfl
theorem Av9 (base n c i j:Nat) (A:Option Addr) (l:List OpL) (w:World) (hj:Hid (j=i+1)) (hn:Hid (l.length=n)) (hown:Own w base 52 27 A n c (l.flatMap (fun x=>x.cells.toList))) (hi:i<n) (hnm:n<=1000000):
  Calls zp 94 #[.slice A n c,.int .i64 (i:Int),.int .i64 (j:Int)] w (Ox base A (n-1) c (l.eraseIdx i) w):=by
 obtain ⟨g,ai,ae,hv,hb,hg,h1,h2,h3,h4⟩:∃g ai ae,Value.slice A n c=.slice (some ⟨g,0,none⟩) n ai/\base<=g/\w.heap[g]? =some (.cells ae 52 (0,0))/\n<=ai/\ai<=maxLen/\ae.size=ai*27/\ae.toList.take (n*27)=l.flatMap (fun x=>x.cells.toList):=by
  rcases hown.2 with ⟨_,h0⟩|h
  · omega
  · exact h
 injection hv with hA _ hc
 subst hA hc;have a3:c<=9223372036854775807:=h2;obtain ⟨iO,az,hz,ax,_⟩:=info_parts slOp.2.1;have af:=hn.out;have aq:=hj.out;have hM:i+(n-j)=n-1:=by omega
 have aj:n-(i+(n-j))=1:=by omega
 have ap:(l.flatMap (fun x:OpL=>x.cells.toList)).length=n*27:=by rw [Er (f:=fun x:OpL=>x.cells.toList) (size:=27) Ie,af]
 have ad:∀q,q<n*27->ae[q]? =(l.flatMap (fun x:OpL=>x.cells.toList))[q]? :=fun q hq=>by
  rw [<- h4,A95 hq,A96]
 obtain ⟨aa,ab⟩:∃aa,aa=(l.drop (i+1)).flatMap (fun x:OpL=>x.cells.toList):=⟨_,rfl⟩;have ag:aa.length=(n-(i+1))*27:=by rw [ab,Er (f:=fun x:OpL=>x.cells.toList) (size:=27) Ie,List.length_drop,af]
 have av:∀t,aa[t]? =(l.flatMap (fun x:OpL=>x.cells.toList))[(i+1)*27+t]? :=fun t=>by
  have e:l.flatMap (fun x:OpL=>x.cells.toList)=(l.take (i+1)).flatMap (fun x:OpL=>x.cells.toList)++(l.drop (i+1)).flatMap (fun x:OpL=>x.cells.toList):=by rw [<- A67,A94]
  have hl:((l.take (i+1)).flatMap (fun x:OpL=>x.cells.toList)).length=(i+1)*27:=by rw [Er (f:=fun x:OpL=>x.cells.toList) (size:=27) Ie,A90,Nat.min_eq_left (by omega)]
  rw [e,A68 (by omega),hl,ab,Nat.add_sub_cancel_left]
 have ac:Blk w g 52 ae:=hg
 have a1:Hid (∀u∈aa,u.oneCell'=true):=by
  show ∀u∈aa,_;rw [ab];exact Uy _
 obtain ⟨A2,a5,ao⟩:∃A2:Addr,(if c=j then (some ⟨g,0,none⟩:Option Addr) else some ⟨g,j*27,none⟩)=some A2/\Hid (∀t u,aa[t]? =some u->w.drew.cell? (A2.add t)=some u):=by
  by_cases h:c=j
  ·
   refine ⟨⟨g,0,none⟩,if_pos h,fun t u hu=> ?_⟩;have h0:aa.length=0:=by rw [ag];omega
   rw [List.length_eq_zero_iff.1 h0] at hu
   cases hu
  ·
   refine ⟨⟨g,j*27,none⟩,if_neg h,fun t u hu=> ?_⟩;have ht:=(List.getElem?_eq_some_iff.1 hu).1;rw [ag] at ht;rw [Addr.add_lit];show w.cell? _=_;rw [ac.cell,aq,ad _ (by omega),<- av];exact hu
 have s1:Hid (aa.length=(n-j)*27):=by show _=_;rw [aq];exact ag
 have s3:Hid (∀t,t<aa.length->(w.drew.cell? ⟨g,0+i*27+t,none⟩).isSome=true/\w.drew.frozen? ⟨g,0+i*27+t,none⟩=false):=by
  intro t ht;rw [ag] at ht;refine ⟨?_,ac.drew.frozen _⟩;rw [ac.drew.cell,A97 (by rw [h3];omega)];rfl
 obtain ⟨W1,ak⟩:∃W1,W1=w.drew.setCells g (0+i*27) aa:=⟨_,rfl⟩;obtain ⟨ah,k1,k2,k3⟩:=Ow g aa (0+i*27) w.drew ae _ _ hg;rw [<- ak] at k1;have al:Blk W1 g 52 ah:=k1;obtain ⟨ZS,aw⟩:∃ZS,ZS=(Builtin.zeroCells (Value.agg zO).cells (n-(i+(n-j)))).toList:=⟨_,rfl⟩;have ay:ZS.length=27:=by rw [aw,aj];exact Uz _ 1 rfl
 have a0:∀ty,(Builtin.clear_ #[24] ty #[.slice (some ⟨g,(i+(n-j))*27,none⟩) (n-(i+(n-j))) (c-(i+(n-j)))]).run zp W1=.ok (.tuple #[]) (W1.setCells g ((i+(n-j))*27) ZS):=fun ty=>by
  rw [aw];refine S1 W1 24 52 ty _ underlying24 (fun _=>zeroValue52 _) g ((i+(n-j))*27) (n-(i+(n-j))) (c-(i+(n-j))) (by omega) (fun q hq=> ?_) (fun q _=>al.frozen _) (by rw [aj];exact Av8 _ rfl (by simp [Value.cells,Value.oneCell']));rw [aj,Uz _ 1 rfl] at hq;rw [al.cell,A97 (by rw [k2,h3];omega)];rfl
 have au:Hid (Ox base (some ⟨g,0,none⟩) (n-1) c (l.eraseIdx i) w (.returned (.slice (some ⟨g,0,none⟩) (i+(n-j)) c)) (W1.setCells g ((i+(n-j))*27) ZS)):=by
  rw [hM];obtain ⟨ar,j1,j2,j3⟩:=Ow g ZS ((n-1)*27) W1 ah _ _ k1;refine ⟨rfl,⟨?_,.inr ⟨g,c,ar,rfl,hb,j1,by omega,h2,by rw [j2,k2,h3],?_⟩⟩,?_⟩
  · rw [Er (f:=fun x:OpL=>x.cells.toList) (size:=27) Ie,A77 (by omega),af]
  ·
   apply List.ext_getElem?;intro q
   rcases A85 q ((n-1)*27) with hq|hq
   ·
    rw [A95 hq,A96,j3 q (by rw [k2,h3];omega),if_neg (by omega),k3 q (by rw [h3];omega),Nat.zero_add,
     Av7 (f:=fun x:OpL=>x.cells.toList) (size:=27) Ie l i (by omega) q (by rw [af];exact hq)]
    by_cases h:q<i*27
    · rw [if_neg (by omega),if_pos h,ad q (by omega)]
    ·
     rw [if_pos (by rw [ag];omega),if_neg h,av];congr 1;omega
   ·
    rw [A78 (by rw [A90];omega),A78];rw [Er (f:=fun x:OpL=>x.cells.toList) (size:=27) Ie,A77 (by omega),af];exact hq
  ·
   have f1:Fr (fun k=>Ad (some ⟨g,0,none⟩)=some k) w W1:=by
    rw [ak];exact ((Fr.refl _ w).drew).trans (Kp g aa (0+i*27) w.drew) (fun k _ e=>by have e':k=g:=e;subst e';rfl)
   exact f1.trans (Kp g ZS ((n-1)*27) W1) (fun k _ e=>by have e':k=g:=e;subst e';rfl)
 have hW:Hid (W1=w.drew.setCells g (0+i*27) aa):=ak;have a4:i<=c:=by omega
 have a2:j<=c:=by omega
 have q1:((i:Int)==(j:Int))=false:=beq_eq_false_iff_ne.2 (by omega);have q2:(0:Int)<=(i:Int):=by omega
 have q3:(i:Int)<=(j:Int):=by omega
 have q4:(j:Int)<=(n:Int):=by omega
 have q5:(n:Int)<=(c:Int):=by omega
 have q6:(0:Int)<=(j:Int):=by omega
 have q7:¬c=i+(n-j):=by omega
 clear hown ad av ab ag ap af h4 hg ac k1 k2 k3 al aw ak h3 ay aq hM aj hj hn;generalize Ox base (some ⟨g,0,none⟩) (n-1) c (l.eraseIdx i) w=POST at*;go_enter func94,ntmps94;go_wp2_with fail
 go_region_law (refine step_append_room rfl (.tmp 22) (.tmp 25) 24 rfl 52 iO 27 underlying24 az ax g 0 i c (by simp [Act.eval,Act.put]) A2 (n-j) (c-j) aa (by simp [Act.eval,Act.put]) s1.out ao.out a1.out (by omega) s3.out ?_;rw [<- hW.out])
 go_wp2;exact au.out
structure Ag where
 rb:Nat
 g:Gph
 A:Option Addr
 c:Nat
 ws:List OpL
def Ag.st (r:Ag):List Pn × List Op:=(r.g.pns,r.ws.map OpL.op)
structure Ag.okAt (w:World) (base:Nat) (r:Ag):Prop where
 blk:Blk w r.rb 85 #[.pointer (some ⟨r.g.gb,0,none⟩),.slice r.A r.ws.length r.c]
 rbase:base<=r.rb
 graph:GAt w base r.g
 row:Own w base 52 27 r.A r.ws.length r.c (r.ws.flatMap (fun x=>x.cells.toList))
 ops:∀x∈r.ws,x.own w base/\x.op.ok
 few:r.ws.length<=200
def Ag.own (r:Ag):Nat->Prop:=fun k=>k=r.rb\/r.g.own k\/Ad r.A=some k
def Rty (t:TypeId):Prop:=t=85\/t=52\/Gty t
theorem Own.typed {w:World} {base size n c:Nat} {e:TypeId} {A:Option Addr} {xs:List Value} (h:Own w base e size A n c xs) {k:Nat} {cs:Array Value} {t:TypeId} {fr:Nat × Nat} (hk:w.heap[k]? =some (.cells cs t fr)) (hA:Ad A=some k):t=e:=by
 rcases h.2 with ⟨hv,_⟩|⟨g,cap,cur,hv,_,hg,_⟩
 ·
  injection hv with hv
  subst hv
  cases hA
 ·
  injection hv with hv
  subst hv;have e1:g=k:=by have h2:some g=some k:=hA;exact Option.some.inj h2
  subst e1;rw [hk] at hg;injection hg with hg
  injection hg
theorem Ag.okAt.types {w:World} {base:Nat} {r:Ag} (h:r.okAt w base):Types r.own w Rty:=by
 intro k cs t fr hk e
 rcases e with e|e|e
 ·
  subst e;have hb:=h.blk;unfold Blk at hb;rw [hk] at hb;injection hb with hb
  injection hb with _ ht
  exact .inl ht
 · exact .inr (.inr (h.graph.types k cs t fr hk e))
 · exact .inr (.inl (Own.typed h.row hk e))
theorem Ag.okAt.ge {w:World} {base:Nat} {r:Ag} (h:r.okAt w base) {k:Nat} (hk:r.own k):base<=k:=by
 rcases hk with e|e|e
 · rw [e];exact h.rbase
 · exact h.graph.ge e
 · exact (h.row.row k e).1
theorem Ag.okAt.non {w w':World} {base:Nat} {r:Ag} (h:r.okAt w base) (hf:Fr Non w w'):r.okAt w' base where
 blk:=h.blk.fr hf zq
 rbase:=h.rbase
 graph:=h.graph.fr hf
 row:=h.row.fr hf zr
 ops x hx:=⟨(h.ops x hx).1.non hf,(h.ops x hx).2⟩
 few:=h.few
theorem Ag.okAt.below {w w' w0:World} {base:Nat} {r:Ag} (h:r.okAt w base) (hf:Fr r.own w w') (h0:Fr Non w0 w) (hb:w0.heap.size<=base):Fr Non w0 w':=
 h0.trans hf (fun k hk e=>by have:=h.ge e;omega)
theorem OpL.own.keepR {w w':World} {base bx:Nat} {r:Ag} {x:OpL} (h:x.own w bx) (hr:r.okAt w base) (hf:Fr r.own w w'):x.own w' bx:=
 h.keepP hf hr.types (by unfold Rty Gty;decide) (by unfold Rty Gty;decide) (by unfold Rty Gty;decide) (by unfold Rty Gty;decide) (by unfold Rty Gty;decide) (by unfold Rty Gty;decide) (by unfold Rty Gty;decide)
theorem GAt.keepP {S:Nat->Prop} {P:TypeId->Prop} {w w':World} {base:Nat} {g:Gph} (h:GAt w base g) (hf:Fr S w w') (hS:Types S w P) (hm:¬S g.mb) (h0:¬P 129) (h00:¬P 134) (h1:¬P 45) (h2:¬P 112) (h3:¬P 103) (h4:¬P 5) (h5:¬P 43) (h6:¬P 3) (h7:¬P 119) (h8:¬P 141):GAt w' base g where
 blk:=h.blk.fr hf (fun e=>h0 (hS _ _ _ _ h.blk e))
 pos:=h.pos
 gbase:=h.gbase
 mbase:=h.mbase
 crow:=h.crow.keepT hf hS h8
 own:=h.own.keepT hf hS h00
 few:=h.few
 mfew:=h.mfew
 levs:=h.levs
 cfew:=h.cfew
 cok:=h.cok
 map:=h.map.fr hf hm
 node:=fun n hn=>by
  have k:=h.node n hn;exact ⟨k.own.keepP hf hS h1 h2 h3 h4 h5 h6 h7,k.ok,k.id,k.set⟩
def Je (rb:Nat) (A:Option Addr):Nat->Prop:=fun k=>k=rb\/Ad A=some k
def Wty (t:TypeId):Prop:=t=85\/t=52
theorem Ag.okAt.graphKept {w w':World} {base:Nat} {r:Ag} (h:r.okAt w base) (hf:Fr (Je r.rb r.A) w w'):GAt w' base r.g:=by
 have hT:Types (Je r.rb r.A) w Wty:=by
  intro k cs t fr hk e
  rcases e with e|e
  ·
   subst e;have hb:=h.blk;unfold Blk at hb;rw [hk] at hb;injection hb with hb
   injection hb with _ ht
   exact .inl ht
  · exact .inr (Own.typed h.row hk e)
 refine h.graph.keepP hf hT (fun e=> ?_) (by unfold Wty;decide) (by unfold Wty;decide) (by unfold Wty;decide) (by unfold Wty;decide) (by unfold Wty;decide) (by unfold Wty;decide) (by unfold Wty;decide) (by unfold Wty;decide) (by unfold Wty;decide) (by unfold Wty;decide)
 rcases e with e|e
 · exact h.graph.map.ismap _ _ _ (by rw [e];exact h.blk)
 ·
  rcases h.row.2 with ⟨hv,_⟩|⟨g',cap,cur,hv,_,hg',_⟩
  ·
   injection hv with hv
   rw [hv] at e
   cases e
  ·
   injection hv with hv
   rw [hv] at e;have e1:g'=r.g.mb:=by have h2:some g'=some r.g.mb:=e;exact Option.some.inj h2
   rw [e1] at hg';exact h.graph.map.ismap _ _ _ hg'
theorem Ag.okAt.opsKept {w w':World} {base bx:Nat} {r:Ag} {x:OpL} (hx:x.own w bx) (h:r.okAt w base) (hf:Fr (Je r.rb r.A) w w'):x.own w' bx:=
 hx.keepR h (hf.mono (fun _ _ e=>e.elim .inl (fun e=> .inr (.inr e))))
theorem Ag.okAt.at {w:World} {base:Nat} {r:Ag} (h:r.okAt w base) {i:Nat} {x:OpL} (hi:r.ws[i]? =some x):∃b off,r.A=some ⟨b,off,none⟩/\RgAt w b (off+i*27) x.cells.toList:=by
 obtain ⟨b,off,e,_,hc⟩:=Fy (f:=fun x:OpL=>x.cells.toList) (fun _=>rfl) (by omega) h.row.rd hi;exact ⟨b,off,e,fun k v hv=>hc k (List.getElem?_eq_some_iff.1 hv).1 v hv⟩
structure Ag.Step (base:Nat) (r r':Ag) (w w':World):Prop where
 ok:r'.okAt w' base
 rb:r'.rb=r.rb
 gb:r'.g.gb=r.g.gb
 cards:r'.g.cards=r.g.cards
 fr:Fr r.own w w'
 sub:∀k,k<w.heap.size->r'.own k->r.own k
theorem Ag.Step.trans {base:Nat} {r r' r'':Ag} {w w' w'':World} (h:Ag.Step base r r' w w') (k:Ag.Step base r' r'' w' w''):Ag.Step base r r'' w w'' where
 ok:=k.ok
 rb:=k.rb.trans h.rb
 gb:=k.gb.trans h.gb
 cards:=k.cards.trans h.cards
 fr:=h.fr.trans k.fr (fun i hi e=>h.sub i hi e)
 sub i hi e:=h.sub i hi (k.sub i (Nat.lt_of_lt_of_le hi h.fr.size) e)
theorem Ag.okAt.still {w w':World} {base:Nat} {r:Ag} (h:r.okAt w base) (hf:Fr Non w w'):Ag.Step base r r w w':=⟨h.non hf,rfl,rfl,rfl,Fr.of_non hf _,fun _ _ e=>e⟩
theorem Ag.okAt.erased {w w3:World} {base i n:Nat} {r:Ag} (h:r.okAt w base) (hn:Hid (r.ws.length=n)) (hi:i<n) (ho:Own w3 base 52 27 r.A (n-1) r.c ((r.ws.eraseIdx i).flatMap (fun x=>x.cells.toList))) (hf:Fr (fun k=>Ad r.A=some k) w w3):
  Ag.Step base r {r with ws:=r.ws.eraseIdx i} w (w3.setCell ⟨r.rb,1,none⟩ (.slice r.A (n-1) r.c)):=by
 have hn':=hn.out;have hl:(r.ws.eraseIdx i).length=n-1:=by rw [A77 (by omega),hn']
 have hrow:Ad r.A≠some r.rb:=h.row.ne h.blk (by decide);have b3:Blk w3 r.rb 85 #[.pointer (some ⟨r.g.gb,0,none⟩),.slice r.A r.ws.length r.c]:=h.blk.fr hf (fun e=>hrow e);have b4:=b3.set 1 (.slice r.A (n-1) r.c);have f4:Fr (Je r.rb r.A) w (w3.setCell ⟨r.rb,1,none⟩ (.slice r.A (n-1) r.c)):=(hf.mono (fun _ _ e=> .inr e)).setCell (p:=⟨r.rb,1,none⟩) (fun _=> .inl rfl) _;refine ⟨⟨?_,h.rbase,h.graphKept f4,?_,fun x hx=> ?_,?_⟩,rfl,rfl,rfl,f4.mono (fun _ _ e=>e.elim .inl (fun e=> .inr (.inr e))),fun _ _ e=>e⟩
 ·
  show Blk _ r.rb _ #[.pointer (some ⟨r.g.gb,0,none⟩),.slice r.A (r.ws.eraseIdx i).length r.c];rw [hl];exact b4
 ·
  show Own _ base 52 27 r.A (r.ws.eraseIdx i).length r.c _;rw [hl];exact ho.setOne hrow
 ·
  have hm:x∈r.ws:=List.mem_of_mem_eraseIdx hx;exact ⟨Ag.okAt.opsKept (h.ops x hm).1 h f4,(h.ops x hm).2⟩
 ·
  show (r.ws.eraseIdx i).length<=200;rw [hl];have:=h.few;omega
theorem Ag.okAt.added {w w':World} {base:Nat} {r:Ag} {g':Gph} (h:r.okAt w base) (hg:GAt w' base g') (hf:Fr r.g.own w w') (hgb:g'.gb=r.g.gb) (hc:g'.cards=r.g.cards) (hs:∀k,k<w.heap.size->g'.own k->r.g.own k):
    Ag.Step base r {r with g:=g'} w w' where
  ok:={
    blk:=by
      show Blk w' r.rb _ #[.pointer (some ⟨g'.gb,0,none⟩),.slice r.A r.ws.length r.c];rw [hgb];exact Blk.keepG h.blk h.graph hf (by unfold Gty;decide)
    rbase:=h.rbase
    graph:=hg
    row:=h.row.keepT hf h.graph.types (by unfold Gty;decide)
    ops:=fun x hx=>⟨(h.ops x hx).1.keepG h.graph hf,(h.ops x hx).2⟩
    few:=h.few}
  rb:=rfl
  gb:=hgb
  cards:=hc
  fr:=hf.mono (fun _ _ e=> .inr (.inl e))
  sub k hk e:=by
    rcases e with e|e|e
    · exact .inl e
    · exact .inr (.inl (hs k hk e))
    · exact .inr (.inr e)
theorem Ag.okAt.longer {w w3:World} {base c n:Nat} {A:Option Addr} {r:Ag} {x:OpL} (h:r.okAt w base) (hn:Hid (r.ws.length=n)) (hlt:n<200) (hx:x.own w base) (hok:x.op.ok) (ho:Own w3 base 52 27 A (n+1) c (r.ws.flatMap (fun x=>x.cells.toList)++x.cells.toList)) (hf:Fr (fun k=>Ad r.A=some k) w w3) (hat:Ad A=Ad r.A\/Ad A=some w.heap.size):
  Ag.Step base r {r with A:=A,c:=c,ws:=r.ws++[x]} w (w3.setCell ⟨r.rb,1,none⟩ (.slice A (n+1) c)):=by
 have hn':=hn.out;have hl:(r.ws++[x]).length=n+1:=by rw [A61,hn'];rfl
 have hrow:Ad r.A≠some r.rb:=h.row.ne h.blk (by decide)
 have hrow2:Ad A≠some r.rb:=by
  rcases hat with e|e
  · rw [e];exact hrow
  ·
   rw [e];intro e2;have e3:w.heap.size=r.rb:=Option.some.inj e2;have:=h.blk.lt;omega
 have b3:Blk w3 r.rb 85 #[.pointer (some ⟨r.g.gb,0,none⟩),.slice r.A r.ws.length r.c]:=h.blk.fr hf (fun e=>hrow e);have b4:=b3.set 1 (.slice A (n+1) c);have f4:Fr (Je r.rb r.A) w (w3.setCell ⟨r.rb,1,none⟩ (.slice A (n+1) c)):=(hf.mono (fun _ _ e=> .inr e)).setCell (p:=⟨r.rb,1,none⟩) (fun _=> .inl rfl) _;refine ⟨⟨?_,h.rbase,h.graphKept f4,?_,fun y hy=> ?_,?_⟩,rfl,rfl,rfl,f4.mono (fun _ _ e=>e.elim .inl (fun e=> .inr (.inr e))),fun k hk e=> ?_⟩
 ·
  show Blk _ r.rb _ #[.pointer (some ⟨r.g.gb,0,none⟩),.slice A (r.ws++[x]).length c];rw [hl];exact b4
 ·
  show Own _ base 52 27 A (r.ws++[x]).length c ((r.ws++[x]).flatMap (fun x=>x.cells.toList));rw [hl,A67,A74,A86,A87];exact ho.setOne hrow2
 ·
  rcases List.mem_append.1 hy with hm|hm
  · exact ⟨Ag.okAt.opsKept (h.ops y hm).1 h f4,(h.ops y hm).2⟩
  ·
   rw [List.mem_singleton.1 hm];exact ⟨Ag.okAt.opsKept hx h f4,hok⟩
 ·
  show (r.ws++[x]).length<=200;rw [hl];omega
 ·
  rcases e with e|e|e
  · exact .inl e
  · exact .inr (.inl e)
  ·
   rcases hat with e2|e2
   · exact .inr (.inr (e2▸e))
   ·
    have e3:Ad A=some k:=e;rw [e2] at e3;have:=Option.some.inj e3;omega
def Jf (rb:Nat) (w:World):Nat:=match w.cell? ⟨rb,1,none⟩ with|some (.slice _ n _)=>n|_=>0
theorem Ag.okAt.waits {w:World} {base:Nat} {r:Ag} (h:r.okAt w base):Jf r.rb w=r.ws.length:=by
 have h1:cS w r.rb 1 r.A r.ws.length r.c:=h.blk.cell 1;unfold Jf;rw [h1]
theorem U0 {g:Gph} {m:List Pn} (h:g.pns=m) (x:OpL):ready m x.op=decide ((x.past.filter (fun id=> !(place g.nodes id).isSome)).length=0):=by
 subst h;have e:∀id,(place g.nodes id).isSome=(plc g.pns id).isSome:=fun id=>by unfold Gph.pns;rw [Gv]
 unfold ready;show (!(x.past.any (fun id=>(plc g.pns id).isNone)))=_
 have e2:x.past.filter (fun id=> !(place g.nodes id).isSome)=x.past.filter (fun id=>(plc g.pns id).isNone):=by
  congr 1;funext id;rw [e]
  cases plc g.pns id<;>rfl
 rw [e2];generalize (fun id=>(plc g.pns id).isNone)=p;rw [A71,decide_eq_true_iff,List.length_eq_zero_iff,List.filter_eq_nil_iff,Bool.not_eq_true',List.any_eq_false]
end Oq
namespace Oq
attribute [local go_sem ↓] Bq Dx
attribute [local go_sem] A64 A65
end Oq
namespace Oq
attribute [local go_sem] A64 A65
attribute [local go_sem ↓] Bq Dx Fz
theorem U1 (y:OpL) (nm:Id) (hn:y.op.name=nm) (w:World) (hat:y.at w w.heap.size) (hok:y.op.ok):Calls zp 26 #[.agg y.cells] w fun e w'=>e=.returned (.agg nm.V)/\Fr Non w w':=by
 have k:=Sa y w hat hok;obtain ⟨b,s,u⟩:=nm;unfold Op.name at hn;injection hn with h1 h2 h3
 rw [h3,show y.by_=b from h1,show y.sq=s from h2] at k;exact k
theorem Aw0 (x:OpL) (id:Id) (iv:Nat) (w:World) (hat:x.at w w.heap.size) (hok:x.op.ok) (hv:Blk w iv 45 id.V):
  Calls zp 41 #[.agg x.cells,.pointer (some ⟨iv,0,none⟩)] w (Ae (Id.eq x.op.name id) w):=by
 have hi:(zp.info? 52).map (·.size)=some x.cells.size:=by rw [show x.cells.size=27 from rfl];kernel_rfl
 have f0:Fr Non w (w.alloc (.cells x.cells 52)):=(Fr.refl Non w).alloc _;have bx:=Blk.new w 52 x.cells;have hv1:=hv.fr f0 zq;obtain ⟨nm,hnm⟩:∃nm,x.op.name=nm:=⟨_,rfl⟩;rw [hnm];have kid:=lh (fun (w':World) (h:Fr Non w w')=>U1 x nm hnm w' (OpL.frame hat h) hok);have hlx:=Be (P:=zp) w.heap.size 52 underlying52 rfl (cs:=x.cells) hi;obtain ⟨XC,hXC⟩:=Ab x.cells;rw [hXC.out] at f0 bx hv1 hlx kid ⊢;clear hat hok hv hi hXC hnm;obtain ⟨xb,hxb⟩:=Ab w.heap.size;go_enter func41,ntmps41;go_upto_region 1 with (fail)
 rw [hxb.out] at bx hlx;try rw [hxb.out]
 generalize w.alloc (.cells XC 52)=w0 at*;have I0:cI w0 iv 0 id.b:=hv1.cell 0;have J0:cI w0 iv 1 id.s:=hv1.cell 1;have K0:cU w0 iv 2 id.u:=hv1.cell 2;have X0:=bx;have F0:Fr Non w0 w0.drew:=(Fr.refl Non w0).drew;have G0:Fr Non w w0.drew:=f0.drew;clear bx hv1;refine wp_region_held_drew (S:=fun w'=>Blk w' xb 52 XC/\cI w' iv 0 id.b/\cI w' iv 1 id.s/\cU w' iv 2 id.u) (by kernel_rfl) ⟨X0,I0,J0,K0⟩ (fun uu=> ?_);refine tkN 0 1 uu (h:=tkN 2 1 uu (h:=?_));clear uu;refine oG 1 (fun K hK=> ?_);go_simp;go_wp2_with (go_at_call 26;(with_reducible refine (kid.out _ G0).mono ?_);rintro _ v1 ⟨rfl,fq1⟩;have F1:=F0.trans fq1 zr;have X1:=X0.fr F1 zq;obtain ⟨I1,J1,K1⟩:=zk3 F1 I0 J0 K0;have G1:=f0.trans F1 zr);refine hK.out _ _ ⟨X1,I1,J1,K1⟩ (fun uu=> ?_);clear hK K;try simp only [Ah,zl]
 refine tkN 3 2 uu (h:=?_);clear uu;refine oD ?_;go_simp;go_wp2_with fail
 go_ret
 exact ⟨rfl,G1⟩
def U2 (l:List OpL) (p:OpL->Bool) (w:World) (e:Ending) (w':World):Prop:=
 (∃i:Int,e=.returned (.int .i64 i)/\decide (0<=i)=l.any p)/\Fr Non w w'
theorem Aw1 (B n c gv:Nat) (A:Option Addr) (l:List OpL) (p:OpL->Bool) (w:World) (hn:Hid (l.length=n)) (hr:Rd w B 27 A n (l.flatMap (fun x=>x.cells.toList))) (hnm:n<=1000000)
  (hmay:Hid (∀x∈l,∀w':World,Fr Non w w'->Calls zp 41 #[.agg x.cells,.pointer (some ⟨gv,0,none⟩)] w' (Ae (p x) w'))):
  Calls zp 84 #[.slice A n c,.func (.func 41) #[] #[.pointer (some ⟨gv,0,none⟩)]] w (U2 l p w):=by
 have hi27:(zp.info? 52).map (·.size)=some 27:=by kernel_rfl
 go_enter func84,ntmps84;go_wp2
 go_loopw [8] (fun v wr=>∃k:Nat,v=.int .i64 (k:Int)/\k<=n/\Hid ((l.take k).any p=false)/\Fr Non w wr) (fun v _=>n-(intOf v).toNat)
 case atStart=>exact ⟨0,rfl,by omega,rfl,Fr.refl _ _⟩
 case round=>
  obtain ⟨k,rfl,hk,hh,hf⟩:=hrel
  by_cases hlt:k<n
  ·
   obtain ⟨i1,i2,i3⟩:=ix k n
   obtain ⟨x,hx⟩:∃x,l[k]? =some x:=⟨_,A59 (by rw [hn.out];exact hlt)⟩;obtain ⟨b,off,rfl,hbB,hcx⟩:=Fy (f:=fun x:OpL=>x.cells.toList) (fun _=>rfl) (by omega) (n:=n) (hr.fr hf zr) hx;have hrg:A91 wr b (off+k*27) x.cells.toList:=fun k v hv=>hcx k (List.getElem?_eq_some_iff.1 hv).1 v hv;have hlm:=Ge (P:=zp) x.cells b (off+k*27) underlying52 rfl hi27 wr hrg;have hmem:=A63 hx;have hsn:=lh (Nt l p hx);have hc:=lh (fun w' (h:Fr Non wr w')=>hmay.out x hmem w' (hf.trans h zr));have hend:Hid (p x=true->l.any p=true):=fun h=>List.any_eq_true.2 ⟨x,hmem,h⟩;obtain ⟨XC,hXC⟩:=Ab x.cells;rw [hXC.out] at hlm hc;clear hx hmem hrg hcx hXC
   rcases zb (p x) with hp|hp
   ·
    have he:=lh (hend.out hp);rw [hp] at hc hsn;clear hp hend hsn;go_wp2_with (go_at_call 41;(with_reducible refine (hc.out _ (Fr.refl _ _)).mono ?_);rintro _ w1 ⟨rfl,f1⟩)
    go_ret
    exact ⟨⟨(k:Int),rfl,by rw [he.out];exact decide_eq_true (by omega)⟩,hf.trans f1 zr⟩
   ·
    rw [hp] at hc hsn;clear hp hend;go_wp2_with (go_at_call 41;(with_reducible refine (hc.out _ (Fr.refl _ _)).mono ?_);rintro _ w1 ⟨rfl,f1⟩);go_roundw
    case rel=>exact ⟨k+1,by go_num,by omega,by show _=_;rw [hsn.out,hh.out];rfl,hf.trans f1 zr⟩
    case measure=>simp [intOf];omega
  ·
   obtain rfl:k=n:=by omega
   have hfin:l.any p=false:=by have h:=hh.out;rw [A98 (by rw [hn.out];omega)] at h;exact h
   go_wp2
   go_ret
   exact ⟨⟨-1,rfl,by rw [hfin];rfl⟩,hf⟩
theorem Aw2 (B n c gv:Nat) (A:Option Addr) (l:List OpL) (p:OpL->Bool) (w:World) (hn:Hid (l.length=n)) (hr:Rd w B 27 A n (l.flatMap (fun x=>x.cells.toList))) (hnm:n<=1000000)
  (hmay:Hid (∀x∈l,∀w':World,Fr Non w w'->Calls zp 41 #[.agg x.cells,.pointer (some ⟨gv,0,none⟩)] w' (Ae (p x) w'))):
  Calls zp 40 #[.slice A n c,.func (.func 41) #[] #[.pointer (some ⟨gv,0,none⟩)]] w (Ae (l.any p) w):=by
 have kx:=lh (Aw1 B n c gv A l p w hn hr hnm hmay);unfold U2 at kx;have hfin:Hid (∀(i:Int) w',decide (0<=i)=l.any p->Fr Non w w'->Ae (l.any p) w (.returned (.bool (decide (0<=i)))) w'):=fun i w' h hf=>⟨by rw [h],hf⟩;generalize Ae (l.any p) w=POST at*;clear hr hmay hn hnm;go_enter func40,ntmps40;go_wp2_with (go_at_call 84;(with_reducible refine (kx.out).mono ?_);rintro _ w1 ⟨⟨i,rfl,hd0⟩,f1⟩;(have hd:=lh (hfin.out i w1 hd0 f1));clear hd0);exact hd.out
end Oq
namespace Oq
attribute [local go_sem] A64 A65
attribute [local go_sem ↓] Bq Dx
theorem KindsAt.rel {w w':World} {base:Nat} {r:Ag} (h:KindsAt w) (hr:r.okAt w base) (hf:Fr r.own w w'):KindsAt w':=fun k hk=>hf.cell (h k hk) (fun e=>by have h1:=hr.ge e;have h2:=hr.graph.pos;have h3:base<=0:=h1;omega)
theorem Aw3 (l:List OpL) (i:Nat):(l.eraseIdx i).map OpL.op=(l.map OpL.op).eraseIdx i:=by
 rw [A89,A89,A66,List.map_take,List.map_drop]
theorem Aw4 {cards:List Cd} {f k:Nat} {m:List Pn} {ws:List Op} {o:Op} (hk:ws[k]? =some o) (hr:ready m o=true) (hno:∀y∈ws.take k,ready m y=false):Ci cards (f+1) m ws=Ci cards f (if Au cards m o=0 then m++[Az m o] else m) (ws.eraseIdx k):=by
 obtain ⟨hlt,e⟩:=List.getElem?_eq_some_iff.1 hk
 have hx:ws.findIdx? (fun o=>ready m o)=some k:=by
  rw [List.findIdx?_eq_some_iff_getElem];refine ⟨hlt,by rw [e];exact hr,fun j hj=> ?_⟩;have:=hno ws[j] (List.mem_take_iff_getElem.2 ⟨j,by omega,rfl⟩);rw [this];exact A93
 conv=>lhs;unfold Ci
 rw [hx];dsimp only;rw [hk]
theorem Aw5 {cards:List Cd} {m:List Pn} {ws:List Op} (hno:∀y∈ws,ready m y=false):∀f,Ci cards f m ws=(m,ws)
 |0=>rfl
 |f+1=>by
  have hx:ws.findIdx? (fun o=>ready m o)=none:=List.findIdx?_eq_none_iff.2 hno;unfold Ci;rw [hx]
def Oy (base:Nat) (r:Ag) (o:Op) (w:World) (e:Ending) (w':World):Prop:=
 e=.returned (.int .i64 (Au r.g.cards r.g.pns o))/\∃r':Ag,Hid (Ag.Step base r r' w w')/\Hid (r'.ws=r.ws)/\Hid (r'.g.pns=if Au r.g.cards r.g.pns o=0 then r.g.pns++[Az r.g.pns o] else r.g.pns)/\∀b cs,Blk w b 52 cs->Blk w' b 52 cs
theorem U3 (base:Nat) (r:Ag) (x:OpL) (w:World) (h:r.okAt w base) (hat:x.at w w.heap.size) (hok:x.op.ok) (hk:KindsAt w):
  Calls zp 43 #[.pointer (some ⟨r.g.gb,0,none⟩),.agg x.cells] w (Oy base r x.op w):=by
 refine (Nb base r.g x w h.graph hat hok hk).mono ?_;rintro e w' ⟨rfl,hh⟩
 rcases hh with ⟨h0,hf⟩|⟨h0,g',h1,h2,_,h4,h5,h6,h7,_⟩
 · exact ⟨rfl,r,h.still hf,rfl,(if_neg h0).symm,fun b cs hb=>hb.fr hf zq⟩
 · exact ⟨rfl,{r with g:=g'},h.added h1 h6 h2 h4 h7,rfl,h5.trans (if_pos h0).symm,fun b cs hb=>Blk.keepG hb h.graph h6 (by unfold Gty;decide)⟩
def U4 (base rb n i:Nat) (r:Ag) (w:World) (e:Ending) (w':World):Prop:=
 e=.returned (.slice r.A (n-1) r.c)/\Hid (Ag.Step base r {r with ws:=r.ws.eraseIdx i} w (w'.setCell ⟨rb,1,none⟩ (.slice r.A (n-1) r.c)))/\w'.cell? ⟨rb,1,none⟩=some (.slice r.A n r.c)/\w'.frozen? ⟨rb,1,none⟩=false/\∀b cs,Ad r.A≠some b->Blk w b 52 cs->Blk (w'.setCell ⟨rb,1,none⟩ (.slice r.A (n-1) r.c)) b 52 cs
theorem Aw6 (base rb n i j:Nat) (r:Ag) (w:World) (h:r.okAt w base) (hrb:r.rb=rb) (hj:Hid (j=i+1)) (hn:Hid (r.ws.length=n)) (hi:i<n):
  Calls zp 94 #[.slice r.A n r.c,.int .i64 (i:Int),.int .i64 (j:Int)] w (U4 base rb n i r w):=by
 subst hrb;have hfew:=h.few;rw [hn.out] at hfew;have hrow:=h.row;rw [hn.out] at hrow;refine (Av9 base n r.c i j r.A r.ws w hj hn hrow hi (by omega)).mono ?_;rintro e w' ⟨rfl,ho,hf⟩;have hne:Ad r.A≠some r.rb:=h.row.ne h.blk (by decide);have hb:=h.blk.fr hf (fun e=>hne e);have hc:cS w' r.rb 1 r.A r.ws.length r.c:=hb.cell 1;rw [hn.out] at hc
 exact ⟨rfl,h.erased hn hi ho hf,hc,hb.frozen 1,fun b cs hr hbb=>(hbb.fr hf (fun e=>hr e)).far (fun e=>by
  have e':b=r.rb:=e;subst e';exact Blk.ne hbb h.blk (by decide) rfl) _⟩
def Ln (base:Nat) (r:Ag) (w:World) (e:Ending) (w':World):Prop:=
 e=.returned (.tuple #[])/\∃r':Ag,Hid (Ag.Step base r r' w w')/\Hid (r'.st=Ci r.g.cards r.ws.length r.g.pns (r.ws.map OpL.op))
theorem Aw7 (base:Nat) (r:Ag) (w:World) (h:r.okAt w base) (hk:KindsAt w):
  Calls zp 44 #[.pointer (some ⟨r.rb,0,none⟩)] w (Ln base r w):=by
 have ad:(zp.info? 52).map (·.size)=some 27:=by kernel_rfl
 have P0:w.cell? ⟨r.rb,0,none⟩=some (.pointer (some ⟨r.g.gb,0,none⟩)):=h.blk.cell 0;obtain ⟨rb,a9⟩:=Ab r.rb;obtain ⟨gb,bf⟩:=Ab r.g.gb;rw [a9.out,bf.out] at P0;rw [a9.out];have ax:Hid (∀w' (r':Ag),Hid (Ag.Step base r r' w w')->Hid (r'.st=Ci r.g.cards r.ws.length r.g.pns (r.ws.map OpL.op))->Ln base r w (.returned (.tuple #[])) w'):=fun w' r' h1 h2=>⟨rfl,r',h1,h2⟩;generalize Ln base r w=POST at*;have h0:Hid (Ag.Step base r r w w):=h.still (Fr.refl _ _);replace h:=lh h;replace hk:=lh hk;go_enter func44,ntmps44;go_wp2
 go_step3
 go_wp2
 go_step3
 go_wp2
 go_loopw [] (fun wr=>∃r1:Ag,Hid (Ag.Step base r r1 w wr)/\Hid (Ci r.g.cards r1.ws.length r1.g.pns (r1.ws.map OpL.op)=Ci r.g.cards r.ws.length r.g.pns (r.ws.map OpL.op))) (fun wr=>Jf rb wr)
 case atStart=>exact ⟨r,h0,rfl⟩
 case round=>
 clear h0 P0;obtain ⟨r1,hs,hg⟩:=hrel;generalize wr=wo at*;have aa:Hid (r1.okAt wo base):=hs.out.ok;have ac:Hid (r1.rb=rb):=hs.out.rb.trans a9.out;have af:Hid (r1.g.gb=gb):=hs.out.gb.trans bf.out;have au:Hid (r1.g.cards=r.g.cards):=hs.out.cards;have bv:Hid (KindsAt wo):=KindsAt.rel hk.out h.out hs.out.fr;have bj:Jf rb wo=r1.ws.length:=by have:=aa.out.waits;rwa [ac.out] at this
 obtain ⟨n,hn⟩:=Ab r1.ws.length;rw [hn.out] at bj;have bd:n<=200:=by have:=aa.out.few;rwa [hn.out] at this
 have b3:wo.cell? ⟨rb,0,none⟩=some (.pointer (some ⟨gb,0,none⟩)):=by have:=aa.out.blk.cell 0;rwa [ac.out,af.out] at this
 have bp:wo.cell? ⟨rb,1,none⟩=some (.slice r1.A n r1.c):=by have:=aa.out.blk.cell 1;rwa [ac.out,hn.out] at this
 obtain ⟨WA,bh⟩:=Ab r1.A;rw [bh.out] at bp;have kl:=lh (fun (x:OpL) (w':World) (hf:Fr Non wo w') (hx:x.own wo base) (hxk:x.op.ok)=>Ko base r1.g x w' Kq (aa.out.graph.fr hf) (hx.non hf).at hxk.past.2 (by have:=hxk.past.1;show x.op.past.length<=_;omega));rw [af.out] at kl;go_wp2_with fail
 go_loopw [15] (fun v wk=>∃k:Nat,v=.int .i64 (k:Int)/\k<=n/\Hid (∀y∈(r1.ws.map OpL.op).take k,ready r1.g.pns y=false)/\Fr Non wo wk) (fun v _=>n-(intOf v).toNat)
 case atStart=>exact ⟨0,rfl,by omega,fun y hy=>absurd hy A60,Fr.refl _ _⟩
 case round=>
 obtain ⟨k,rfl,b1,aq,hf⟩:=hrel
 by_cases hlt:k<n
 case neg=>
  obtain rfl:k=n:=by omega
  have ay:Hid (r1.st=Ci r.g.cards r.ws.length r.g.pns (r.ws.map OpL.op)):=by
   show _=_;rw [<- hg.out,Aw5 (fun y hy=>aq.out y (by rw [A98 (by rw [List.length_map,hn.out];exact A69 _)];exact hy))];rfl
  have aw:Hid (Ag.Step base r r1 w wr):=hs.out.trans (aa.out.still hf);have hd:=lh (ax.out wr r1 aw ay);clear aq hs hg ay aw ax kl;go_wp2_with fail;exact bodyPost_ret (results_none rfl _ _ _) rfl hd.out
 case pos=>
 obtain ⟨x,hx⟩:∃x,r1.ws[k]? =some x:=⟨_,A59 (by rw [hn.out];exact hlt)⟩;have bi:=A63 hx;obtain ⟨xo,a7⟩:=aa.out.ops x bi;obtain ⟨b,ae,hA,av⟩:=aa.out.at hx;obtain rfl:WA=some ⟨b,ae,none⟩:=by rw [<- bh.out];exact hA
 have bk:A91 wr b (ae+k*27) x.cells.toList:=fun j v hv=>hf.cell (av j v hv) zq;have bt:=Ge (P:=zp) x.cells b (ae+k*27) underlying52 rfl ad wr bk;obtain ⟨i1,i2,i3⟩:=ix k n
 have bn:=Blk.new wr 52 zO;have aw:=Cf (P:=zp) wr.heap.size 52 (cs:=x.cells) ad (old:=zO) rfl (E8 x);have hl:=Be (P:=zp) wr.heap.size 52 underlying52 rfl (cs:=x.cells) ad;have bx:Blk ((wr.alloc (.cells zO 52)).setRow wr.heap.size x.cells) wr.heap.size 52 x.cells:=bn.setRow;have fx:Fr Non wr ((wr.alloc (.cells zO 52)).setRow wr.heap.size x.cells):=((Fr.refl Non wr).alloc _).setRow (fun hh=>absurd hh (by omega)) _;have ah:=lh (kl.out x _ (hf.trans fx zr) xo a7);have ao:=lh (U0 (g:=r1.g) rfl x);unfold H6 at ah;obtain ⟨LL,bg⟩:=Ab (x.past.filter (fun id=> !(place r1.g.nodes id).isSome));rw [bg.out] at ah ao;obtain ⟨LN,bw⟩:=Ab LL.length;rw [bw.out] at ah ao;have ag:Hid ((r1.ws.map OpL.op)[k]? =some x.op):=by show _=_;rw [A62,hx];rfl
 obtain ⟨XC,a4⟩:=Ab x.cells;rw [a4.out] at bt aw hl bx fx ah;have a5:=hf.trans fx zr
 have a1:Ad r1.A≠some wr.heap.size:=by
  rw [hA];intro e;have e2:b=wr.heap.size:=Option.some.inj e;have:=(aa.out.row.row b (by rw [hA];rfl)).2;have:=hf.size;omega
 obtain ⟨nb,bo⟩:=Ab wr.heap.size;clear bk av hx kl bg;go_upto_region 4 with (fail)
 rw [bo.out] at bx hl fx ah a5 a1;try rw [bo.out]
 generalize (wr.alloc (.cells zO 52)).setRow nb XC=w1 at*;clear aw bn bt
 by_cases hL0:LN=0
 case neg=>
  have t0:((LN:Int)==0)=false:=beq_eq_false_iff_ne.2 (by omega);have t1:(LN==0)=false:=beq_eq_false_iff_ne.2 hL0;have hr:ready r1.g.pns x.op=false:=by rw [ao.out];exact decide_eq_false hL0
  have bb:Hid (∀y∈(r1.ws.map OpL.op).take (k+1),ready r1.g.pns y=false):=by
   intro y hy;rw [Df ag.out] at hy
   rcases List.mem_append.1 hy with h1|h1
   · exact aq.out y h1
   · rw [List.mem_singleton.1 h1];exact hr
  clear aq ao ag;go_wp2_with (go_at_call 42;(with_reducible refine (ah.out).mono ?_);rintro _ w2 ⟨AL,cL,rfl,_,f2⟩);go_roundw
  case rel=>exact ⟨k+1,by go_num,by omega,bb.out,a5.trans f2 zr⟩
  case measure=>simp [intOf];omega
 case pos=>
 subst hL0;have hr:ready r1.g.pns x.op=true:=by rw [ao.out];rfl
 obtain ⟨j,hj⟩:∃j,Hid (j=k+1):=⟨_,rfl⟩;have e1:IntKind.i64.wrap ((k:Int)+1)=(j:Int):=by rw [hj.out,IntWalk.i64_in _ (by omega)];omega
 have kd:=lh (fun (w':World) (h:Fr Non wo w')=>Aw6 base rb n k j r1 w' (aa.out.non h) ac.out hj hn hlt);unfold U4 at kd;have b2:=lh hA;rw [hA] at a1;obtain ⟨r2,ap⟩:∃r2:Ag,Hid (r2={r1 with ws:=r1.ws.eraseIdx k}):=⟨_,rfl⟩
 have bq:Hid (∀w',Fr Non wo w'->Calls zp 94 #[.slice (some ⟨b,ae,none⟩) n r1.c,.int .i64 (k:Int),.int .i64 (j:Int)] w' (fun e w''=>e=.returned (.slice (some ⟨b,ae,none⟩) (n-1) r1.c)/\Hid (Ag.Step base r1 r2 w' (w''.setCell ⟨rb,1,none⟩ (.slice (some ⟨b,ae,none⟩) (n-1) r1.c)))/\cS w'' rb 1 (some ⟨b,ae,none⟩) n r1.c/\w''.frozen? ⟨rb,1,none⟩=false/\∀b' cs,Ad (some (⟨b,ae,none⟩:Addr))≠some b'->Blk w' b' 52 cs->Blk (w''.setCell ⟨rb,1,none⟩ (.slice (some ⟨b,ae,none⟩) (n-1) r1.c)) b' 52 cs)):=by
  rw [ap.out,<- hA];exact kd
 have aj:Hid (∀(w2 w4:World),Fr Non wo w2->Hid (Ag.Step base r1 r2 w2 w4)->Hid (Ag.Step base r r2 w w4)/\x.own w4 base/\KindsAt w4):=by
  intro w2 w4 h2 h4;refine ⟨(hs.out.trans (aa.out.still h2)).trans h4.out,(xo.non h2).keepR (aa.out.non h2) h4.out.fr,KindsAt.rel (bv.out.fr h2) (aa.out.non h2) h4.out.fr⟩
 have ai:Hid (∀r3:Ag,r3.ws=r2.ws->(r3.g.pns=if Au r2.g.cards r2.g.pns x.op=0 then r2.g.pns++[Az r2.g.pns x.op] else r2.g.pns)->r3.ws.length=n-1/\Ci r.g.cards r3.ws.length r3.g.pns (r3.ws.map OpL.op)=Ci r.g.cards r.ws.length r.g.pns (r.ws.map OpL.op)):=by
  intro r3 h1 h2;have hl:r3.ws.length=n-1:=by rw [h1,ap.out];show (r1.ws.eraseIdx k).length=_;rw [A77 (by rw [hn.out];exact hlt),hn.out]
  refine ⟨hl,?_⟩;have e:=Aw4 (cards:=r.g.cards) (f:=n-1) ag.out hr aq.out;rw [show n-1+1=n by omega,<- hn.out,hg.out] at e;rw [e,hl,h1,h2,ap.out,<- au.out];show Ci r1.g.cards (n-1) _ ((r1.ws.eraseIdx k).map OpL.op)=_;rw [Aw3,hn.out]
 have ab:Hid (r2.rb=rb/\r2.g.gb=gb):=⟨by rw [ap.out];exact ac.out,by rw [ap.out];exact af.out⟩;have a0:=lh (fun (w':World) (h1:r2.okAt w' base) (h2:x.own w' base) (h3:KindsAt w')=>U3 base r2 x w' h1 h2.at a7 h3);rw [ab.out.2,a4.out] at a0;unfold Oy at a0;have ar:(zp.info? 52).map (·.size)=some XC.size:=by rw [<- a4.out];exact ad
 clear aq ao ag hr kd ap xo a7 hg hs aa bv hA bi au af ac ad hf hn
 go_upto_region 6 with (first
  |(go_at_call 42;(with_reducible refine (ah.out).mono ?_);rintro _ w2 ⟨AL,cL,rfl,_,f2⟩;have a3:=a5.trans f2 zr;have c2:=a3.cell bp zq)
  |(go_at_call 94;(with_reducible refine (bq.out _ a3).mono ?_);rintro _ w3 ⟨rfl,a2,c3,z3,bu⟩))
 have bl:=bu nb XC a1 (bx.fr f2 zq);obtain ⟨bm,bs,br⟩:=aj.out w2 _ a3 a2;generalize w3.setCell ⟨rb,1,none⟩ (.slice (some ⟨b,ae,none⟩) (n-1) r1.c)=w4 at*;have P0:w4.cell? ⟨rb,0,none⟩=some (.pointer (some ⟨gb,0,none⟩)):=by have:=a2.out.ok.blk.cell 0;rwa [ab.out.1,ab.out.2] at this
 have X0:=bl;have F0:Fr Non w4 w4.drew:=(Fr.refl Non w4).drew;have ak:Hid (r2.okAt w4 base):=a2.out.ok;have az:=lh (fun (w':World) (hf:Fr Non w4 w')=>a0.out w' (ak.out.non hf) (bs.non hf) (br.fr hf));clear bl a0 bq aj bu c3 z3 a2 bs br ah bx a1 fx a5 f2 a3 c2 hl a4;have hl:=Be (P:=zp) nb 52 underlying52 rfl (cs:=XC) ar;refine wp_region_held_drew (S:=fun w'=>w'.cell? ⟨rb,0,none⟩=some (.pointer (some ⟨gb,0,none⟩))/\Blk w' nb 52 XC) (by kernel_rfl) ⟨P0,X0⟩ (fun uu=> ?_);refine tkN 0 5 uu (h:=?_);clear uu;refine oG 5 (fun K hK=> ?_);go_simp;go_wp2_with (go_at_call 43;(with_reducible refine (az.out _ F0).mono ?_);rintro _ v1 ⟨rfl,r3,al,ba,bc,be⟩);have P1:v1.cell? ⟨rb,0,none⟩=some (.pointer (some ⟨gb,0,none⟩)):=by have h9:=al.out.ok.blk.cell 0;rwa [al.out.rb,al.out.gb,ab.out.1,ab.out.2] at h9
 have X1:=be nb XC X0;refine hK.out _ _ ⟨P1,X1⟩ (fun hZ=> ?_);clear hZ hK K;try simp only [Ah,zl]
 refine oD ?_;go_simp;have bz:Hid (Ag.Step base r r3 w v1):=(bm.out.trans (ak.out.still F0)).trans al.out;obtain ⟨a8,a6⟩:=ai.out r3 ba.out bc.out;have b0:Jf rb v1=n-1:=by have h9:=al.out.ok.waits;rwa [al.out.rb,ab.out.1,a8] at h9
 replace a8:=lh a8;replace a6:=lh a6;clear az ai bm al ak be;go_wp2_with fail;go_roundw
 case rel=>exact ⟨r3,bz,a6⟩
 case measure=>rw [b0,bj];omega
end Oq
namespace Oq
theorem U5 {w:World} {g:Nat} (cs:Array Value):Fr (One g) w (w.setRow g cs):=(Fr.refl (One g) w).setRow (fun _=>rfl) cs
end Oq
namespace Oq
attribute [local go_sem] A64 A65
attribute [local go_sem ↓] Bq Dx
def RgB (w:World) (b o:Nat) (l:List Value):Prop:=A91 w b o l
theorem RgB.fr {S:Nat->Prop} {w w':World} {b o:Nat} {l:List Value} (h:RgB w b o l) (hf:Fr S w w') (hb:¬S b):RgB w' b o l:=fun k v hv=>hf.cell (h k v hv) hb
end Oq
namespace Oq
theorem RowLies.zero {w:World} {base size:Nat} {t:TypeId}:RowLies w base t size none 0 0 []:=⟨SlAt.nil _ _ _,.inl rfl⟩
def Lo (l:List Pn) (nm:Id) (w:World) (e:Ending) (w':World):Prop:=
 ∃(y:OpL) (is:Bool),e=.returned (.tuple #[.agg y.cells,.bool is])/\Hid ((plc l nm).isSome=is)/\Hid (∀i p,plc l nm=some i->l[i]? =some p->y.op=p.o)/\Hid (y.lies w' w.heap.size)/\Fr Non w w'
theorem U6 {b gb:Nat} {g:Gph} {l:List Pn} (nm:Id) {w:World} (hg:GAt w b g) (hgb:g.gb=gb) (hl:g.pns=l) (hok:nm.ok):
  Calls zp 27 #[.pointer (some ⟨gb,0,none⟩),.agg nm.V] w (Lo l nm w):=by
 subst hgb hl;have hp:plc g.pns nm=place g.nodes nm:=by unfold Gph.pns;rw [Gv]
 refine (Ag8 b g nm w hg hok).mono ?_;intro e w' h;unfold Lo;rw [hp];unfold H5 Gph.opOf at h
 cases hq:place g.nodes nm with
 |none=>
  rw [hq] at h;obtain ⟨rfl,hf⟩:=h;exact ⟨OpL.zero,false,rfl,rfl,fun i p hi=>(by cases hi),⟨RowLies.zero,RowLies.zero,fun y hy=>absurd hy A60,RowLies.zero,RowLies.zero,RowLies.zero,RowLies.zero,RowLies.zero,fun y hy=>absurd hy A60⟩,hf⟩
 |some i=>
  rw [hq] at h
  cases hn:g.nodes[i]? with
  |none=>
   obtain ⟨n,h1,_⟩:=Ip hq;rw [hn] at h1
   cases h1
  |some n=>
   simp only [hn,Option.map_some] at h;obtain ⟨y,rfl,h1,h2,h3⟩:=h;refine ⟨y,true,rfl,rfl,?_,h2.lies,h3⟩;intro j p hj hp';injection hj with hj
   subst hj;unfold Gph.pns at hp';rw [A62,hn] at hp';injection hp' with hp'
   rw [h1,<- hp'];rfl
end Oq
namespace Oq
attribute [local go_sem] A64 A65
attribute [local go_sem ↓] Bq Dx
end Oq
namespace Oq
attribute [local go_sem] A64 A65
theorem U7 {P:Program} {Q:Exit->Act->World->Prop} {l:List Oper} {md:Region.Mode} {S:World->Prop} {fuel:Nat} {listed:Array Bool} {a:Act} {w:World} (i j:Nat) {d:Option Tmp} {op:Go.Op} {ty:TypeId} {pos:String} {after:Array Edge} {g:Option (Nat × Bool)} {d':Option Tmp} {op':Go.Op} {ty':TypeId} {pos':String} {after':Array Edge} {g':Option (Nat × Bool)}
  (hr:Region.ready md l.toArray listed=[i,j]) (ho:l[i]? =some ⟨d,op,ty,pos,after,g⟩) (ho':l[j]? =some ⟨d',op',ty',pos',after',g'⟩)
  (hw:Region.wanted ⟨d,op,ty,pos,after,g⟩ (yielded l.toArray a.tmps)=true) (hw':Region.wanted ⟨d',op',ty',pos',after',g'⟩ (yielded l.toArray a.tmps)=true)
  (h:∀K':Act->World->Prop,Shut (∀a w,S w->(S w->wpAnyH P md l.toArray Q S fuel (listed.setIfInBounds i true) a w)->K' a w)->Oper.wp P ⟨d,op,ty,pos,after,g⟩ a w K' Q)
  (h':∀K':Act->World->Prop,Shut (∀a w,S w->(S w->wpAnyH P md l.toArray Q S fuel (listed.setIfInBounds j true) a w)->K' a w)->Oper.wp P ⟨d',op',ty',pos',after',g'⟩ a w K' Q):
  wpAnyH P md l.toArray Q S (fuel+1) listed a w:=
 wpAnyH_ready hr (by simp) (AllReadyH.cons (by rw [A76];exact ho) (fun K' hK=>by rw [if_pos hw];exact h K' hK) (AllReadyH.cons (by rw [A76];exact ho') (fun K' hK=>by rw [if_pos hw'];exact h' K' hK) AllReadyH.nil))
