/-
  Contracts of the functions that the claim's statement reaches, walked one by one (part 13).
  Conditions: as each theorem says.
-/
import Derived.WideKeyEntry
import Derived.Maps.RangeWalk
import Derived.Test.YtkanjaikgphjfaaGreatDoorFkN2
import Derived.Test.YtkanjaikgphjfaaGreatDoorFkN6
import Derived.Test.YtkanjaikgphjfaaGreatDoorFkN11
import Derived.Test.YtkanjaikgphjfaaGreatDoorFkN12
set_option maxRecDepth 100000
set_option maxHeartbeats 16000000
open Array renaming toList_modify→Ao2,ext'→Ao3,toList_push→Ap7
open Bool renaming not_false→Ao4,not_true→Ao5,eq_iff_iff→Ao8,false_ne_true→Aq4
open Int renaming tmod_eq_emod_of_nonneg→Aq5
open List renaming getElem?_eq_getElem→Am8,length_append→Am9,map_append→An0,getElem?_map→An2,mem_of_getElem?→An3,not_mem_nil→An4,mem_singleton→An6,take_length→An8,flatMap_append→Ao0,append_nil→Ao1,mem_append→Ao6,range→Ao7,contains_iff_mem→Ao9,map_cons→Ap2,map_nil→Ap3,getElem?_append_left→Ap4,getElem?_append_right→Ap5,length_cons→Ap9,any_eq_true→Aq0,flatMap_cons→Aq1,flatMap_nil→Aq2,getElem?_toArray→Aq3,length_take→Aq6
open Nat renaming le_trans→An1,le_refl→An5,zero_le→An7,lt_or_ge→Ap0,mod_lt→Ap6,lt_of_le_of_lt→Ap8
open Go.World renaming size_alloc→An9,setCell→Ap1,ownsMap_made→Aq7
namespace Go.Proofs.YtkanjaikgphjfaaGreatDoor
section
open Go.RowKit
attribute [local go_sem ↓] Go.wp_at_zero Go.wp_at_succ
namespace Oq
attribute [local go_sem] Ao4 Ao5
theorem Ml (B n c i:Nat) (A:Option Addr) (l0:List Int) (w:World) (hn:Hid (l0.length=n)) (hr:Rd w B 1 A n (l0.map Iv)) (hok:∀x∈l0,I64 x) (_hnm:n≤9223372036854775807) (hi9:i≤1000):
  Calls Tryz.prog 30 #[.slice A n c,.int .i64 (i:Int)] w fun e w'=>e=.returned (.int .i64 (Cm l0 i:Int))∧Fr Non w w':=by
 by_cases hlt:i<n
 ·
  obtain ⟨p,hp⟩:∃q,l0[i]? =some q:=⟨_,Am8 (by rw [hn.out];exact hlt)⟩;obtain ⟨b,off,u,rfl,_,hu,c0⟩:=hr.at hlt;rw [An2,hp] at hu;injection hu with hu
  subst hu;replace c0:w.cell? ⟨b,off+i,none⟩=some (.int .i64 p):=c0;have hpo:=hok p (An3 hp);have hv:Hid (Cm l0 i=(C4 p 1000000).toNat):=by show _=_;unfold Cm;rw [hp]
  obtain ⟨ba1,ba2⟩:=Hw (n:=p) (m:=1000000) (by omega);obtain ⟨N,hN⟩:∃N:Nat,C4 p 1000000=(N:Int):=⟨(C4 p 1000000).toNat,by omega⟩;have kar:=Lib.hid (fun w'=>Hx p 1000000 w' hpo.1 hpo.2 (by omega) (by omega));have hv2:Hid (Cm l0 i=N):=by show _=_;rw [hv.out,hN];omega
  rw [hN] at kar;rw [hv2.out];have i1:(0:Int)≤i:=by omega
  have i2:(i:Int)<n:=by omega
  have i3:(i:Int).toNat=i:=by omega
  have t1:decide ((i:Int)≥(n:Int))=false:=decide_eq_false (by omega);have t1':decide ((n:Int)≤(i:Int))=false:=t1;have t1n:decide (n≤i)=false:=decide_eq_false (by omega);clear hv hN hp hok hr;go_enter Tryz.func30,Tryz.ntmps30;go_wp2_with (go_at_call 18;(with_reducible refine (kar.out _).mono ?_);rintro _ wz ⟨rfl,rfl⟩)
  go_ret
  exact ⟨rfl,Fr.refl _ _⟩
 ·
  have hv:Hid (Cm l0 i=0):=by
   show _=_;unfold Cm;rw [List.getElem?_eq_none (by rw [hn.out];omega)]
  rw [hv.out];have t1:decide ((i:Int)≥(n:Int))=true:=decide_eq_true (by omega);have t1':decide ((n:Int)≤(i:Int))=true:=t1;have t1n:decide (n≤i)=true:=decide_eq_true (by omega);go_enter Tryz.func30,Tryz.ntmps30;go_wp2_with (fail)
  go_ret
  exact ⟨rfl,Fr.refl _ _⟩
theorem Ag0 (base:Nat) (r:FG) (d:Int) (w:World) (h:r.own w base):
  Calls Tryz.prog 31 #[.agg r.cells,.int .i64 d] w fun e w'=>e=.returned (.int .i64 (Di r.l d r.l.length))∧Fr Non w w':=by
 have af:=h.num.few;have bg:=Blk.new w 28 r.cells;have f0:Fr Non w (w.alloc (.cells r.cells 28)):=(Fr.refl Non w).alloc _;have g1:Hid (r.cells[1]? =some (.slice r.lA r.l.length r.lC)):=rfl
 have ac:Hid (∀i,i<r.l.length→∃(m:Pn) (b ab:Nat),r.l[i]? =some m∧r.lA=some ⟨b,ab,none⟩∧w.cell? ⟨b,ab+i*27,none⟩=some (.int .i64 m.o.by_)):=by
  intro i hi;obtain ⟨y,b,ab,_,h1,_,h3,_,h4⟩:=h.xAt (Am8 hi);exact ⟨_,b,ab,Am8 hi,h3,by rw [← h1];exact h4 0 (by omega) _ rfl⟩
 have ad:Hid (∀k m,r.l[k]? =some m→Di r.l d (k+1)=if m.o.by_=d then (k:Int) else Di r.l d k):=by
  intro k m hm;conv=>lhs;unfold Di
  rw [hm]
 have ag:Hid (Di r.l d 0= -1):=rfl;clear h;generalize r.lA=LA at*;generalize r.lC=LC at*;generalize r.cells=CS at*;obtain ⟨N,hN⟩:=Ab r.l.length;rw [hN.out] at g1 ac af ⊢;generalize Di r.l d=LI at*;have e0:IntKind.i64.wrap ((N:Int)-1)=(N:Int)-1:=IntWalk.i64_in _ (by omega);go_enter Tryz.func31,Tryz.ntmps31;have c1:(w.alloc (.cells CS 28)).cell? ⟨w.heap.size,1,none⟩=some (.slice LA N LC):=(bg.cell 1).trans g1.out;go_upto_region 1 with (fail)
 generalize w.alloc (.cells CS 28)=w0 at*;go_wp2_with (fail)
 go_loopw [5] (fun v wr=>∃k:Nat,v=.int .i64 ((k:Int)-1)∧k≤N∧Hid (LI N=LI k)∧w0=wr) (fun v _=>(intOf v+1).toNat)
 case atStart=>exact ⟨N,rfl,An5 _,rfl,rfl⟩
 case round=>
  obtain ⟨k,rfl,hk,ae,rfl⟩:=hrel
  cases k with
  |zero=>
   have em:(((0:Nat):Int)-1)=(-1:Int):=by decide
   rw [em];have t1:decide ((-1:Int)≥0)=false:=by decide
   have ah:decide ((0:Int)≤ -1)=false:=by decide
   have hf:=Lib.hid (ae.out.trans ag.out);clear ad ac;go_wp2_with (fail)
   go_ret
   exact ⟨congrArg (fun z=>Ending.returned (.int .i64 z)) hf.out.symm,f0⟩
  |succ k=>
   have ek:(((k+1:Nat):Int)-1)=(k:Int):=by omega
   rw [ek];obtain ⟨m,b,ab,hm,rfl,c2⟩:=ac.out k (by omega);have ai:=f0.cell c2 zq;have aa:=ad.out k m hm;have i1:(0:Int)≤k:=by omega
   have i2:(k:Int)<N:=by omega
   have i3:(k:Int).toNat=k:=by omega
   have t1:decide ((k:Int)≥0)=true:=decide_eq_true (by omega);have ah:decide (0≤(k:Int))=true:=decide_eq_true (by omega);have e1:IntKind.i64.wrap ((k:Int)-1)=(k:Int)-1:=IntWalk.i64_in _ (by omega)
   by_cases he:m.o.by_=d
   ·
    rw [if_pos he] at aa;have hf:=Lib.hid (ae.out.trans aa);have t2:(m.o.by_==d)=true:=beq_iff_eq.2 he;clear ad ac aa he hm;go_wp2_with (fail)
    go_ret
    exact ⟨congrArg (fun z=>Ending.returned (.int .i64 z)) hf.out.symm,f0⟩
   ·
    rw [if_neg he] at aa;have hf:=Lib.hid (ae.out.trans aa);have t2:(m.o.by_==d)=false:=beq_eq_false_iff_ne.2 he;clear ad ac aa he hm ae;go_wp2_with (fail);go_roundw
    case rel=>exact ⟨k,by first|rfl|go_num,by omega,hf.out,by first|rfl|trivial⟩
    case measure=>first|(simp [intOf];done)|(simp [intOf];omega)
def Ey (l:List Pn) (places ys:List Nat):Prop:=ys.Nodup∧∀q,q∈ys↔(q∈places∨∃p∈places,inP l p q=true)
def Mm (l:List Pn) (places:List Nat) (w:World) (e:Ending) (w':World):Prop:=∃(ys:List Nat) (A:Option Addr) (c:Nat),e=.returned (.slice A ys.length c)∧Ey l places ys∧(∀q∈ys,q<l.length)∧Own w' w.heap.size 3 1 A ys.length c (ys.map Qv)∧Fr Non w w'
structure Bh (l:List Pn) (places:List Nat) (i:Nat) (all:List Nat) (k:Nat) (ys:List Nat):Prop where
 nodup:ys.Nodup
 mem:∀q,q∈ys↔((∃p∈places.take i,q=p∨inP l p q=true)∨q∈all.take k)
theorem Bh.start (l:List Pn) (places:List Nat) (all:List Nat):Bh l places 0 all 0 []:=⟨List.nodup_nil,fun q=>⟨fun h=>absurd h An4,fun h=>by
 rcases h with ⟨p,hp,_⟩|h
 · exact absurd hp An4
 · exact absurd h An4⟩⟩
theorem Bh.old {l:List Pn} {places all ys:List Nat} {i k x:Nat} (h:Bh l places i all k ys) (hx:all[k]? =some x) (hc:ys.contains x=true):Bh l places i all (k+1) ys:=⟨h.nodup,fun q=>by
 rw [Cx hx,Ao6,An6,h.mem q];constructor
 ·
  rintro (h1|h1)
  · exact .inl h1
  · exact .inr (.inl h1)
 ·
  rintro (h1|h1|rfl)
  · exact .inl h1
  · exact .inr h1
  · exact (h.mem q).1 (List.contains_iff_mem.1 hc)⟩
theorem Bh.new {l:List Pn} {places all ys:List Nat} {i k x:Nat} (h:Bh l places i all k ys) (hx:all[k]? =some x) (hc:ys.contains x=false):Bh l places i all (k+1) (ys++[x]):=⟨(by
 refine List.nodup_append.2 ⟨h.nodup,by simp,fun a ha b hb=> ?_⟩;obtain rfl:=List.mem_singleton.1 hb;rintro rfl;rw [List.contains_iff_mem.2 ha] at hc
 cases hc),fun q=>by
 rw [Cx hx,Ao6,Ao6,An6,h.mem q];constructor
 ·
  rintro ((h1|h1)|h1)
  · exact .inl h1
  · exact .inr (.inl h1)
  · exact .inr (.inr h1)
 ·
  rintro (h1|h1|h1)
  · exact .inl (.inl h1)
  · exact .inl (.inr h1)
  · exact .inr h1⟩
theorem Bh.next {l:List Pn} {places all ys Ha:List Nat} {i p:Nat} (h:Bh l places i all all.length ys) (hp:places[i]? =some p) (ha:∀q,q∈all↔(q=p∨inP l p q=true)):Bh l places (i+1) Ha 0 ys:=⟨h.nodup,fun q=>by
 rw [h.mem q,Cx hp,An8,ha q];constructor
 ·
  rintro (⟨p',h1,h2⟩|h1)
  · exact .inl ⟨p',List.mem_append_left _ h1,h2⟩
  · exact .inl ⟨p,List.mem_append_right _ List.mem_cons_self,h1⟩
 ·
  rintro (⟨p',h1,h2⟩|h1)
  ·
   rcases List.mem_append.1 h1 with h1|h1
   · exact .inl ⟨p',h1,h2⟩
   ·
    rw [List.mem_singleton.1 h1] at h2;exact .inr h2
  · exact absurd h1 An4⟩
theorem Bh.done {l:List Pn} {places all ys:List Nat} (h:Bh l places places.length all 0 ys):Ey l places ys:=⟨h.nodup,fun q=>by
 rw [h.mem q,An8];constructor
 ·
  rintro (⟨p,h1,rfl|h2⟩|h1)
  · exact .inl h1
  · exact .inr ⟨p,h1,h2⟩
  · exact absurd h1 An4
 ·
  rintro (h1|⟨p,h1,h2⟩)
  · exact .inl ⟨q,h1,.inl rfl⟩
  · exact .inl ⟨p,h1,.inr h2⟩⟩
theorem Bh.few {l:List Pn} {places all ys:List Nat} {i k N:Nat} (h:Bh l places i all k ys) (hb:∀q∈ys,q<N):ys.length≤N:=by
 have:=Fy h.nodup (ys:=Ao7 N) (fun q hq=>List.mem_range.2 (hb q hq));simpa using this
theorem F9 {w:World} {b b' size n c:Nat} {e:TypeId} {A:Option Addr} {xs:List Value} (h:Own w b' e size A n c xs) (hb:b≤b'):Own w b e size A n c xs:=by
 obtain ⟨h1,h2⟩:=h;refine ⟨h1,?_⟩
 rcases h2 with h2|⟨g,cap,cur,e1,e2,e3⟩
 · exact .inl h2
 · exact .inr ⟨g,cap,cur,e1,An1 hb e2,e3⟩
theorem Mn (B n c:Nat) (A:Option Addr) (zs:List Nat) (x:Nat) (w:World) (hn:Hid (zs.length=n)) (hr:Rd w B 1 A n (zs.map Qv)) (hnm:n≤1000000):
  Calls Tryz.prog 57 #[.slice A n c,.int .i64 (x:Int)] w fun e w'=>e=.returned (.bool (zs.contains x))∧Fr Non w w':=by
 have e1:(zs.map (fun q:Nat=>(q:Int))).map Iv=zs.map Qv:=by rw [List.map_map];rfl
 have e2:(zs.map (fun q:Nat=>(q:Int))).contains (x:Int)=zs.contains x:=by
  rw [Ao8,Ao9,Ao9,List.mem_map];constructor
  ·
   rintro ⟨q,h1,h2⟩;have:q=x:=by omega
   exact this▸h1
  ·
   intro h;exact ⟨x,h,rfl⟩
 have k:=Af1 B n c A (zs.map (fun q:Nat=>(q:Int))) (x:Int) w (by show _=_;rw [List.length_map];exact hn.out) (by rw [e1];exact hr) hnm;rw [e2] at k;exact k
theorem Ag1 (ps:List Nat):∀u∈ps.map Qv,u.oneCell'=true:=fun u hu=>by
 obtain ⟨x,_,rfl⟩:=List.mem_map.1 hu;rfl
theorem Si (base B n c:Nat) (r:FG) (A:Option Addr) (places:List Nat) (w:World) (h:r.own w base) (hn:Hid (places.length=n)) (hr:Rd w B 1 A n (places.map Qv)) (hnm:n≤1000) (hlt:∀p∈places,p<r.l.length):
  Calls Tryz.prog 35 #[.agg r.cells,.slice A n c] w (Mm r.l places w):=by
 have a9:=h.num.few;have bg:=Blk.new w 28 r.cells;have f0:Fr Non w (w.alloc (.cells r.cells 28)):=(Fr.refl Non w).alloc _;have g3:Hid (r.cells[3]? =some (.slice r.pA r.l.length r.pC)):=rfl
 have ba:Hid (∀p,p<r.l.length→∃(xs:List Nat) (A2:Option Addr) (c2 b ay:Nat),r.pA=some ⟨b,ay,none⟩∧w.cell? ⟨b,ay+p,none⟩=some (.slice A2 xs.length c2)∧xs.length≤14∧Rd w w.heap.size 1 A2 xs.length (xs.map Qv)∧(∀q,q∈xs↔inP r.l p q=true)∧∀q∈xs,q<r.l.length):=by
  intro p hp;have hm:=Am8 hp;obtain ⟨x,b,ay,h1,h2,h3,_,h4,h5,h6⟩:=h.pAt hm;exact ⟨x.xs,x.A,x.c,b,ay,h3,h4,by omega,RowAt.sl h2|>.rd,fun q=>by rw [h1.2 q,Gr hm],fun q hq=>Nat.lt_trans (h6 q hq) hp⟩
 clear h;replace hlt:=Lib.hid hlt;have ap:Hid (∀ys A c w',Ey r.l places ys→(∀q∈ys,q<r.l.length)→Own w' w.heap.size 3 1 A ys.length c (ys.map Qv)→Fr Non w w'→Mm r.l places w (.returned (.slice A ys.length c)) w'):=fun ys A c w' h1 h2 h3 h4=>⟨ys,A,c,rfl,h1,h2,h3,h4⟩;generalize Mm r.l places w=POST at*;generalize r.pA=PA at*;generalize r.pC=PC at*;generalize r.cells=CS at*;generalize r.l=l at*;obtain ⟨N,hN⟩:=Ab l.length;rw [hN.out] at g3 ba a9 hlt ap;go_enter Tryz.func35,Tryz.ntmps35;go_upto_region 1 with (fail)
 have b8:=f0.size;generalize w.alloc (.cells CS 28)=w0 at*;go_wp2_with (fail)
 go_loopw [5,6] (fun s v wr=>∃(i:Nat) (Ax:Option Addr) (cx:Nat) (ys:List Nat),v=.int .i64 (i:Int)∧s=.slice Ax ys.length cx∧i≤n∧Hid (Bh l places i [] 0 ys)∧Hid (∀q∈ys,q<N)∧Own wr w0.heap.size 3 1 Ax ys.length cx (ys.map Qv)∧Fr Non w0 wr) (fun _ v _=>n-(intOf v).toNat)
 case atStart=>exact ⟨0,none,0,[],rfl,rfl,An7 _,Bh.start _ _ _,fun q hq=>absurd hq An4,Own.nil _ _ _ _,Fr.refl _ _⟩
 case round=>
  obtain ⟨i,Ax,cx,ys,rfl,rfl,hi,ar,bi,ae,hf⟩:=hrel;have az:Fr Non w wr:=f0.trans hf zr
  by_cases hin:i<n
  ·
   obtain ⟨p,hp⟩:∃p,places[i]? =some p:=⟨_,Am8 (by rw [hn.out];exact hin)⟩;have bl:=hlt.out p (An3 hp);obtain ⟨xs,A2,c2,b2,o2,rfl,d2,bq,be,bd,a1⟩:=ba.out p bl;obtain ⟨b4,o4,u4,rfl,_,a2,d0⟩:=(hr.fr az zr).at hin;rw [An2,hp] at a2;injection a2 with a2
   subst a2;replace d0:wr.cell? ⟨b4,o4+i,none⟩=some (.int .i64 (p:Int)):=d0;have i1:(0:Int)≤i:=by omega
   have i2:(i:Int)<n:=by omega
   have i3:(i:Int).toNat=i:=by omega
   have p1:(0:Int)≤p:=by omega
   have p2:(p:Int)<N:=by omega
   have p3:(p:Int).toNat=p:=by omega
   have a3:Hid (∀q,q∈p::xs↔(q=p∨inP l p q=true)):=fun q=>by rw [List.mem_cons,bd q]
   have bn:Hid (∀q∈p::xs,q<N):=fun q hq=>by
    rcases List.mem_cons.1 hq with rfl|hq
    · exact bl
    · exact a1 q hq
   have b1:=hf.size;go_upto_region 5 with (fail)
   have Hb:wr.cell? ⟨w.heap.size,3,none⟩=some (.slice (some ⟨b2,o2,none⟩) N PC):=((bg.fr hf zq).cell 3).trans g3.out;have Db:=az.cell d2 zq;have Qb:=d0;have F0:Fr Non wr wr.drew:=(Fr.refl Non wr).drew;have H0:wr.drew.cell? ⟨w.heap.size,3,none⟩=some (.slice (some ⟨b2,o2,none⟩) N PC):=Hb;have D0:wr.drew.cell? ⟨b2,o2+p,none⟩=some (.slice A2 xs.length c2):=Db;have Q0:wr.drew.cell? ⟨b4,o4+i,none⟩=some (.int .i64 (p:Int)):=Qb;clear d0 d2 ba;refine wp_region_held_drew (S:=fun w'=>w'.cell? ⟨w.heap.size,3,none⟩=some (.slice (some ⟨b2,o2,none⟩) N PC)∧w'.cell? ⟨b2,o2+p,none⟩=some (.slice A2 xs.length c2)∧w'.cell? ⟨b4,o4+i,none⟩=some (.int .i64 (p:Int))) (by kernel_rfl) ⟨H0,D0,Q0⟩ (fun hHeld=> ?_);clear hHeld;refine tkH 0 ⟨H0,D0,Q0⟩ (h:=tkH 1 ⟨H0,D0,Q0⟩ (h:=tkH 2 ⟨H0,D0,Q0⟩ (h:=tkH 3 ⟨H0,D0,Q0⟩ (h:=tkH 5 ⟨H0,D0,Q0⟩ (h:=tkH 6 ⟨H0,D0,Q0⟩ (h:=tkH 7 ⟨H0,D0,Q0⟩ (h:=tkH 8 ⟨H0,D0,Q0⟩ (h:=tkH 9 ⟨H0,D0,Q0⟩ (h:=tkH 10 ⟨H0,D0,Q0⟩ (h:=tkH 11 ⟨H0,D0,Q0⟩ (h:=tkH 12 ⟨H0,D0,Q0⟩ (h:=?_))))))))))));simp only [List.set];refine oG 4 (fun K hK=> ?_);go_simp;have bt:=(Blk.new wr 3 #[.int .i64 (p:Int)]).drew;have F1:Fr Non wr ((wr.alloc (.cells #[.int .i64 (p:Int)] 3)).drew):=((Fr.refl _ _).alloc _).drew;have H1:=F1.cell Hb zq;have D1:=F1.cell Db zq;have Q1:=F1.cell Qb zq;refine hK.out _ _ ⟨H1,D1,Q1⟩ (fun hZ=> ?_);clear hZ hK K;try simp only [Aj,List.set]
   generalize (wr.alloc (.cells #[.int .i64 (p:Int)] 3)).drew=v1 at*;have af:=Own.blk (base:=wr.heap.size) (n:=1) (size:=1) bt (An5 _) (by omega) rfl (by omega);have bf:=(be.fr (az.trans F1 zr) zr);refine oG 13 (fun K hK=> ?_);refine Dx (base:=wr.heap.size) (.tmp 19) (.tmp 27) 22 rfl rfl rfl Fq af bf (Ag1 xs) (by omega) (by omega) F1.size ?_;intro A6 c6 v2 av bz bu;have F2:Fr Non wr v2:=F1.trans bz (fun j hj e=>by have e':wr.heap.size=j:=Option.some.inj e;omega);have H2:=F2.cell Hb zq;have D2:=F2.cell Db zq;have Q2:=F2.cell Qb zq;refine hK.out _ _ ⟨H2,D2,Q2⟩ (fun hZ=> ?_);clear hZ hK K;try simp only [Aj,List.set]
   refine tkH 14 ⟨H2,D2,Q2⟩ (h:=?_);simp only [List.set];refine oD ?_;go_simp;have aw:[Value.int .i64 (p:Int)]++xs.map Qv=(p::xs).map Qv:=rfl;have ag:1+xs.length=(p::xs).length:=by rw [Ap9];omega
   have aj:Own v2 wr.heap.size 3 1 A6 (p::xs).length c6 ((p::xs).map Qv):=by
    rw [← aw,← ag];exact av
   try rw [ag]
   have ak:(p::xs).length≤15:=by rw [Ap9];omega
   have a8:Hid (Bh l places i (p::xs) 0 ys):=⟨ar.out.nodup,fun q=>by rw [ar.out.mem q];simp⟩;have ax:=ae.fr F2 zr;have au:=ae.row;have bs:=hf.trans F2 zr;have bm:=Lib.hid hp;clear av ae hf ar aw ag H0 D0 Q0 H1 D1 Q1 H2 D2 Q2 Hb Db Qb hp bd a1 be bf af;generalize p::xs=al at*;obtain ⟨M,hM⟩:=Ab al.length;rw [hM.out] at aj ak ⊢;generalize v2=wo at*;generalize wr=wa at*;go_wp2_with (fail)
   go_loopw [5,8] (fun s v wi=>∃(k:Nat) (Ay:Option Addr) (cy:Nat) (zs:List Nat),v=.int .i64 (k:Int)∧s=.slice Ay zs.length cy∧k≤M∧Hid (Bh l places i al k zs)∧Hid (∀q∈zs,q<N)∧Own wi w0.heap.size 3 1 Ay zs.length cy (zs.map Qv)∧Hid (Own wi wa.heap.size 3 1 A6 M c6 (al.map Qv))∧Hid (∀k,Ac Ay=some k→Ac A6≠some k)∧Fr Non w0 wi) (fun _ v _=>M-(intOf v).toNat)
   case atStart=>exact ⟨0,Ax,cx,ys,rfl,rfl,An7 _,a8.out,bi.out,ax,aj,(fun k hk e=>by have h1:=(aj.row k e).1;have h2:=(au k hk).2;omega),bs⟩
   case round=>
    obtain ⟨k,Ay,cy,zs,rfl,rfl,hk,ah,a0,ac,aa,ao,aq⟩:=hrel;have bp:=ac.row
    by_cases hkM:k<M
    ·
     obtain ⟨x,hx⟩:∃x,al[k]? =some x:=⟨_,Am8 (by rw [hM.out];exact hkM)⟩;have a1:=bn.out x (An3 hx);obtain ⟨b5,o5,u5,bo,_,a4,d5⟩:=aa.out.rd.at hkM;rw [An2,hx] at a4;injection a4 with a4
     subst a4;subst bo;replace d5:wr.cell? ⟨b5,o5+k,none⟩=some (.int .i64 (x:Int)):=d5;have b0:zs.length≤N:=ah.out.few a0.out;have j1:(0:Int)≤k:=by omega
     have j2:(k:Int)<M:=by omega
     have j3:(k:Int).toNat=k:=by omega
     have u0:decide ((k:Int)<M)=true:=decide_eq_true j2;have bj:decide (k<M)=true:=decide_eq_true hkM;have e1:IntKind.i64.wrap ((k:Int)+1)=(k:Int)+1:=IntWalk.i64_in _ (by omega);have kh:=Lib.hid (Mn wr.heap.size zs.length cy Ay zs x wr rfl ac.rd (by omega));have bh:Hid (∀(w4:World),Fr Non wr w4→w4.cell? ⟨b5,o5+k,none⟩=some (.int .i64 (x:Int))):=fun w4 f=>f.cell d5 zq
     rcases zb (zs.contains x) with hc|hc
     ·
      have ai:=Lib.hid (ah.out.old hx hc);rw [hc] at kh;clear hx ah a3;go_wp2_with (go_at_call 57;(with_reducible refine (kh.out).mono ?_);rintro _ wq ⟨rfl,fq⟩;(have d6:=bh.out wq fq);(have ad:=ac.fr fq zr);(have ab:=aa.out.fr fq zr);(have ff:=aq.trans fq zr);clear ac aa aq);go_roundw
      case rel=>exact ⟨k+1,Ay,cy,zs,by go_num,rfl,by omega,ai.out,a0.out,ad,ab,ao.out,ff⟩
      case measure=>simp [intOf];omega
     ·
      have ai:=Lib.hid (ah.out.new hx hc)
      have a7:Hid (∀q∈zs++[x],q<N):=fun q hq=>by
       rcases List.mem_append.1 hq with hq|hq
       · exact a0.out q hq
       · rw [List.mem_singleton.1 hq];exact a1
      rw [hc] at kh;clear hx ah a3
      go_wp2_with (first
       |(go_at_call 57;(with_reducible refine (kh.out).mono ?_);rintro _ wq ⟨rfl,fq⟩;(have d6:=bh.out wq fq);(have ad:=ac.fr fq zr);(have ab:=aa.out.fr fq zr);(have ff:=aq.trans fq zr);clear ac aa aq;(have b7:=ff.size);have bF:=Blk.new wq 3 #[.int .i64 (x:Int)])
       |(at_builtin;go_loud (refine Az (base:=w0.heap.size) (.tmp 42) (.tmp 47) 22 rfl rfl rfl rfl Fq (ad.alloc (.cells #[.int .i64 (x:Int)] 3)) (Rd.blk (n:=1) (size:=1) bF rfl) (by simp [Value.oneCell']) (by omega) (by omega) (by rw [An9];omega) ?_);intro A8 c8 w8 a5 bk bb))
      have bv:=ff.alloc (.cells #[.int .i64 (x:Int)] 3);have f8:Fr Non w0 w8:=bv.trans bk (fun j hj e=>by have:=(bp j e).1;omega);have br:Own w8 wa.heap.size 3 1 (some ⟨b5,o5,none⟩) M c6 (al.map Qv):=(ab.alloc (.cells #[.int .i64 (x:Int)] 3)).fr bk (fun j e1 e2=>ao.out j e2 e1)
      have bc:Own w8 w0.heap.size 3 1 A8 (zs++[x]).length c8 ((zs++[x]).map Qv):=by
       rw [Am9,An0];exact a5
      have a6:∀q,Ac A8=some q→Ac (some (⟨b5,o5,none⟩:Addr))≠some q:=fun q e e2=>by
       rcases bb with h8|h8
       · exact ao.out q (h8▸e) e2
       ·
        have h9:=(ab.row q e2).2
        have b3:q=wq.heap.size+1:=by
         have:=e.symm.trans h8;injection this with this
         rw [this,An9]
        first|omega|(have b6:=ab.row q e2;omega)
      go_roundw
      case rel=>exact ⟨k+1,A8,c8,zs++[x],by go_num,by rw [Am9];rfl,by omega,ai.out,a7.out,bc,br,a6,f8⟩
      case measure=>simp [intOf];omega
    ·
     obtain rfl:k=M:=by omega
     have u0:decide ((k:Int)<k)=false:=decide_eq_false (by omega);have bj:decide (k<k)=false:=decide_eq_false (by omega);have e1:IntKind.i64.wrap ((i:Int)+1)=(i:Int)+1:=IntWalk.i64_in _ (by omega);have bx:Hid (Bh l places (i+1) [] 0 zs):=(show Bh l places i al al.length zs from hM.out.symm▸ah.out).next bm.out a3.out;clear ah bm a3;go_wp2_with (fail);go_roundw
     case rel=>exact ⟨i+1,Ay,cy,zs,by go_num,rfl,by omega,bx.out,a0.out,ac,aq⟩
     case measure=>simp [intOf];omega
  ·
   obtain rfl:i=n:=by omega
   have u0:decide ((i:Int)<i)=false:=decide_eq_false (by omega);have bj:decide (i<i)=false:=decide_eq_false (by omega);have bw:Hid (Ey l places ys):=(show Bh l places places.length [] 0 ys from hn.out.symm▸ar.out).done;have af:Own wr w.heap.size 3 1 Ax ys.length cx (ys.map Qv):=F9 ae (by omega);have hd:=Lib.hid (ap.out ys Ax cx wr bw.out bi.out af az);clear ap ar ae af;go_wp2_with (fail);exact hd.out
theorem Ag2 {l:List Pn} {places:List Nat} {k p:Nat} (h:places[k]? =some p):Bz l places (k+1)=if ((Bz l places k).contains p||places.any (fun q=>inP l q p))=true then Bz l places k else Bz l places k++[p]:=by
 conv=>lhs;unfold Bz
 rw [h]
def Jn (ys:List Nat) (w:World) (e:Ending) (w':World):Prop:=∃(A:Option Addr) (c:Nat),e=.returned (.slice A ys.length c)∧Own w' w.heap.size 3 1 A ys.length c (ys.map Qv)∧Fr Non w w'
theorem Ag3 (base B n c:Nat) (r:FG) (A:Option Addr) (places:List Nat) (w:World) (h:r.own w base) (hn:Hid (places.length=n)) (hr:Rd w B 1 A n (places.map Qv)) (hnm:n≤1000) (hlt:∀p∈places,p<r.l.length):
  Calls Tryz.prog 32 #[.agg r.cells,.slice A n c] w (Jn (Cr r.l places) w):=by
 have au:=h.num.few;have bg:=Blk.new w 28 r.cells;have f0:Fr Non w (w.alloc (.cells r.cells 28)):=(Fr.refl Non w).alloc _;have g3:Hid (r.cells[3]? =some (.slice r.pA r.l.length r.pC)):=rfl
 have ao:Hid (∀p,p<r.l.length→∃(xs:List Nat) (A2:Option Addr) (c2 b ak:Nat),r.pA=some ⟨b,ak,none⟩∧w.cell? ⟨b,ak+p,none⟩=some (.slice A2 xs.length c2)∧xs.length≤14∧Rd w w.heap.size 1 A2 xs.length (xs.map Qv)∧(∀q,xs.contains q=inP r.l p q)):=by
  intro p hp;have hm:=Am8 hp;obtain ⟨x,b,ak,h1,h2,h3,_,h4,h5,h6⟩:=h.pAt hm;refine ⟨x.xs,x.A,x.c,b,ak,h3,h4,by omega,RowAt.sl h2|>.rd,fun q=> ?_⟩;rw [Ao8,Ao9,Gr hm];exact h1.2 q
 clear h;replace hlt:=Lib.hid hlt;have a5:=Lib.hid (fun k p (hp:places[k]? =some p)=>Ag2 (l:=r.l) (places:=places) hp);have be:=Lib.hid (Jj r.l places);have a6:Hid (Bz r.l places 0=[]):=rfl;have bc:Hid (Bz r.l places n=Cr r.l places):=by show _=_;rw [← hn.out];rfl
 have aj:Hid (∀A c w',Own w' w.heap.size 3 1 A (Cr r.l places).length c ((Cr r.l places).map Qv)→Fr Non w w'→Jn (Cr r.l places) w (.returned (.slice A (Cr r.l places).length c)) w'):=fun A c w' h1 h2=>⟨A,c,rfl,h1,h2⟩;have ah:Hid (∀x k q,places[k]? =some q→(places.take (k+1)).any (fun q=>inP r.l q x)=((places.take k).any (fun q=>inP r.l q x)||inP r.l q x)):=fun x k q hq=>by rw [Cx hq,List.any_append,List.any_cons,List.any_nil,Bool.or_false]
 have ae:Hid (∀x,(places.take n).any (fun q=>inP r.l q x)=places.any (fun q=>inP r.l q x)):=fun x=>by rw [← hn.out,An8]
 generalize Jn (Cr r.l places) w=POST at*;generalize Cr r.l places=HS at*;generalize Bz r.l places=HT at*;generalize r.pA=PA at*;generalize r.pC=PC at*;generalize r.cells=CS at*;generalize r.l=l at*;obtain ⟨N,hN⟩:=Ab l.length;rw [hN.out] at g3 ao au hlt;go_enter Tryz.func32,Tryz.ntmps32;go_upto_region 1 with (fail)
 have bi:=f0.size;generalize w.alloc (.cells CS 28)=w0 at*;go_wp2_with (fail)
 go_loopw [5,6] (fun s v wr=>∃(i:Nat) (Ax:Option Addr) (cx:Nat) (ys:List Nat),v=.int .i64 (i:Int)∧s=.slice Ax ys.length cx∧i≤n∧Hid (ys=HT i)∧Own wr w0.heap.size 3 1 Ax ys.length cx (ys.map Qv)∧Fr Non w0 wr) (fun _ v _=>n-(intOf v).toNat)
 case atStart=>exact ⟨0,none,0,[],rfl,rfl,An7 _,a6.out.symm,Own.nil _ _ _ _,Fr.refl _ _⟩
 case round=>
  obtain ⟨i,Ax,cx,ys,rfl,rfl,hi,aw,aa,hf⟩:=hrel;have ac:Fr Non w wr:=f0.trans hf zr
  by_cases hin:i<n
  ·
   obtain ⟨x,hx⟩:∃x,places[i]? =some x:=⟨_,Am8 (by rw [hn.out];exact hin)⟩;have bf:ys.length≤i:=by rw [aw.out];exact be.out i
   obtain ⟨b4,o4,u4,rfl,_,al,d0⟩:=(hr.fr ac zr).at hin;rw [An2,hx] at al;injection al with al
   subst al;replace d0:wr.cell? ⟨b4,o4+i,none⟩=some (.int .i64 (x:Int)):=d0;have af:=Lib.hid (a5.out i x hx);rw [← aw.out] at af;have i1:(0:Int)≤i:=by omega
   have i2:(i:Int)<n:=by omega
   have i3:(i:Int).toNat=i:=by omega
   have t0:decide ((i:Int)<n)=true:=decide_eq_true i2;have bk:decide (i<n)=true:=decide_eq_true hin;have bl:IntKind.i64.wrap ((i:Int)+1)=(i:Int)+1:=IntWalk.i64_in _ (by omega);have kh:=Lib.hid (Mn wr.heap.size ys.length cx Ax ys x wr rfl aa.rd (by omega));obtain ⟨c0,av⟩:=Ab (ys.contains x);have hB:Hid (∃BB:Nat→Bool,BB 0=c0∧(∀j q,places[j]? =some q→BB (j+1)=(BB j||inP l q x))∧BB n=(ys.contains x||places.any (fun q=>inP l q x))):=⟨fun j=>c0||(places.take j).any (fun q=>inP l q x),by simp,fun j q hq=>by (dsimp only;rw [ah.out x j q hq,Bool.or_assoc]),by (dsimp only;rw [ae.out x,av.out])⟩;obtain ⟨BB,az,ai,a4⟩:=hB.out;replace az:=Lib.hid az;replace ai:=Lib.hid ai;rw [← a4] at af;rw [av.out] at kh;have a8:=Lib.hid hx;clear hB a4 av ah ae hx a5;go_wp2_with (go_at_call 57;(with_reducible refine (kh.out).mono ?_);rintro _ wq ⟨rfl,fq⟩;(have ax:=aa.fr fq zr);(have a2:=hf.trans fq zr));have bh:Fr Non w wq:=f0.trans a2 zr;clear kh aa hf ac d0;generalize wr=wa at*
   go_loopw [7,8] (fun b v wr=>∃(j:Nat),v=.int .i64 (j:Int)∧b=.bool (BB j)∧j≤n∧Own wr w0.heap.size 3 1 Ax ys.length cx (ys.map Qv)∧Fr Non w0 wr) (fun _ v _=>n-(intOf v).toNat)
   case atStart=>exact ⟨0,rfl,by rw [az.out],An7 _,ax,a2⟩
   case round=>
    obtain ⟨j,rfl,rfl,hj,aa,hf⟩:=hrel;have ac:Fr Non w wr:=f0.trans hf zr;obtain ⟨b6,o6,u6,e6,_,aq,d6⟩:=(hr.fr ac zr).at hin;injection e6 with e6
    injection e6 with e7 e8
    subst e7;subst e8;obtain rfl:u6=.int .i64 (x:Int):=by rw [An2,a8.out] at aq;injection aq with aq;exact aq.symm
    replace d6:wr.cell? ⟨b4,o4+i,none⟩=some (.int .i64 (x:Int)):=d6
    by_cases hjn:j<n
    ·
     obtain ⟨y,hy⟩:∃y,places[j]? =some y:=⟨_,Am8 (by rw [hn.out];exact hjn)⟩;have a7:=hlt.out y (An3 hy);obtain ⟨b5,o5,u5,e5,_,ap,d5⟩:=(hr.fr ac zr).at hjn;injection e5 with e5
     injection e5 with e7 e8
     subst e7;subst e8;rw [An2,hy] at ap;injection ap with ap
     subst ap;replace d5:wr.cell? ⟨b4,o4+j,none⟩=some (.int .i64 (y:Int)):=d5;obtain ⟨xs,A2,c2,b2,o2,rfl,d2,bd,ba,a1⟩:=ao.out y a7;have ad:=ai.out j y hy;have kq:=Lib.hid (Mn w.heap.size xs.length c2 A2 xs x wr.drew rfl (ba.fr ac.drew zr) (by omega));rw [a1 x] at kq;generalize inP l y x=IP at*;have j1:(0:Int)≤j:=by omega
     have j2:(j:Int)<n:=by omega
     have j3:(j:Int).toNat=j:=by omega
     have p1:(0:Int)≤y:=by omega
     have p2:(y:Int)<N:=by omega
     have p3:(y:Int).toNat=y:=by omega
     have u0:decide ((j:Int)<n)=true:=decide_eq_true j2;have a3:decide (j<n)=true:=decide_eq_true hjn;have e1:IntKind.i64.wrap ((j:Int)+1)=(j:Int)+1:=IntWalk.i64_in _ (by omega);have Hb:wr.cell? ⟨w.heap.size,3,none⟩=some (.slice (some ⟨b2,o2,none⟩) N PC):=((bg.fr hf zq).cell 3).trans g3.out;have Db:=ac.cell d2 zq;have Ib:=d5;have Jb:=d6;have F0:Fr Non wr wr.drew:=(Fr.refl Non wr).drew;have H0:wr.drew.cell? ⟨w.heap.size,3,none⟩=some (.slice (some ⟨b2,o2,none⟩) N PC):=Hb;have D0:wr.drew.cell? ⟨b2,o2+y,none⟩=some (.slice A2 xs.length c2):=Db;have I0:wr.drew.cell? ⟨b4,o4+j,none⟩=some (.int .i64 (y:Int)):=Ib;have J0:wr.drew.cell? ⟨b4,o4+i,none⟩=some (.int .i64 (x:Int)):=Jb;clear d5 d6 d2 ao hy ai hlt a1;obtain ⟨bj,ab⟩:=Ab (BB j);rw [ab.out] at ad ⊢
     cases bj
     case false=>
      rw [Bool.false_or] at ad;replace ad:=Lib.hid ad;go_upto_region 9 with (fail)
      refine wp_region_held_drew (S:=fun w'=>w'.cell? ⟨w.heap.size,3,none⟩=some (.slice (some ⟨b2,o2,none⟩) N PC)∧w'.cell? ⟨b2,o2+y,none⟩=some (.slice A2 xs.length c2)∧w'.cell? ⟨b4,o4+j,none⟩=some (.int .i64 (y:Int))∧w'.cell? ⟨b4,o4+i,none⟩=some (.int .i64 (x:Int))) (by kernel_rfl) ⟨H0,D0,I0,J0⟩ (fun hHeld=> ?_);clear hHeld;refine tkH 0 ⟨H0,D0,I0,J0⟩ (h:=tkH 1 ⟨H0,D0,I0,J0⟩ (h:=tkH 2 ⟨H0,D0,I0,J0⟩ (h:=tkH 3 ⟨H0,D0,I0,J0⟩ (h:=tkH 4 ⟨H0,D0,I0,J0⟩ (h:=tkH 5 ⟨H0,D0,I0,J0⟩ (h:=tkH 6 ⟨H0,D0,I0,J0⟩ (h:=tkH 7 ⟨H0,D0,I0,J0⟩ (h:=tkH 8 ⟨H0,D0,I0,J0⟩ (h:=tkH 9 ⟨H0,D0,I0,J0⟩ (h:=tkH 10 ⟨H0,D0,I0,J0⟩ (h:=tkH 11 ⟨H0,D0,I0,J0⟩ (h:=?_))))))))))));simp only [List.set];refine tkH 12 ⟨H0,D0,I0,J0⟩ (h:=tkH 13 ⟨H0,D0,I0,J0⟩ (h:=?_));simp only [List.set];refine oG 14 (fun K hK=> ?_);go_simp;go_wp2_with (go_at_call 57;(with_reducible refine (kq.out).mono ?_);rintro _ v1 ⟨rfl,ag⟩;have H1:=ag.cell H0 zq;have D1:=ag.cell D0 zq;have I1:=ag.cell I0 zq;have J1:=ag.cell J0 zq;have F1:=F0.trans ag zr);refine hK.out _ _ ⟨H1,D1,I1,J1⟩ (fun hZ=> ?_);clear hZ hK K;try simp only [Aj,List.set]
      refine tkH 15 ⟨H1,D1,I1,J1⟩ (h:=tkH 16 ⟨H1,D1,I1,J1⟩ (h:=?_));simp only [List.set];refine oD ?_;go_simp;have fz:=hf.trans F1 zr;have oz:=aa.fr F1 zr;clear kq aa hf ac ab;go_wp2_with (fail);go_roundw
      case rel=>exact ⟨j+1,by go_num,by rw [ad.out],by omega,oz,fz⟩
      case measure=>simp [intOf];omega
     case true=>
      rw [Bool.true_or] at ad;replace ad:=Lib.hid ad;go_upto_region 9 with (fail)
      refine wp_region_held_drew (S:=fun w'=>w'.cell? ⟨w.heap.size,3,none⟩=some (.slice (some ⟨b2,o2,none⟩) N PC)∧w'.cell? ⟨b2,o2+y,none⟩=some (.slice A2 xs.length c2)∧w'.cell? ⟨b4,o4+j,none⟩=some (.int .i64 (y:Int))∧w'.cell? ⟨b4,o4+i,none⟩=some (.int .i64 (x:Int))) (by kernel_rfl) ⟨H0,D0,I0,J0⟩ (fun hHeld=> ?_);clear hHeld;refine tkH 0 ⟨H0,D0,I0,J0⟩ (h:=tkH 1 ⟨H0,D0,I0,J0⟩ (h:=skH 2 ⟨H0,D0,I0,J0⟩ (h:=skH 3 ⟨H0,D0,I0,J0⟩ (h:=skH 4 ⟨H0,D0,I0,J0⟩ (h:=skH 5 ⟨H0,D0,I0,J0⟩ (h:=skH 6 ⟨H0,D0,I0,J0⟩ (h:=skH 7 ⟨H0,D0,I0,J0⟩ (h:=skH 8 ⟨H0,D0,I0,J0⟩ (h:=skH 9 ⟨H0,D0,I0,J0⟩ (h:=skH 10 ⟨H0,D0,I0,J0⟩ (h:=skH 11 ⟨H0,D0,I0,J0⟩ (h:=?_))))))))))));simp only [List.set];refine skH 12 ⟨H0,D0,I0,J0⟩ (h:=skH 13 ⟨H0,D0,I0,J0⟩ (h:=skH 14 ⟨H0,D0,I0,J0⟩ (h:=tkH 15 ⟨H0,D0,I0,J0⟩ (h:=tkH 16 ⟨H0,D0,I0,J0⟩ (h:=?_)))));simp only [List.set];refine oD ?_;go_simp;have fz:=hf.trans F0 zr;have oz:=aa.fr F0 zr;clear kq aa hf ac ab;go_wp2_with (fail);go_roundw
      case rel=>exact ⟨j+1,by go_num,by rw [ad.out],by omega,oz,fz⟩
      case measure=>simp [intOf];omega
    ·
     obtain rfl:j=n:=by omega
     have u0:decide ((j:Int)<j)=false:=decide_eq_false (by omega);have a3:decide (j<j)=false:=decide_eq_false (by omega);clear ai ao;obtain ⟨bj,ab⟩:=Ab (BB j);rw [ab.out] at af ⊢
     cases bj
     case true=>
      rw [if_pos rfl] at af;go_wp2_with (fail);go_roundw
      case rel=>exact ⟨i+1,Ax,cx,ys,by go_num,rfl,by omega,af.out.symm,aa,hf⟩
      case measure=>simp [intOf];omega
     case false=>
      rw [if_neg (by simp)] at af;have ay:=aa.row;have bm:=hf.size;have bF:=Blk.new wr 3 #[.int .i64 (x:Int)];go_wp2_with (at_builtin;go_loud (refine Az (base:=w0.heap.size) (.tmp 45) (.tmp 50) 22 rfl rfl rfl rfl Fq (aa.alloc (.cells #[.int .i64 (x:Int)] 3)) (Rd.blk (n:=1) (size:=1) bF rfl) (by simp [Value.oneCell']) (by omega) (by omega) (by rw [An9];omega) ?_);intro A8 c8 w8 ar a9 bb);have f8:Fr Non w0 w8:=(hf.alloc (.cells #[.int .i64 (x:Int)] 3)).trans a9 (fun j hj e=>by have:=(ay j e).1;omega)
      have a0:Own w8 w0.heap.size 3 1 A8 (ys++[x]).length c8 ((ys++[x]).map Qv):=by
       rw [Am9,An0];exact ar
      go_roundw
      case rel=>exact ⟨i+1,A8,c8,ys++[x],by go_num,by rw [Am9];rfl,by omega,af.out.symm,a0,f8⟩
      case measure=>simp [intOf];omega
  ·
   obtain rfl:i=n:=by omega
   have u0:decide ((i:Int)<i)=false:=decide_eq_false (by omega);have a3:decide (i<i)=false:=decide_eq_false (by omega);obtain rfl:ys=HS:=by rw [aw.out,bc.out]
   have hd:=Lib.hid (aj.out Ax cx wr (F9 aa (by omega)) ac);clear aj aa;go_wp2_with (fail);exact hd.out
end Oq
end
section
open Go.RowKit
namespace Oq
theorem Ag4 {x:OpL} {w:World} {base:Nat} (h:x.lies w base) (R S:Nat):({x with r:=R,s:=S}:OpL).lies w base:=⟨h.past,h.path,h.nodes,h.body,h.refs,h.guards,h.boxes,h.hist,h.seals⟩
def Ag5 (o:Op) (base:Nat) (w:World) (e:Ending) (w':World):Prop:=∃y:OpL,e=.returned (.agg y.cells)∧y.op=sgn o∧y.lies w' base∧Fr Non w w'
theorem Ag6 (x:OpL) (d base:Nat) (w:World) (hd:x.by_=(d:Int)) (hd':d≤1000) (ho:x.lies w base) (hok:x.op.ok):
  Calls Tryz.prog 56 #[.agg x.cells] w (Ag5 x.op base w):=by
 have h:=Wo x d w (by rw [hd,IntKind.wrap_u64];omega) (by omega) ho.at hok;refine Calls.mono h ?_;rintro r w' ⟨h1,h2⟩;exact ⟨_,h1,Ab4 x x.op rfl d (by show x.by_.toNat=d;omega) _ rfl,Ag4 (ho.non h2) _ _,h2⟩
def Cf (l:List Pn) (b:Int) (ys:List Nat):Nat→Int
 |0=>1
 |k+1=>match ys[k]? with
  |some p=>match l[p]? with
   |some n=>if n.o.by_=b then max (Cf l b ys k) (n.o.sq+1) else Cf l b ys k
   |none=>Cf l b ys k
  |none=>Cf l b ys k
theorem Sj {l:List Pn} {b:Int} {ys:List Nat} {k p:Nat} {n:Pn} (hp:ys[k]? =some p) (hn:l[p]? =some n):Cf l b ys (k+1)=if n.o.by_=b then max (Cf l b ys k) (n.o.sq+1) else Cf l b ys k:=by
 conv=>lhs;unfold Cf
 rw [hp];dsimp only;rw [hn]
theorem Mo {l:List Pn} {b m:Int} {ys:List Nat} (h1:1≤m) (h:∀p∈ys,∀n,l[p]? =some n→n.o.by_=b→n.o.sq+1≤m):∀k,Cf l b ys k≤m
 |0=>h1
 |k+1=>by
  have ih:=Mo (l:=l) (b:=b) h1 h k;unfold Cf
  split
  ·
   rename_i p hp
   split
   ·
    rename_i n hn
    split
    ·
     rename_i hb;exact Int.max_le.2 ⟨ih,h p (An3 hp) n hn hb⟩
    · exact ih
   · exact ih
  · exact ih
theorem Mp (l:List Pn) (b:Int) (ys:List Nat):∀k,1≤Cf l b ys k
 |0=>Int.le_refl _
 |k+1=>by
  have ih:=Mp l b ys k;unfold Cf
  split
  ·
   split
   ·
    split
    · exact Int.le_trans ih (Int.le_max_left _ _)
    · exact ih
   · exact ih
  · exact ih
theorem Sk {l:List Pn} {b:Int} {ys:List Nat} {p:Nat} {n:Pn} (hn:l[p]? =some n) (hb:n.o.by_=b):∀(k j:Nat),j<k→ys[j]? =some p→n.o.sq+1≤Cf l b ys k
 |0,j,h,_=>absurd h (Nat.not_lt_zero j)
 |k+1,j,h,hj=>by
  rcases Ap0 j k with hjk|hjk
  ·
   have ih:=Sk (l:=l) (b:=b) (ys:=ys) hn hb k j hjk hj;unfold Cf
   split
   ·
    split
    ·
     split
     · exact Int.le_trans ih (Int.le_max_left _ _)
     · exact ih
    · exact ih
   · exact ih
  ·
   obtain rfl:j=k:=by omega
   rw [Sj hj hn,if_pos hb];exact Int.le_max_right _ _
theorem Sm {cards:List Cd} {l:List Pn} (h:Rows cards l) (hf:l.length≤200) {hs ys:List Nat} (hb:Ey l hs ys) (hlt:∀p∈hs,p<l.length) (q:Nat):q∈ys↔Ai l (hs.map (nmP l)) q=true:=by
 have hat:∀p∈hs,∃n,l[p]? =some n∧nmP l p=n.id∧plc l (nmP l p)=some p:=fun p hp=>by
  have hn:=Am8 (hlt p hp);exact ⟨_,hn,Ek hn,by rw [Ek hn];exact (h.ok p _ hn).plc⟩
 rw [hb.2 q];unfold Ai Bs Ci upB;rw [Bool.and_eq_true,Bool.or_eq_true,decide_eq_true_eq,Aq0,Aq0];constructor
 ·
  rintro (hq|⟨p,hp,hi⟩)
  ·
   obtain ⟨n,_,_,h3⟩:=hat q hq;have:=hlt q hq;exact ⟨by omega,.inr ⟨_,List.mem_map.2 ⟨q,hq,rfl⟩,by rw [h3];exact beq_self_eq_true _⟩⟩
  ·
   obtain ⟨n,h1,_,h3⟩:=hat p hp;have h4:n.ps q=true:=by rw [← Gr h1];exact hi
   have h5:=(h.ok p n h1).lt q h4;have h6:=hlt p hp;refine ⟨by omega,.inl ⟨_,List.mem_map.2 ⟨p,hp,rfl⟩,?_⟩⟩;rw [h3];dsimp only;rw [h1];exact h4
 ·
  rintro ⟨_,⟨x,hx,hq⟩|⟨x,hx,hq⟩⟩
  ·
   obtain ⟨p,hp,rfl⟩:=List.mem_map.1 hx;obtain ⟨n,h1,_,h3⟩:=hat p hp;rw [h3] at hq;dsimp only at hq;rw [h1] at hq;exact .inr ⟨p,hp,by rw [Gr h1];exact hq⟩
  ·
   obtain ⟨p,hp,rfl⟩:=List.mem_map.1 hx;obtain ⟨n,h1,_,h3⟩:=hat p hp;rw [h3,beq_iff_eq] at hq;injection hq with hq
   exact .inl (hq▸hp)
theorem Ag7 {cards:List Cd} {l:List Pn} (h:Rows cards l) (hf:l.length≤200) {hs ys:List Nat} (hb:Ey l hs ys) (hlt:∀p∈hs,p<l.length) (b:Int):Cf l b ys ys.length=Ao l (Ai l (hs.map (nmP l))) b l.length+1:=by
 have hp:=Sm h hf hb hlt;refine Int.le_antisymm (Mo (by have:=Jk l (Ai l (hs.map (nmP l))) b l.length;omega) (fun p hpy n hn hnb=> ?_) _) ?_
 ·
  have:=Lk (List.getElem?_eq_some_iff.1 hn).1 hn hnb ((hp p).1 hpy);omega
 ·
  rcases Int.lt_or_le 0 (Ao l (Ai l (hs.map (nmP l))) b l.length) with h0|h0
  ·
   obtain ⟨k,m,_,h2,h3,h4,h5⟩:=Mb l.length h0;obtain ⟨j,hj⟩:=List.getElem?_of_mem ((hp k).2 h4);have:=Sk h2 h3 ys.length j (List.getElem?_eq_some_iff.1 hj).1 hj;omega
  ·
   have:=Mp l b ys ys.length;omega
def Bf (l:List Pn) (o:Op) (hs:List Nat):Op:={o with sq:=Ao l (Ai l (hs.map (nmP l))) o.by_ l.length+1,at_:=o.at_+late l (hs.map (nmP l)),past:=An (hs.map (nmP l))}
def Dj (l:List Pn) (o:Op) (hs:List Nat):List Pn:=if (plc l (Bf l o hs).name).isSome=true then l else l++[As l (sgn (Bf l o hs))]
theorem Ag8 (l:List Pn) (x:Id):Ct (l.map Pn.id) x=(plc l x).isSome:=by
 rw [Ao8,G7,List.mem_map];constructor
 ·
  rintro ⟨n,h1,h2⟩
  cases hp:plc l x with
  |some p=>rfl
  |none=>
   unfold plc at hp;rw [List.findIdx?_eq_none_iff] at hp;have:=hp n h1;rw [h2] at this
   first|exact absurd this (by simp)|(simp at this)
 ·
  intro h;obtain ⟨p,hp⟩:=Option.isSome_iff_exists.1 h;obtain ⟨n,h1,h2⟩:=Bw hp;exact ⟨n,An3 h1,h2⟩
def OpL.put (x:OpL) (s a:Int) (A:Option Addr) (c:Nat) (ps:List Id):OpL:={x with sq:=s,at_:=a,pastA:=A,pastC:=c,past:=ps}
theorem OpL.lies.put {w:World} {base c:Nat} {x:OpL} {s a:Int} {A:Option Addr} {ps:List Id} (h:x.lies w base) (ho:RowLies w base 41 3 A ps.length c (ps.flatMap Id.cells)):(x.put s a A c ps).lies w base:=
 ⟨ho,h.path,h.nodes,h.body,h.refs,h.guards,h.boxes,h.hist,h.seals⟩
theorem Sn {w:World} {g:Nat} (cs:Array Value):Fr (One g) w (w.setRow g cs):=(Fr.refl (One g) w).setRow (fun _=>rfl) cs
theorem FG.own.setG {w:World} {base gv:Nat} {r:FG} {cs:Array Value} (h:r.own w base) (hb:Blk w gv 28 cs) (cs':Array Value):r.own (w.setRow gv cs') base:=
 h.keepP (Sn cs') (Types.one hb) (by decide) (by decide) (by decide) (by decide) (by decide) (by decide) (by decide) (by decide) (by decide) (by decide)
theorem Mq (l0:List Int) (i:Nat):Cm l0 i≤1000000:=by
 unfold Cm
 split
 ·
  rename_i q _;have:=Hw (n:=q) (m:=1000000) (by omega);omega
 · omega
structure Bl (w v:World) (CS:Array Value) (x:OpL) (s a:Int) (A:Option Addr) (n c:Nat) (ps:List Id):Prop where
 g:Blk v w.heap.size 28 CS
 b:Blk v (w.heap.size+1) 67 (x.put s a A c ps).cells
 r:Blk v (w.heap.size+2) 28 #[.slice none 0 0,.slice none 0 0,.slice none 0 0,.slice none 0 0]
 f:Fr Non w v
 sz:w.heap.size+3≤v.heap.size
 past:Own v (w.heap.size+3) 41 3 A n c (ps.flatMap Id.cells)
 len:ps.length=n
theorem Bl.over {S:Nat→Prop} {w v v':World} {CS:Array Value} {x:OpL} {s a:Int} {A:Option Addr} {n c:Nat} {ps:List Id} (h:Bl w v CS x s a A n c ps) (hf:Fr S v v') (hS:∀k,S k→w.heap.size+3≤k) (ho:Own v' (w.heap.size+3) 41 3 A n c (ps.flatMap Id.cells)):Bl w v' CS x s a A n c ps where
 g:=h.g.fr hf (fun e=>by have:=hS _ e;omega)
 b:=h.b.fr hf (fun e=>by have:=hS _ e;omega)
 r:=h.r.fr hf (fun e=>by have:=hS _ e;omega)
 f:=h.f.trans hf (fun k hk e=>by have:=hS _ e;omega)
 sz:=An1 h.sz hf.size
 past:=ho
 len:=h.len
theorem Bl.non {w v v':World} {CS:Array Value} {x:OpL} {s a:Int} {A:Option Addr} {n c:Nat} {ps:List Id} (h:Bl w v CS x s a A n c ps) (hf:Fr Non v v'):Bl w v' CS x s a A n c ps:=
 h.over hf (fun _ e=>e.elim) (h.past.fr hf zr)
theorem Bl.setB {w v:World} {CS:Array Value} {x:OpL} {s a s' a':Int} {A:Option Addr} {n c:Nat} {ps:List Id} (h:Bl w v CS x s a A n c ps) (j:Nat) (u:Value) (hc:(x.put s a A c ps).cells.setIfInBounds j u=(x.put s' a' A c ps).cells):Bl w (v.setCell ⟨w.heap.size+1,j,none⟩ u) CS x s' a' A n c ps where
 g:=h.g.far (p:=⟨w.heap.size+1,j,none⟩) (by show w.heap.size≠w.heap.size+1;omega) u
 b:=hc▸h.b.set j u
 r:=h.r.far (p:=⟨w.heap.size+1,j,none⟩) (by show w.heap.size+2≠w.heap.size+1;omega) u
 f:=h.f.setNew (g:=w.heap.size+1) (by omega) j u
 sz:=by have:=h.sz;first|exact this|(simp [Ap1];omega)
 past:=Own.setFar h.past h.b (by decide) u
 len:=h.len
theorem Bl.sq {w v:World} {CS:Array Value} {x:OpL} {s a:Int} {A:Option Addr} {n c:Nat} {ps:List Id} (h:Bl w v CS x s a A n c ps) (s':Int):Bl w (v.setCell ⟨w.heap.size+1,1,none⟩ (.int .i64 s')) CS x s' a A n c ps:=h.setB 1 _ rfl
theorem Bl.at_ {w v:World} {CS:Array Value} {x:OpL} {s a:Int} {A:Option Addr} {n c:Nat} {ps:List Id} (h:Bl w v CS x s a A n c ps) (a':Int):Bl w (v.setCell ⟨w.heap.size+1,3,none⟩ (.int .i64 a')) CS x s a' A n c ps:=h.setB 3 _ rfl
theorem Bl.past! {S:Nat→Prop} {w v v':World} {CS:Array Value} {x:OpL} {s a:Int} {A A':Option Addr} {n c n' c':Nat} {ps ps':List Id} (h:Bl w v CS x s a A n c ps) (hf:Fr S v v') (hS:∀k,S k→w.heap.size+3≤k) (ho:Own v' (w.heap.size+3) 41 3 A' n' c' (ps'.flatMap Id.cells)) (hl:ps'.length=n'):Bl w (v'.setCell ⟨w.heap.size+1,4,none⟩ (.slice A' n' c')) CS x s a A' n' c' ps':=by
 have g:=h.g.fr hf (fun e=>by have:=hS _ e;omega);have b:=h.b.fr hf (fun e=>by have:=hS _ e;omega);have r:=h.r.fr hf (fun e=>by have:=hS _ e;omega);have f:=h.f.trans hf (fun k hk e=>by have:=hS _ e;omega);have sz:=An1 h.sz hf.size;refine ⟨g.far (p:=⟨w.heap.size+1,4,none⟩) (by show w.heap.size≠w.heap.size+1;omega) _,?_,r.far (p:=⟨w.heap.size+1,4,none⟩) (by show w.heap.size+2≠w.heap.size+1;omega) _,f.setNew (g:=w.heap.size+1) (by omega) 4 _,?_,Own.setFar ho b (by decide) _,hl⟩
 ·
  subst hl;exact b.set 4 (.slice A' ps'.length c')
 · first|exact sz|(simp [Ap1];omega)
def FG.more (r:FG) (x:OpL) (lA:Option Addr) (lC:Nat) (iA:Option Addr) (iC:Nat) (pA:Option Addr) (pC:Nat) (u:UpL):FG:=
 {cA:=r.cA,cC:=r.cC,cards:=r.cards,lA:=lA,lC:=lC,xs:=r.xs++[x],iA:=iA,iC:=iC,pA:=pA,pC:=pC,ps:=r.ps++[u],l:=r.l++[As r.l x.op]}
theorem Ag9 {w wz:World} {base:Nat} {r:FG} {x:OpL} {lA iA pA:Option Addr} {lC iC pC:Nat} {u:UpL} (h:r.own w base) (hx:x.lies wz base) (hok:x.op.ok) (hf:Fr Non w wz) (hb:base≤w.heap.size+3) (he:Ar r.cards r.l x.op=0) (hB:FkB (r.l++[As r.l x.op]))
  (oL:Own wz (w.heap.size+3) 67 27 lA (r.l.length+1) lC (r.xs.flatMap (fun x=>x.cells.toList)++x.cells.toList))
  (oI:Own wz (w.heap.size+3) 41 3 iA (r.l.length+1) iC (r.ids.flatMap Id.cells++x.op.name.cells))
  (oU:Own wz (w.heap.size+3) 22 1 pA (r.l.length+1) pC (r.ps.map UpL.cell++[u.cell])) (ou:u.own wz base) (hu:Mf (As r.l x.op) u.xs):
  (r.more x lA lC iA iC pA pC u).own wz base:=by
 have hlen:(r.l++[As r.l x.op]).length=r.l.length+1:=by rw [Am9];rfl
 refine ⟨h.cards.non hf,?_,?_,?_,?_,?_,?_,?_,?_,?_,Rows.snoc r.l x.op h.rows he,hB,h.cfew,h.cok⟩
 ·
  show RowAt wz base 67 27 lA (r.l++[As r.l x.op]).length lC ((r.xs++[x]).flatMap (fun x=>x.cells.toList));rw [hlen,Ao0,Aq1,Aq2,Ao1];exact (RowAt.of_own oL).lower hb
 ·
  intro y hy
  rcases List.mem_append.1 hy with h1|h1
  · exact (h.each y h1).non hf
  ·
   rw [An6] at h1;rw [h1];exact hx
 ·
  show (r.xs++[x]).map OpL.op=(r.l++[As r.l x.op]).map Pn.o;rw [An0,An0,h.same];rfl
 ·
  intro n hn'
  rcases List.mem_append.1 hn' with h1|h1
  · exact h.ok n h1
  ·
   rw [An6] at h1;rw [h1,Hm,Rz];exact ⟨hok,Lu hok⟩
 ·
  show RowAt wz base 41 3 iA (r.l++[As r.l x.op]).length iC (((r.l++[As r.l x.op]).map Pn.id).flatMap Id.cells);rw [hlen,An0,Ao0,Ap2,Ap3,Aq1,Aq2,Ao1,Rz];exact (RowAt.of_own oI).lower hb
 ·
  show RowAt wz base 22 1 pA (r.l++[As r.l x.op]).length pC ((r.ps++[u]).map UpL.cell);rw [hlen,An0];exact (RowAt.of_own oU).lower hb
 ·
  intro y hy
  rcases List.mem_append.1 hy with h1|h1
  · exact RowAt.non (h.eachP y h1) hf
  ·
   rw [An6] at h1;rw [h1];exact ou
 ·
  show (r.ps++[u]).length=(r.l++[As r.l x.op]).length;rw [Am9,Am9,h.lenP];rfl
 ·
  intro i y n hy hn;replace hy:(r.ps++[u])[i]? =some y:=hy;replace hn:(r.l++[As r.l x.op])[i]? =some n:=hn
  rcases Ap0 i r.l.length with hi|hi
  ·
   rw [Ap4 (by rw [h.lenP];exact hi)] at hy;rw [Ap4 hi] at hn;exact h.sameP i y n hy hn
  ·
   have hi2:=(List.getElem?_eq_some_iff.1 hn).1;rw [hlen] at hi2;obtain rfl:i=r.l.length:=by omega
   rw [Ap5 (by rw [h.lenP];exact An5 _),h.lenP,Nat.sub_self] at hy;rw [Ap5 (An5 _),Nat.sub_self] at hn;injection hy with hy
   injection hn with hn
   rw [← hy,← hn];exact hu
def Sp (t:TypeId) (len:Nat) (parts:Array (Nat × Value)):=Instr.buildSlice t len parts
theorem Ah0 (n:Nat) (p:Array (Nat × Value)):Instr.buildSlice 24 n p=Sp 24 n p:=rfl
theorem Ah1 (x:OpL) (w:World):(Sp 24 1 #[(0,.agg x.cells)]).run Tryz.prog w=.ok (.slice (some ⟨w.heap.size,0,none⟩) 1 1) (w.alloc (.cells x.cells 67)):=by
 obtain ⟨ht,hinfo,_⟩:=Lx;obtain ⟨i,hi,hz,hs,_⟩:=info_parts hinfo;exact run_buildSlice w 24 67 1 _ _ i _ ht hi hz (by rw [hs];decide) (by rw [hs];decide) (by rw [hs];kernel_rfl)
theorem Ah2 {P:Program} {Q:Exit→Act→World→Prop} {l:List Oper} {md:Region.Mode} {S:World→Prop} {g fuel:Nat} {listed:Array Bool} {a:Act} {w:World} (i j:Nat) {d:Option Tmp} {op:Go.Op} {ty:TypeId} {pos:String} {after:Array Edge} {d':Option Tmp} {op':Go.Op} {ty':TypeId} {pos':String} {after':Array Edge}
  (hr:Region.ready md l.toArray listed=[i,j]) (ho:l[i]? =some ⟨d,op,ty,pos,after,none⟩) (ho':l[j]? =some ⟨d',op',ty',pos',after',none⟩)
  (h:∀K':Act→World→Prop,Shut (∀a w,S w→(S w→C5 P md l.toArray Q S g fuel (listed.setIfInBounds i true) a w)→K' a w)→Oper.wp P ⟨d,op,ty,pos,after,none⟩ a w K' Q)
  (h':∀K':Act→World→Prop,Shut (∀a w,S w→(S w→C5 P md l.toArray Q S g fuel (listed.setIfInBounds j true) a w)→K' a w)→Oper.wp P ⟨d',op',ty',pos',after',none⟩ a w K' Q):
  C5 P md l.toArray Q S g (fuel+1) listed a w:=by
 refine ⟨fun h0=>(by rw [hr] at h0;cases h0),fun k hk=> ?_⟩;rw [hr] at hk
 rcases List.mem_cons.1 hk with rfl|hk
 ·
  refine wpOp_step (o:=⟨d,op,ty,pos,after,none⟩) (by rw [Aq3];exact ho) (fun K' hK=> ?_);rw [if_pos (show Region.wanted _ _=true from rfl)];exact h K' (fun a w hS hW=>hK a w ⟨fun _=>hS,hW hS⟩)
 ·
  obtain rfl:=List.mem_singleton.1 hk;refine wpOp_step (o:=⟨d',op',ty',pos',after',none⟩) (by rw [Aq3];exact ho') (fun K' hK=> ?_);rw [if_pos (show Region.wanted _ _=true from rfl)];exact h' K' (fun a w hS hW=>hK a w ⟨fun _=>hS,hW hS⟩)
theorem Ez (r:FG):r.cells.all (·.oneCell')=true:=by unfold FG.cells;simp [Value.oneCell']
theorem Sq (x:OpL):∀u∈x.cells.toList,u.oneCell'=true:=by
 intro u hu;have h:=Fb x;rw [Array.all_eq_true'] at h;exact h u (Array.mem_toList_iff.1 hu)
theorem Ah3 (l:List OpL):∀u∈l.flatMap (fun x=>x.cells.toList),u.oneCell'=true:=by
 intro u hu;obtain ⟨x,_,hx⟩:=List.mem_flatMap.1 hu;exact Sq x u hx
theorem Ah4 (l:List UpL):∀u∈l.map UpL.cell,u.oneCell'=true:=by
 intro u hu;obtain ⟨x,_,rfl⟩:=List.mem_map.1 hu;rfl
theorem Bl.setG {w v:World} {CS:Array Value} {x:OpL} {s a:Int} {A:Option Addr} {n c:Nat} {ps:List Id} (h:Bl w v CS x s a A n c ps) (j:Nat) (u:Value):Bl w (v.setCell ⟨w.heap.size,j,none⟩ u) (CS.setIfInBounds j u) x s a A n c ps where
 g:=h.g.set j u
 b:=h.b.far (p:=⟨w.heap.size,j,none⟩) (by show w.heap.size+1≠w.heap.size;omega) u
 r:=h.r.far (p:=⟨w.heap.size,j,none⟩) (by show w.heap.size+2≠w.heap.size;omega) u
 f:=h.f.setNew (g:=w.heap.size) (by omega) j u
 sz:=by have:=h.sz;first|exact this|(simp [Ap1];omega)
 past:=Own.setFar h.past h.g (by decide) u
 len:=h.len
theorem OpL.lies.setG {v:World} {base:Nat} {z:OpL} {g:Nat} {cs:Array Value} (h:z.lies v base) (hb:Blk v g 28 cs) (j:Nat) (u:Value):z.lies (v.setCell ⟨g,j,none⟩ u) base:=
 h.keepP ((Fr.refl (One g) v).setOne j u) (Types.one hb) (by decide) (by decide) (by decide) (by decide) (by decide) (by decide) (by decide)
def Ga (base:Nat) (r:FG) (o:Op) (hs:List Nat) (w:World) (e:Ending) (w':World):Prop:=
 ∃r':FG,e=.returned (.agg r'.cells)∧Fr Non w w'∧r'.own w' base∧r'.cards=r.cards∧r'.l=Dj r.l o hs
theorem Ah5 {w wz:World} {base:Nat} {r:FG} {o:Op} {hs ys:List Nat} {z:OpL} {lA iA pA A7:Option Addr} {lC iC pC c7 N M:Nat} (h:r.own w base) (hb:base≤w.heap.size) (hf:Fr Non w wz) (hz:z.op=sgn (Bf r.l o hs)) (hzl:z.lies wz base) (hok:(Bf r.l o hs).ok) (hbh:Ey r.l hs ys) (hlt:∀p∈hs,p<r.l.length)
  (hpl:(plc r.l (Bf r.l o hs).name).isSome=false) (he:Ar r.cards r.l (sgn (Bf r.l o hs))=0) (hB:FkB (r.l++[As r.l (sgn (Bf r.l o hs))])) (hN:r.l.length=N) (hM:ys.length=M)
  (oL:Own wz (w.heap.size+3) 67 27 lA (N+1) lC (r.xs.flatMap (fun x=>x.cells.toList)++z.cells.toList))
  (oI:Own wz (w.heap.size+3) 41 3 iA (N+1) iC (r.ids.flatMap Id.cells++(Bf r.l o hs).name.cells))
  (oU:Own wz (w.heap.size+3) 22 1 pA (N+1) pC (r.ps.map UpL.cell++[.slice A7 M c7]))
  (o7:Own wz (w.heap.size+3) 3 1 A7 M c7 (ys.map Qv)):
  Ga base r o hs w (.returned (.agg #[.slice r.cA r.cards.length r.cC,.slice lA (N+1) lC,.slice iA (N+1) iC,.slice pA (N+1) pC])) wz:=by
 subst hN;subst hM;have hlen:(r.l++[As r.l z.op]).length=r.l.length+1:=by rw [Am9];rfl
 refine ⟨r.more z lA lC iA iC pA pC ⟨A7,c7,ys⟩,?_,hf,Ag9 h hzl (by rw [hz];exact Ac5 hok) hf (by omega) (by rw [hz];exact he) (by rw [hz];exact hB) oL (by rw [hz,Aa7];exact oI) oU ((RowAt.of_own o7).lower (by omega)) ⟨hbh.1,fun q=> ?_⟩,rfl,?_⟩
 ·
  show Ending.returned (.agg #[.slice r.cA r.cards.length r.cC,.slice lA (r.l.length+1) lC,.slice iA (r.l.length+1) iC,.slice pA (r.l.length+1) pC])=Ending.returned (.agg #[.slice r.cA r.cards.length r.cC,.slice lA (r.l++[As r.l z.op]).length lC,.slice iA (r.l++[As r.l z.op]).length iC,.slice pA (r.l++[As r.l z.op]).length pC]);rw [hlen]
 ·
  show q∈ys↔Ai r.l z.op.past q=true;rw [hz,Ab1];show q∈ys↔Ai r.l (An (hs.map (nmP r.l))) q=true;rw [Sb (Br _)];exact Sm h.rows (by have:=h.num.few;omega) hbh hlt q
 ·
  show r.l++[As r.l z.op]=Dj r.l o hs;unfold Dj;rw [hpl,if_neg Aq4,hz]
end Oq
end
section
open Go.RowKit
attribute [local go_sem ↓] Go.wp_at_zero Go.wp_at_succ
namespace Oq
attribute [local go_sem] Ao4 Ao5
attribute [local go_sem ↓] Fz
def Fj {α:Type} (ys:List α) (a:Nat):List α:=ys.drop a++ys.take a
theorem Sr {α:Type} (ys:List α) (a:Nat):(Fj ys a).Perm ys:=by
 unfold Fj;have h:=List.perm_append_comm (l₁:=ys.drop a) (l₂:=ys.take a);rwa [List.take_append_drop] at h
theorem Ah6 {α:Type} (ys:List α) {a i:Nat} (ha:a<ys.length) (hi:i<ys.length):(Fj ys a)[i]? =ys[(i+a)%ys.length]? :=by
 unfold Fj;have hd:(ys.drop a).length=ys.length-a:=List.length_drop
 rcases Ap0 i (ys.length-a) with h|h
 · rw [Ap4 (by omega),List.getElem?_drop,Nat.mod_eq_of_lt (by omega),Nat.add_comm]
 ·
  rw [Ap5 (by omega),hd,List.getElem?_take_of_lt (by omega)];congr 1;rw [Nat.mod_eq_sub_mod (by omega),Nat.mod_eq_of_lt (by omega)];omega
def Mr (l:List Pn) (w:World) (e:Ending) (w':World):Prop:=∃(on ys:List Nat) (ns:List Id) (A:Option Addr) (c:Nat),e=.returned (.slice A ns.length c)∧Ey l on ys∧(∀q∈ys,q<l.length)∧on≠[]∧ns.Perm (ys.map (nmP l))∧Own w' w.heap.size 41 3 A ns.length c (ns.flatMap Id.cells)∧Fr Non w w'
theorem Ms (base B n c:Nat) (A:Option Addr) (l0:List Int) (r:FG) (w:World) (h:r.own w base) (hne:r.l≠[]) (hn:Hid (l0.length=n)) (hr:Rd w B 1 A n (l0.map Iv)) (hnm:n≤9223372036854775807) (hok:∀x∈l0,I64 x):
  Calls Tryz.prog 11 #[.agg r.cells,.slice A n c] w (Mr r.l w):=by
 have ba:=h.num.few;have bg:=Blk.new w 28 r.cells;have f0:Fr Non w (w.alloc (.cells r.cells 28)):=(Fr.refl Non w).alloc _;have g1:Hid (r.cells[1]? =some (.slice r.lA r.l.length r.lC)):=rfl;have g2:Hid (r.cells[2]? =some (.slice r.iA r.l.length r.iC)):=rfl;have bo:0<r.l.length:=List.length_pos_iff.2 hne;have be:=Lib.hid (fun (v:World) (i:Nat) (hv:Fr Non w v) (hi:i≤1000)=>Ml B n c i A l0 v hn (hr.fr hv zr) hok hnm hi);have au:Hid (∀v,Fr Non w v→Calls Tryz.prog 30 #[.slice A n c,.int .i64 0] v fun e w'=>e=.returned (.int .i64 (Cm l0 0:Int))∧Fr Non v w'):=fun v hv=>be.out v 0 hv (by omega);have kb:=Lib.hid (fun (v:World) (A':Option Addr) (c':Nat) (on:List Nat) (hf:Fr Non w v) (ho:Rd v v.heap.size 1 A' 3 (on.map Qv)) (h3:on.length=3) (hlt:∀p∈on,p<r.l.length)=>Si base v.heap.size 3 c' r A' on v (h.non hf) h3 ho (by omega) hlt);have ag:Hid (∀p,p<r.l.length→∃(m:Pn) (b off:Nat),r.l[p]? =some m∧r.iA=some ⟨b,off,none⟩∧w.cell? ⟨b,off+p*3,none⟩=some (.int .i64 m.id.b)∧w.cell? ⟨b,off+p*3+1,none⟩=some (.int .i64 m.id.s)∧w.cell? ⟨b,off+p*3+2,none⟩=some (.int .u64 (m.id.u:Int))):=fun p hp=>h.idAt hp;have hl:=Bi (P:=Tryz.prog) w.heap.size 28 Tryz.underlying28 rfl (cs:=r.cells) Bu;have bp:=Lib.hid (Mq l0);clear h hr hok;obtain ⟨L,hL⟩:=Ab r.l.length;rw [hL.out] at g1 g2 ba bo ag;have b9:((L:Int)==0)=false:=beq_eq_false_iff_ne.2 (by omega);have cb:¬(L:Int)=0:=by omega
 have bt:¬L=0:=by omega
 go_enter Tryz.func11,Tryz.ntmps11;go_upto_region 1 with (fail)
 have cc:=f0.size;generalize w.alloc (.cells r.cells 28)=w0 at*;have bz:w.heap.size+1≤w0.heap.size:=bg.lt;go_wp2_with (fail)
 go_loopw [5,6] (fun s v wr=>∃(i:Nat) (Ax:Option Addr) (cx:Nat) (on:List Nat),v=.int .i64 (i:Int)∧s=.slice Ax i cx∧i≤3∧Hid (on.length=i)∧Hid (∀p∈on,p<L)∧Own wr w0.heap.size 3 1 Ax i cx (on.map Qv)∧Fr Non w0 wr) (fun _ v _=>3-(intOf v).toNat)
 case atStart=>exact ⟨0,none,0,[],rfl,rfl,by omega,rfl,fun _ hp=>absurd hp An4,Own.nil _ _ _ _,Fr.refl _ _⟩
 case round=>
  obtain ⟨i,Ax,cx,on,rfl,rfl,hi,ao,al,aa,hf⟩:=hrel;have af:Fr Non w wr:=f0.trans hf zr
  by_cases hi3:i<3
  ·
   have t0:decide ((i:Int)<3)=true:=decide_eq_true (by omega);have e1:IntKind.i64.wrap ((i:Int)+1)=(i:Int)+1:=IntWalk.i64_in _ (by omega);have kq:=Lib.hid (be.out wr.drew i af.drew (by omega));have a3:=bp.out i;obtain ⟨a,ha⟩:=Ab (Cm l0 i);rw [ha.out] at kq a3;obtain ⟨P,hP⟩:=Ab (a%L);have bw:P<L:=by rw [← hP.out];exact Ap6 _ bo
   have aj:(a:Int)%(L:Int)=(P:Int):=by rw [← hP.out];rfl
   have bn:(a:Int).tmod (L:Int)=(P:Int):=by rw [Aq5 (by omega)];exact aj
   have e2:IntKind.i64.wrap (P:Int)=(P:Int):=IntWalk.i64_in _ (by omega);go_upto_region 5 with (fail)
   have G0:wr.drew.cell? ⟨w.heap.size,1,none⟩=some (.slice r.lA L r.lC):=((bg.fr hf.drew zq).cell 1).trans g1.out;have F0:Fr Non wr wr.drew:=(Fr.refl Non wr).drew;clear ag;refine wp_region_held_drew (S:=fun w'=>w'.cell? ⟨w.heap.size,1,none⟩=some (.slice r.lA L r.lC)) (by kernel_rfl) G0 (fun hHeld=> ?_);clear hHeld;refine tkH 0 G0 (h:=tkH 1 G0 (h:=tkH 2 G0 (h:=tkH 4 G0 (h:=tkH 5 G0 (h:=tkH 6 G0 (h:=?_))))));simp only [List.set];refine oG 3 (fun K hK=> ?_);go_simp;go_wp2_with (go_at_call 30;(with_reducible refine (kq.out).mono ?_);rintro _ v1 ⟨rfl,bl⟩;have G1:=bl.cell G0 zq;have F1:=F0.trans bl zr);refine hK.out _ _ G1 (fun hZ=> ?_);clear hZ hK K;try simp only [Aj,List.set]
   refine tkH 7 G1 (h:=?_);simp only [List.set];refine oG 8 (fun K hK=> ?_);go_simp;try rw [aj]
   have ax:=Blk.new v1 3 #[.int .i64 (P:Int)];have fa:=(Fr.refl Non v1).alloc (.cells #[.int .i64 (P:Int)] 3);have F2:=F1.trans fa zr;have G2:=fa.cell G1 zq;have ae:=(aa.fr F2 zr);have ad:=ae.row;have b5:=hf.size;have b6:=F2.size;refine hK.out _ _ G2 (fun hZ=> ?_);clear hZ hK K;try simp only [Aj,List.set]
   generalize v1.alloc (.cells #[.int .i64 (P:Int)] 3)=v2 at*;refine oG 9 (fun K hK=> ?_);refine Dx (base:=w0.heap.size) (.tmp 15) (.tmp 23) 22 rfl rfl rfl Fq ae (Rd.blk (n:=1) (size:=1) ax rfl) (by simp [Value.oneCell']) (by omega) (by omega) (by omega) ?_;intro A8 c8 v3 ac ah ap;have F3:=(hf.trans F2 zr).trans ah (fun q hq e=>by have h9:=(ad q e).1;omega);have G3:=ah.cell G2 (fun e=>by have h9:w0.heap.size≤w.heap.size:=(ad _ e).1;omega);refine hK.out _ _ G3 (fun hZ=> ?_);clear hZ hK K;try simp only [Aj,List.set]
   refine tkH 10 G3 (h:=?_);simp only [List.set];refine oD ?_;go_simp
   have aq:Own v3 w0.heap.size 3 1 A8 (i+1) c8 ((on++[P]).map Qv):=by
    rw [An0];exact ac
   have a9:Hid (∀p∈on++[P],p<L):=fun p hp=>by
    rcases List.mem_append.1 hp with hp|hp
    · exact al.out p hp
    · rw [List.mem_singleton.1 hp];exact bw
   clear ac ah ap aa ae ad G0 G1 G2 G3 F0 F1 F2 fa hf kq ax;go_wp2_with (fail);go_roundw
   case rel=>exact ⟨i+1,A8,c8,on++[P],by go_num,rfl,by omega,by (show (on++[P]).length=i+1);rw [Am9,ao.out];rfl,a9.out,aq,F3⟩
   case measure=>simp [intOf];omega
  ·
   obtain rfl:i=3:=by omega
   have t0:decide (((3:Nat):Int)<3)=false:=by decide
   have bf:=bg.fr hf zq;have bj:=Lib.hid (kb.out wr Ax cx on af aa.rd ao.out (by rw [hL.out];exact al.out));go_upto_region 7 with (go_at_call 35;(with_reducible refine (bj.out).mono ?_);rintro _ w2 ⟨ys,A7,c7,rfl,a0,ar,ab,f2⟩)
   have a5:0<ys.length:=by
    have h3:on≠[]:=by intro e;rw [e] at ao;have:=ao.out;simp at this
    obtain ⟨p,hp⟩:=List.exists_mem_of_ne_nil on h3;exact List.length_pos_of_mem ((a0.2 p).2 (.inl hp))
   have bx:ys.length≤14:=by
    have:=Fy a0.1 (ys:=Ao7 r.l.length) (fun q hq=>List.mem_range.2 (ar q hq));rw [List.length_range,hL.out] at this;omega
   have az:Hid (∀(ns:List Id) A c w',ns.Perm (ys.map (nmP r.l))→Own w' w.heap.size 41 3 A ns.length c (ns.flatMap Id.cells)→Fr Non w w'→Mr r.l w (.returned (.slice A ns.length c)) w'):=fun ns A c w' h1 h2 h3=>⟨on,ys,ns,A,c,rfl,a0,ar,(by intro e;rw [e] at ao;have:=ao.out;simp at this),h1,h2,h3⟩;generalize Mr r.l w=POST at*;rw [hL.out] at ar;replace ar:=Lib.hid ar;have a6:=af.trans f2 zr;have bq:=bf.fr f2 zq;have b4:=hf.size;clear kb bj be a0 aa hf af bf f2 ao al bg hl;obtain ⟨M,hM⟩:=Ab ys.length;rw [hM.out] at ab a5 bx ⊢;have kq:=Lib.hid (au.out w2 a6);have a3:=bp.out 0;obtain ⟨a,ha⟩:=Ab (Cm l0 0);rw [ha.out] at kq a3;have b3:¬(M:Int)=0:=by omega
   have bu:¬M=0:=by omega
   obtain ⟨P,hP⟩:=Ab (a%M);have bs:P<M:=by rw [← hP.out];exact Ap6 _ a5
   have aj:(a:Int)%(M:Int)=(P:Int):=by rw [← hP.out];rfl
   have eP:IntKind.i64.wrap (P:Int)=(P:Int):=IntWalk.i64_in _ (by omega);go_upto_region 8 with (go_at_call 30;(with_reducible refine (kq.out).mono ?_);rintro _ w3 ⟨rfl,f3⟩)
   try rw [aj]
   have ac:=ab.fr f3 zr;have bb:=a6.trans f3 zr;have bk:=bq.fr f3 zq;have a7:w.heap.size<w3.heap.size:=bk.lt
   have bd:Hid (∀i,i<M→(Fj ys P)[i]? =ys[(i+P)%M]?):=fun i hi=>by
    have:=Ah6 ys (a:=P) (i:=i) (by rw [hM.out];exact bs) (by rw [hM.out];exact hi);rw [hM.out] at this;exact this
   have bh:Hid ((Fj ys P).length=M):=(Sr ys P).length_eq.trans hM.out;have b0:Hid (((Fj ys P).map (nmP r.l)).Perm (ys.map (nmP r.l))):=(Sr ys P).map _;generalize Fj ys P=RK at*;clear ab bq a6 f3 kq au a3 ha hP aj;go_wp2_with (fail)
   go_loopw [9,10] (fun s v wr=>∃(i:Nat) (Ax:Option Addr) (cx:Nat),v=.int .i64 (i:Int)∧s=.slice Ax i cx∧i≤M∧Own wr w3.heap.size 41 3 Ax i cx (((RK.take i).map (nmP r.l)).flatMap Id.cells)∧Own wr w0.heap.size 3 1 A7 M c7 (ys.map Qv)∧Fr Non w3 wr) (fun _ v _=>M-(intOf v).toNat)
   case atStart=>exact ⟨0,none,0,rfl,rfl,by omega,Own.nil _ _ _ _,F9 ac (by omega),Fr.refl _ _⟩
   case round=>
    obtain ⟨i,Ax,cx,rfl,rfl,hi,aa,ab,hf⟩:=hrel;have af:Fr Non w wr:=bb.trans hf zr
    by_cases hiM:i<M
    ·
     have t0:decide ((i:Int)<M)=true:=decide_eq_true (by omega);have b1:decide (i<M)=true:=decide_eq_true hiM;have e1:IntKind.i64.wrap ((i:Int)+1)=(i:Int)+1:=IntWalk.i64_in _ (by omega);have e3:IntKind.i64.wrap ((i:Int)+(P:Int))=(i:Int)+(P:Int):=IntWalk.i64_in _ (by omega);obtain ⟨Q,hQ⟩:=Ab ((i+P)%M);have bm:Q<M:=by rw [← hQ.out];exact Ap6 _ a5
     have aj:((i:Int)+(P:Int))%(M:Int)=(Q:Int):=by rw [← hQ.out];rfl
     have bn:((i:Int)+(P:Int)).tmod (M:Int)=(Q:Int):=by rw [Aq5 (by omega)];exact aj
     have e4:IntKind.i64.wrap (Q:Int)=(Q:Int):=IntWalk.i64_in _ (by omega);obtain ⟨y,hy⟩:∃y,ys[Q]? =some y:=⟨_,Am8 (by rw [hM.out];exact bm)⟩;have br:RK[i]? =some y:=by rw [bd.out i hiM,hQ.out];exact hy
     have b2:=ar.out y (An3 hy);obtain ⟨m',bi,oi,hm,bv,d0,d1,d2⟩:=ag.out y b2;obtain ⟨b7,o7,u7,rfl,_,a2,d7⟩:=ab.rd.at bm;rw [An2,hy] at a2;injection a2 with a2
     subst a2;replace d7:wr.cell? ⟨b7,o7+Q,none⟩=some (.int .i64 (y:Int)):=d7;have hnm:=Ek hm;have a1:Hid ((RK.take (i+1)).map (nmP r.l)=(RK.take i).map (nmP r.l)++[m'.id]):=by show _=_;rw [Cx br,An0,Ap2,Ap3,hnm]
     have q1:(0:Int)≤Q:=by omega
     have q2:(Q:Int)<M:=by omega
     have q3:(Q:Int).toNat=Q:=by omega
     have p1:(0:Int)≤y:=by omega
     have p2:(y:Int)<L:=by omega
     have p3:(y:Int).toNat=y:=by omega
     have bc:=g2.out;rw [bv] at bc;have a8:=aa.row;have ca:=hf.size;go_upto_region 12 with (fail)
     have Hb:wr.cell? ⟨w.heap.size,2,none⟩=some (.slice (some ⟨bi,oi,none⟩) L r.iC):=((bk.fr hf zq).cell 2).trans bc;have F0:Fr Non wr wr.drew:=(Fr.refl Non wr).drew;have Yb:=d7;have Ib:=af.cell d0 zq;have Jb:=af.cell d1 zq;have Kb:=af.cell d2 zq;have H0:wr.drew.cell? ⟨w.heap.size,2,none⟩=some (.slice (some ⟨bi,oi,none⟩) L r.iC):=Hb;have Y0:wr.drew.cell? ⟨b7,o7+Q,none⟩=some (.int .i64 (y:Int)):=Yb;have I0:wr.drew.cell? ⟨bi,oi+y*3,none⟩=some (.int .i64 m'.id.b):=Ib;have J0:wr.drew.cell? ⟨bi,oi+y*3+1,none⟩=some (.int .i64 m'.id.s):=Jb;have K0:wr.drew.cell? ⟨bi,oi+y*3+2,none⟩=some (.int .u64 (m'.id.u:Int)):=Kb;have ay:Hid (∀q,Ac (some (⟨b7,o7,none⟩:Addr))=some q→Ac Ax≠some q):=fun q h1 h2=>Own.ne2 ab aa (by decide) q h1 h2;clear ag hy br hnm bc hm;refine wp_region_held_drew (S:=fun w'=>w'.cell? ⟨w.heap.size,2,none⟩=some (.slice (some ⟨bi,oi,none⟩) L r.iC)∧w'.cell? ⟨b7,o7+Q,none⟩=some (.int .i64 (y:Int))∧w'.cell? ⟨bi,oi+y*3,none⟩=some (.int .i64 m'.id.b)∧w'.cell? ⟨bi,oi+y*3+1,none⟩=some (.int .i64 m'.id.s)∧w'.cell? ⟨bi,oi+y*3+2,none⟩=some (.int .u64 (m'.id.u:Int))) (by kernel_rfl) ⟨H0,Y0,I0,J0,K0⟩ (fun hHeld=> ?_);clear hHeld;refine tkH 0 ⟨H0,Y0,I0,J0,K0⟩ (h:=tkH 1 ⟨H0,Y0,I0,J0,K0⟩ (h:=tkH 2 ⟨H0,Y0,I0,J0,K0⟩ (h:=tkH 3 ⟨H0,Y0,I0,J0,K0⟩ (h:=tkH 4 ⟨H0,Y0,I0,J0,K0⟩ (h:=tkH 5 ⟨H0,Y0,I0,J0,K0⟩ (h:=tkH 6 ⟨H0,Y0,I0,J0,K0⟩ (h:=tkH 7 ⟨H0,Y0,I0,J0,K0⟩ (h:=tkH 8 ⟨H0,Y0,I0,J0,K0⟩ (h:=tkH 9 ⟨H0,Y0,I0,J0,K0⟩ (h:=?_))))))))));simp only [List.set];try simp only [e3,bn,aj,e4]
     refine tkH 10 ⟨H0,Y0,I0,J0,K0⟩ (h:=tkH 11 ⟨H0,Y0,I0,J0,K0⟩ (h:=tkH 12 ⟨H0,Y0,I0,J0,K0⟩ (h:=tkH 13 ⟨H0,Y0,I0,J0,K0⟩ (h:=?_))));simp only [List.set];refine oG 14 (fun K hK=> ?_);go_simp;have ax:=(Blk.new wr 41 m'.id.V).drew;have F1:Fr Non wr (wr.alloc (.cells m'.id.V 41)).drew:=((Fr.refl _ _).alloc _).drew;generalize (wr.alloc (.cells m'.id.V 41)).drew=v1 at*;have H1:=F1.cell Hb zq;have Y1:=F1.cell Yb zq;have I1:=F1.cell Ib zq;have J1:=F1.cell Jb zq;have K1:=F1.cell Kb zq;refine hK.out _ _ ⟨H1,Y1,I1,J1,K1⟩ (fun hZ=> ?_);clear hZ hK K;try simp only [Aj,List.set]
     have ak:=aa.fr F1 zr;have ai:=ab.fr F1 zr;have b8:=F1.size;refine oG 15 (fun K hK=> ?_);refine Dx (base:=w3.heap.size) (.tmp 39) (.tmp 53) 25 rfl rfl rfl Cp ak (Rd.blk (n:=1) (size:=3) ax rfl) (by simp [Value.oneCell']) (by omega) (by omega) (by omega) ?_;intro A8 c8 v2 ac ah ap;have fS:∀q,Ac Ax=some q→w3.heap.size≤q:=fun q e=>(a8 q e).1;have F3:Fr Non w3 v2:=(hf.trans F1 zr).trans ah (fun q hq e=>by have h9:=fS q e;omega);have a4:Fr Non w v2:=bb.trans F3 zr;have H2:=ah.cell H1 (fun e=>by have h9:w3.heap.size≤w.heap.size:=fS _ e;have h8:=a7;omega);have Y2:=ah.cell Y1 (fun e=>ay.out b7 rfl e);have I2:=a4.cell d0 zq;have J2:=a4.cell d1 zq;have K2:=a4.cell d2 zq;refine hK.out _ _ ⟨H2,Y2,I2,J2,K2⟩ (fun hZ=> ?_);clear hZ hK K;try simp only [Aj,List.set]
     refine tkH 16 ⟨H2,Y2,I2,J2,K2⟩ (h:=?_);simp only [List.set];refine oD ?_;go_simp
     have aq:Own v2 w3.heap.size 41 3 A8 (i+1) c8 (((RK.take (i+1)).map (nmP r.l)).flatMap Id.cells):=by
      rw [a1.out,Ao0];exact ac
     have av:Own v2 w0.heap.size 3 1 (some ⟨b7,o7,none⟩) M c7 (ys.map Qv):=ai.fr ah (fun q h1 h2=>ay.out q h1 h2);clear ac ai aa ak ab ah ap ax H0 Y0 I0 J0 K0 H1 Y1 I1 J1 K1 H2 Y2 I2 J2 K2 Hb Yb Ib Jb Kb F0 F1 hf af a4 a1;go_wp2_with (fail);go_roundw
     case rel=>exact ⟨i+1,A8,c8,by go_num,rfl,by omega,aq,av,F3⟩
     case measure=>simp [intOf];omega
    ·
     obtain rfl:i=M:=by omega
     have t0:decide ((i:Int)<i)=false:=decide_eq_false (by omega);have b1:decide (i<i)=false:=decide_eq_false (by omega);have aw:((RK.take i).map (nmP r.l)).length=i:=by rw [List.length_map,Aq6,bh.out];omega
     have a1:RK.take i=RK:=by rw [← bh.out,An8]
     have hd:=Lib.hid (az.out ((RK.take i).map (nmP r.l)) Ax cx wr (by rw [a1];exact b0.out) (by rw [aw];exact F9 aa bb.size) af);rw [aw] at hd;clear az aa ab;go_wp2_with (fail);exact hd.out
end Oq
end
section
open Go.RowKit Go.Maps Go.WideElems
open Go.ChangeMaps (modify_eq_set)
namespace Oq
theorem Ah7 {H:Type} {P:Program} {t k e:TypeId} {R:Value→Option (DataW H × List MemPlace)} {w:World} {b n:Nat} {D:DataW H} (h:w.ownsMap P k R b n D) (K:Keyed P k) (ht:P.underlying t=some (.map k e)) {z:Value} (hz:∀u:World,(zeroValue e).run P u=.ok z u)
  {key:Value} {kl:Lit} (hkey:keyOf P k key=some kl):
  ∃(v0:Value) (st:Nat) (w1:World),(Instr.mapEntry t (.map (some b)) key).run P w=.ok (.tuple #[v0,goInt st]) w1∧(Instr.mapUpdate t (.map (some b)) key v0).run P w=.ok () w1∧(Instr.lookup t (.map (some b)) key false).run P w=.ok v0 w∧
   ∀(w2:World) (val:Value),w2.heap[b]? =w1.heap[b]? →∃w3 w3',(Instr.entryStore t (.map (some b)) (goInt st) val).run P w2=.ok () w3∧w2.grownBy w3 (some b)∧(Instr.mapUpdate t (.map (some b)) key val).run P w=.ok () w3'∧w3.heap[b]? =w3'.heap[b]? :=by
 obtain ⟨es,aa,hb,F,_,_⟩:=h;obtain ⟨s1,s2,_⟩:=F.stamped
 have ag:∀(w2:World) (es1:Array MapEntry) (c1:Nat) (es':Array MapEntry) (c':Nat),w2.heap[b]? =some (.map es1 c1)→w2.grownBy (ChangeMaps.setBlock w2 b (.map es' c')) (some b):=fun w2 es1 c1 es' c' h2=>
  ⟨rfl,rfl,rfl,by simp [ChangeMaps.setBlock],fun i _ hi=>ChangeMaps.heap_setBlock_other h2 _ (fun e=>hi (by rw [e]))⟩
 rcases K.find w hkey es.toList F.keys with ⟨h1,h2⟩|⟨j,e0,h1,h2,h3⟩
 ·
  have ad:(ChangeMaps.setBlock w b (.map (es.push ⟨key,z,aa⟩) (aa+1))).heap[b]? =some (.map (es.push ⟨key,z,aa⟩) (aa+1)):=ChangeMaps.heap_setBlock_same hb _;refine ⟨z,aa,ChangeMaps.setBlock w b (.map (es.push ⟨key,z,aa⟩) (aa+1)),?_,?_,?_,fun w2 val hw2=>⟨ChangeMaps.setBlock w2 b (.map (es.push ⟨key,val,aa⟩) (aa+1)),ChangeMaps.setBlock w b (.map (es.push ⟨key,val,aa⟩) (aa+1)),?_,ag _ _ _ _ _ (hw2.trans ad),?_,?_⟩⟩
  · simp [Instr.mapEntry,run_underlying ht,MapKept.run_getObj_map hb,K.check w false hkey,h1,hz,MapKept.run_setObj_map _ hb,Result.andThen,ChangeMaps.setBlock]
  · simp [Instr.mapUpdate,run_underlying ht,MapKept.run_getObj_map hb,K.check w false hkey,h1,MapKept.run_setObj_map _ hb,Result.andThen,ChangeMaps.setBlock]
  · simp [Instr.lookup,run_underlying ht,MapKept.run_getObj_map hb,K.check w,hkey,h1,hz,Result.andThen]
  ·
   rw [ad] at hw2
   have ab:(es.push ⟨key,z,aa⟩).findIdx? (fun e=>((e.born:Nat):Int)==((aa:Nat):Int))=some es.size:=by
    rw [findIdx_arr]
    exact findIdx_born (l:=(es.push ⟨key,z,aa⟩).toList) (j:=es.size) (e0:=⟨key,z,aa⟩) (by
     simp only [Ap7,An0,Ap2,Ap3];refine List.nodup_append.2 ⟨s2,by simp,fun a ha c hc e1=> ?_⟩;simp only [An6] at hc;obtain ⟨x,hx,rfl⟩:=List.mem_map.1 ha;have:=s1 x hx;omega) (by simp)
   have ae:(es.push ⟨key,z,aa⟩).modify es.size (fun e=>{e with val:=val})=es.push ⟨key,val,aa⟩:=by
    apply Ao3;rw [Ao2,Ap7,Ap7,← Array.length_toList,modify_last]
   simp [Instr.entryStore,MapKept.run_getObj_map hw2,asInt,asIntOf,goInt,ab,ae,MapKept.run_setObj_map _ hw2,Result.andThen,ChangeMaps.setBlock]
  · simp [Instr.mapUpdate,run_underlying ht,MapKept.run_getObj_map hb,K.check w false hkey,h1,MapKept.run_setObj_map _ hb,Result.andThen,ChangeMaps.setBlock]
  ·
   rw [ad] at hw2;rw [ChangeMaps.heap_setBlock_same hw2,ChangeMaps.heap_setBlock_same hb]
 ·
  have hj:es[j]? =some e0:=by simpa using h2
  have af:es.modify j (fun e=>{e with key:=key})=es:=by
   apply Ao3;rw [Ao2,modify_eq_set _ _ _ _ h2];have:({e0 with key:=key}:MapEntry)=e0:=by rw [← h3]
   rw [this];exact set_self _ _ _ h2
  have ac:es.modify j (fun e=>{e with key:=key,val:=e0.val})=es:=by
   apply Ao3;rw [Ao2,modify_eq_set _ _ _ _ h2];have:({e0 with key:=key,val:=e0.val}:MapEntry)=e0:=by rw [← h3]
   rw [this];exact set_self _ _ _ h2
  have ad:(ChangeMaps.setBlock w b (.map es aa)).heap[b]? =some (.map es aa):=ChangeMaps.heap_setBlock_same hb _;refine ⟨e0.val,e0.born,ChangeMaps.setBlock w b (.map es aa),?_,?_,?_,fun w2 val hw2=>⟨ChangeMaps.setBlock w2 b (.map (es.modify j (fun e'=>{e' with key:=key,val:=val})) aa),ChangeMaps.setBlock w b (.map (es.modify j (fun e'=>{e' with key:=key,val:=val})) aa),?_,ag _ _ _ _ _ (hw2.trans ad),?_,?_⟩⟩
  · simp [Instr.mapEntry,run_underlying ht,MapKept.run_getObj_map hb,K.check w false hkey,h1,hj,h3,K.stays w hkey,af,MapKept.run_setObj_map _ hb,Result.andThen,ChangeMaps.setBlock]
  · simp [Instr.mapUpdate,run_underlying ht,MapKept.run_getObj_map hb,K.check w false hkey,h1,hj,h3,K.stays w hkey,ac,MapKept.run_setObj_map _ hb,Result.andThen,ChangeMaps.setBlock]
  · simp [Instr.lookup,run_underlying ht,MapKept.run_getObj_map hb,K.check w,hkey,h1,Result.andThen]
  ·
   rw [ad] at hw2
   have ab:es.findIdx? (fun e=>((e.born:Nat):Int)==((e0.born:Nat):Int))=some j:=by
    rw [findIdx_arr];exact findIdx_born s2 h2
   have ae:es.modify j (fun e=>{e with val:=val})=es.modify j (fun e'=>{e' with key:=key,val:=val}):=by
    apply Ao3;rw [Ao2,Ao2,modify_eq_set _ _ _ _ h2,modify_eq_set _ _ _ _ h2,← h3]
   simp [Instr.entryStore,MapKept.run_getObj_map hw2,asInt,asIntOf,goInt,ab,ae,MapKept.run_setObj_map _ hw2,Result.andThen,ChangeMaps.setBlock]
  · simp [Instr.mapUpdate,run_underlying ht,MapKept.run_getObj_map hb,K.check w false hkey,h1,hj,h3,K.stays w hkey,MapKept.run_setObj_map _ hb,Result.andThen,ChangeMaps.setBlock]
  ·
   rw [ad] at hw2;rw [ChangeMaps.heap_setBlock_same hw2,ChangeMaps.heap_setBlock_same hb]
abbrev FkG (f:Int × Int):Value:=.agg #[.int .i64 f.1,.int .i64 f.2]
theorem law_fk:Keyed Tryz.prog 36:=Keyed.of_law (deep_law_laid Tryz.laidOut (m:=2) (by omega) (of_decide_eq_true (by kernel_rfl)) (by kernel_rfl) (by rw [Tryz.underlying36]))
theorem Ah8:Tryz.prog.keyType 36=true:=by kernel_rfl
theorem Ss:Tryz.prog.cellsOf 36=2:=by kernel_rfl
def Fl (f:Int × Int):Lit:=.string (keyBytes [.int .i64 f.1,.int .i64 f.2])
def okF (f:Int × Int):Prop:=I64 f.1∧I64 f.2
theorem Gb (f:Int × Int) (h:okF f):keyOf Tryz.prog 36 (FkG f)=some (Fl f):=by
 obtain ⟨n,hn⟩:=Oe;have hu:=Tryz.underlying36;have e1:=Et h.1;have e2:=Et h.2;unfold keyOf;rw [hu];simp only [Ah8,Value.formed,hu,Ss];unfold Program.keyLits;simp only [hu];rw [hn];simp only [Program.keyLits,Value.cells,Ss];simp [List.mapM_cons,Oc,Tryz.underlying3,e1,e2,Fl]
theorem Ah9 {f g:Int × Int} (hf:okF f) (hg:okF g) (h:Fl f=Fl g):f=g:=by
 have k1:=Gb f hf;rw [h] at k1;have:=law_fk.inj k1 (Gb g hg);simp only [FkG,Value.agg.injEq,Array.mk.injEq,List.cons.injEq,Value.int.injEq,true_and,and_true] at this;exact Prod.ext this.1 this.2
theorem Ai0 (f:Int × Int) (h:okF f):WideAt.IsKeyLit (Fl f):=law_fk.key (Gb f h)
def ManyAt (w:World) (b m:Nat) (f:Int × Int→Nat):Prop:=
 ∃(n:Nat) (D:DataW Nat),w.ownsMap Tryz.prog 36 (plainElem Tryz.prog 3) b n D∧n≤m∧IsMap D∧∀x,okF x→D.atKey (Fl x) (.lit (.int .i64 0))=.lit (.int .i64 (f x:Int))
theorem ManyAt.made (w:World):ManyAt (w.alloc (.map #[] 0)) w.heap.size 0 (fun _=>0):=
 ⟨0,.map [],Aq7 w _ _ _,An5 _,isMap_empty,fun _ _=>rfl⟩
theorem ManyAt.fr {S:Nat→Prop} {w w':World} {b m:Nat} {f:Int × Int→Nat} (h:ManyAt w b m f) (hf:Fr S w w') (hb:¬S b):ManyAt w' b m f:=by
 obtain ⟨n,D,ho,hn,rest⟩:=h;obtain ⟨es,clock,hbl,r2⟩:=ho;exact ⟨n,D,⟨es,clock,(hf.block b (Array.getElem?_eq_some_iff.1 hbl).1 hb).trans hbl,r2⟩,hn,rest⟩
theorem ManyAt.lt {w:World} {b m:Nat} {f:Int × Int→Nat} (h:ManyAt w b m f):b<w.heap.size:=by
 obtain ⟨n,D,ho,_⟩:=h;exact ho.lt
theorem ManyAt.block {w w':World} {b m:Nat} {f:Int × Int→Nat} (h:ManyAt w b m f) (hb:w'.heap[b]? =w.heap[b]?):ManyAt w' b m f:=by
 obtain ⟨n,D,ho,hn,rest⟩:=h;obtain ⟨es,clock,hbl,r2⟩:=ho;exact ⟨n,D,⟨es,clock,hb.trans hbl,r2⟩,hn,rest⟩
theorem ManyAt.congr {w:World} {b m:Nat} {f g:Int × Int→Nat} (h:ManyAt w b m f) (hg:∀x,okF x→g x=f x):ManyAt w b m g:=by
 obtain ⟨n,D,ho,hn,hm,hs⟩:=h;exact ⟨n,D,ho,hn,hm,fun x hx=>by rw [hs x hx,hg x hx]⟩
theorem ManyAt.look {w:World} {b m:Nat} {f:Int × Int→Nat} (h:ManyAt w b m f) {x:Int × Int} (hx:okF x):
  (Instr.lookup 84 (.map (some b)) (FkG x) false).run Tryz.prog w=.ok (.int .i64 (f x:Int)) w:=by
 obtain ⟨n,D,ho,hn,hm,hs⟩:=h;obtain ⟨c,hrun,hc,_⟩:=ho.lookup_int law_fk Tryz.underlying84 Tryz.underlying3 (by kernel_rfl) (Gb x hx);rw [hrun];have h2:=(hs x hx).symm.trans hc;generalize (f x:Int)=fx at*;clear hs hc hrun
 cases h2
 rfl
theorem ManyAt.put {w w':World} {b m:Nat} {f:Int × Int→Nat} (h:ManyAt w b m f) {x:Int × Int} (hx:okF x) (v:Nat) (hv:v≤1000000) (hmm:m≤100000) (hrun:(Instr.mapUpdate 84 (.map (some b)) (FkG x) (.int .i64 (v:Int))).run Tryz.prog w=.ok () w'):
  ManyAt w' b (m+1) (fun y=>if y=x then v else f y):=by
 obtain ⟨n,D,ho,hn,hm,hs⟩:=h;obtain ⟨w2,hrun2,hown,_⟩:=ho.update law_fk Tryz.underlying84 (Ap8 (An1 hn hmm) (by decide)) (Gb x hx) (plainElem_int Tryz.underlying3 (Et (n:=(v:Int)) ⟨by omega,by omega⟩));rw [hrun] at hrun2;injection hrun2 with _ hrun2
 subst hrun2;refine ⟨n+1,_,hown,by omega,hm.put _ _,fun y hy=> ?_⟩
 by_cases e:y=x
 ·
  subst e;simp only [if_true];exact atKey_put_same hm (Ai0 y hy) _ _
 ·
  simp only [if_neg e];have hne:Fl y≠Fl x:=fun h=>e (Ah9 hy hx h);exact (atKey_put_other hne _ _).trans (hs y hy)
theorem Jo {w w':World} {b:Nat} (h:w.grownBy w' (some b)):Fr (One b) w w':=(Fr.refl (One b) w).grown h (fun _ hk _=>(Option.some.inj hk).symm)
theorem ManyAt.bump {w:World} {b m:Nat} {f:Int × Int→Nat} (h:ManyAt w b m f) {x:Int × Int} (hx:okF x) (hf:f x≤1000) (hmm:m≤100000):
  ∃(st:Int) (w1:World),(Instr.mapEntry 84 (.map (some b)) (FkG x)).run Tryz.prog w=.ok (.tuple #[.int .i64 (f x:Int),.int .i64 st]) w1∧Fr (One b) w w1∧
   (Instr.lookup 84 (.map (some b)) (FkG x) false).run Tryz.prog w1=.ok (.int .i64 (f x:Int)) w1∧
   ∃w3:World,(Instr.entryStore 84 (.map (some b)) (.int .i64 st) (.int .i64 ((f x:Int)+1))).run Tryz.prog w1=.ok () w3∧Fr (One b) w1 w3∧ManyAt w3 b (m+1) (fun y=>if y=x then f x+1 else f y):=by
 obtain ⟨n,D,ho,hn,hm,hs⟩:=h;have h:ManyAt w b m f:=⟨n,D,ho,hn,hm,hs⟩;obtain ⟨v0,st,w1,e1,e2,e3,e4⟩:=Ah7 ho law_fk Tryz.underlying84 (z:=.int .i64 0) (fun u=>by kernel_rfl) (Gb x hx);have hv:=h.look hx;rw [e3] at hv;injection hv with hv _
 subst hv;obtain ⟨w2,hrun2,_,hg⟩:=ho.update law_fk Tryz.underlying84 (Ap8 (An1 hn hmm) (by decide)) (Gb x hx) (plainElem_int Tryz.underlying3 (Et (n:=(f x:Int)) ⟨by omega,by omega⟩));rw [e2] at hrun2;injection hrun2 with _ hrun2
 subst hrun2;have h1:=h.put hx (f x) (by omega) hmm e2;have hl:=h1.look hx;simp only [if_true] at hl;obtain ⟨w3,w3',g1,g2,g3,g4⟩:=e4 w1 (.int .i64 ((f x+1:Nat):Int)) rfl;have h3:=h.put hx (f x+1) (by omega) hmm g3;have hc:((f x+1:Nat):Int)=(f x:Int)+1:=by omega
 rw [hc] at g1;exact ⟨(st:Int),w1,e1,Jo hg,hl,w3,g1,Jo g2,h3.block g4⟩
def LeastAt (w:World) (b m:Nat) (f:Int→Option Int):Prop:=
 ∃(n:Nat) (D:DataW Nat),w.ownsMap Tryz.prog 3 (plainElem Tryz.prog 3) b n D∧n≤m∧IsMap D∧∀x,has D (.int .i64 x)=(f x).isSome∧∀i,f x=some i→∀z,D.atKey (.int .i64 x) z=.lit (.int .i64 i)
theorem LeastAt.made (w:World):LeastAt (w.alloc (.map #[] 0)) w.heap.size 0 (fun _=>none):=
 ⟨0,.map [],Aq7 w _ _ _,An5 _,isMap_empty,fun x=>⟨rfl,fun i h=>by cases h⟩⟩
theorem LeastAt.fr {S:Nat→Prop} {w w':World} {b m:Nat} {f:Int→Option Int} (h:LeastAt w b m f) (hf:Fr S w w') (hb:¬S b):LeastAt w' b m f:=by
 obtain ⟨n,D,ho,hn,rest⟩:=h;obtain ⟨es,clock,hbl,r2⟩:=ho;exact ⟨n,D,⟨es,clock,(hf.block b (Array.getElem?_eq_some_iff.1 hbl).1 hb).trans hbl,r2⟩,hn,rest⟩
theorem LeastAt.lt {w:World} {b m:Nat} {f:Int→Option Int} (h:LeastAt w b m f):b<w.heap.size:=by
 obtain ⟨n,D,ho,_⟩:=h;exact ho.lt
theorem LeastAt.congr {w:World} {b m:Nat} {f g:Int→Option Int} (h:LeastAt w b m f) (hg:∀x,g x=f x):LeastAt w b m g:=by
 obtain ⟨n,D,ho,hn,hm,hs⟩:=h;exact ⟨n,D,ho,hn,hm,fun x=>by rw [hg x];exact hs x⟩
theorem St (x:Int) (h:I64 x):keyOf Tryz.prog 3 (.int .i64 x)=some (.int .i64 x):=by
 unfold keyOf;rw [Tryz.underlying3];simp [mapKey,Tryz.underlying3,Et h]
theorem Su (x:Int):WideAt.IsKeyLit (.int .i64 x):=trivial
theorem LeastAt.look {w:World} {b m:Nat} {f:Int→Option Int} (h:LeastAt w b m f) {x:Int} (hx:I64 x):
  (Instr.lookup 85 (.map (some b)) (.int .i64 x) true).run Tryz.prog w=.ok (.tuple #[.int .i64 ((f x).getD 0),.bool (f x).isSome]) w:=by
 obtain ⟨n,D,ho,hn,hm,hsays⟩:=h;obtain ⟨h1,h2⟩:=hsays x;obtain ⟨v,ps,hrun,hv⟩:=ho.look_ok (int_keyed Tryz.underlying3) Tryz.underlying85 (z:=.int .i64 0) (by kernel_rfl) (plainElem_int Tryz.underlying3 (by decide)) (St x hx);rw [hrun,h1];obtain ⟨c,rfl,hc,hwc⟩:=plainElem_int_inv Tryz.underlying3 hv;simp only [Prod.mk.injEq] at hc
 cases hf:f x with
 |none=>
  have h3:has D (.int .i64 x)=false:=by rw [h1,hf];rfl
  have h4:=(atKey_of_not_has h3 (.lit (.int .i64 0))).symm.trans hc.1
  cases h4
  rfl
 |some i=>
  have h4:=(h2 i hf (.lit (.int .i64 0))).symm.trans hc.1
  cases h4
  rfl
theorem LeastAt.store {w:World} {b m:Nat} {f:Int→Option Int} (h:LeastAt w b m f) {x i:Int} (hx:I64 x) (hi:I64 i) (hmm:m≤100000):
  ∃w',(Instr.mapUpdate 85 (.map (some b)) (.int .i64 x) (.int .i64 i)).run Tryz.prog w=.ok () w'∧LeastAt w' b (m+1) (fun y=>if y=x then some i else f y)∧Fr (One b) w w':=by
 obtain ⟨n,D,ho,hn,hm,hsays⟩:=h;obtain ⟨w',hrun,hown,hg⟩:=ho.update (int_keyed Tryz.underlying3) Tryz.underlying85 (Ap8 (An1 hn hmm) (by decide)) (St x hx) (plainElem_int Tryz.underlying3 (Et hi));refine ⟨w',hrun,⟨n+1,_,hown,by omega,hm.put _ _,fun y=> ?_⟩,Jo hg⟩
 by_cases e:y=x
 ·
  subst e;simp only [if_true];exact ⟨has_put_same hm (Su y) _,fun j hj z=>by cases hj;exact atKey_put_same hm (Su y) _ _⟩
 ·
  simp only [if_neg e];have hne:Lit.int .i64 y≠Lit.int .i64 x:=fun h=>e (by injection h);exact ⟨(has_put_other hne _).trans (hsays y).1,fun j hj z=>(atKey_put_other hne _ _).trans ((hsays y).2 j hj z)⟩
end Oq
end
section
open Go.RowKit
attribute [local go_sem ↓] Go.wp_at_zero Go.wp_at_succ
namespace Oq
attribute [local go_sem] Ao4 Ao5
theorem Ai1 (B n c:Nat) (A:Option Addr) (ids:List Id) (d s:Int) (w:World) (hn:Hid (ids.length=n)) (hr:Rd w B 3 A n (ids.flatMap Id.cells)) (hnm:n≤1000):
  Calls Tryz.prog 72 #[.slice A n c,.int .i64 d,.int .i64 s] w fun e w'=>e=.returned (.int .i64 (Am ids d s:Int))∧w=w':=by
 have hst:Hid (∀k x,ids[k]? =some x→Am (ids.take (k+1)) d s=Am (ids.take k) d s+if (x.b==d&&x.s==s)=true then 1 else 0):=fun k x hx=>Mi hx d s;have hle:Hid (∀k,Am (ids.take k) d s≤k):=fun k=>Sd ids k d s;have hal:Hid (Am (ids.take n) d s=Am ids d s):=by show _=_;rw [← hn.out];exact Af3 ids d s
 have h00:Hid (Am (ids.take 0) d s=0):=rfl;generalize Am ids d s=MA at*;generalize hMT:(fun k=>Am (ids.take k) d s)=MT at*;have hMT':∀k,Am (ids.take k) d s=MT k:=fun k=>by rw [← hMT]
 simp only [hMT'] at hst hle hal h00;clear hMT hMT';go_enter Tryz.func72,Tryz.ntmps72;go_wp2
 go_loopw [7,8] (fun m v wr=>∃k:Nat,v=.int .i64 (k:Int)∧m=.int .i64 (MT k:Int)∧k≤n∧w=wr) (fun _ v _=>n-(intOf v).toNat)
 case atStart=>exact ⟨0,rfl,by rw [h00.out];rfl,An7 _,rfl⟩
 case round=>
  obtain ⟨k,rfl,rfl,hk,rfl⟩:=hrel
  by_cases hlt:k<n
  ·
   obtain ⟨y,hy⟩:∃y,ids[k]? =some y:=⟨_,Am8 (by rw [hn.out];exact hlt)⟩;obtain ⟨b,off,rfl,hbB,k0,k1,k2⟩:=Id.at hr hy;have hsn:=hst.out k y hy;have hlk:=hle.out k;clear hy;have i1:(0:Int)≤k:=by omega
   have i2:(k:Int)<n:=by omega
   have i3:(k:Int).toNat=k:=by omega
   have e1:IntKind.i64.wrap ((MT k:Int)+1)=(MT k:Int)+1:=IntWalk.i64_in _ (by omega)
   rcases zb (y.b==d) with t1|t1
   ·
    rcases zb (y.s==s) with t2|t2
    ·
     rw [t1,t2,if_pos (show (true&&true)=true from rfl)] at hsn;replace hsn:=Lib.hid hsn;go_wp2;go_roundw
     case rel=>exact ⟨k+1,by go_num,by rw [hsn.out];congr 1<;>omega,by omega,by first|rfl|trivial⟩
     case measure=>first|(simp [intOf];done)|(simp [intOf];omega)
    ·
     rw [t1,t2,if_neg (by decide)] at hsn;replace hsn:=Lib.hid hsn;go_wp2;go_roundw
     case rel=>exact ⟨k+1,by go_num,by first|(rw [hsn.out];done)|(rw [hsn.out];rfl),by omega,by first|rfl|trivial⟩
     case measure=>first|(simp [intOf];done)|(simp [intOf];omega)
   ·
    rw [t1,if_neg (by simp)] at hsn;replace hsn:=Lib.hid hsn;go_wp2;go_roundw
    case rel=>exact ⟨k+1,by go_num,by first|(rw [hsn.out];done)|(rw [hsn.out];rfl),by omega,by first|rfl|trivial⟩
    case measure=>first|(simp [intOf];done)|(simp [intOf];omega)
  ·
   obtain rfl:k=n:=by omega
   go_wp2
   go_ret
   exact ⟨by rw [← hal.out];rfl,rfl⟩
theorem Ai2 {ids:List Id} {k:Nat} {x:Id} (h:ids[k]? =some x) (d:Int):Bt ids d (k+1)=if (x.b==d&&decide (1<Am ids d x.s)&&(Bt ids d k==0||decide (x.s<Bt ids d k)))=true then x.s else Bt ids d k:=by
 conv=>lhs;unfold Bt
 rw [h]
theorem Mt (B n c:Nat) (A:Option Addr) (ids:List Id) (d:Int) (w:World) (hn:Hid (ids.length=n)) (hr:Rd w B 3 A n (ids.flatMap Id.cells)) (hnm:n≤1000):
  Calls Tryz.prog 45 #[.slice A n c,.int .i64 d] w fun e w'=>e=.returned (.int .i64 (Ak ids d))∧w=w':=by
 have km:=Lib.hid (fun (s:Int)=>Ai1 B n c A ids d s w hn hr hnm);have ad:Hid (∀k x,ids[k]? =some x→Bt ids d (k+1)=if (x.b==d&&decide (1<Am ids d x.s)&&(Bt ids d k==0||decide (x.s<Bt ids d k)))=true then x.s else Bt ids d k):=fun k x hx=>Ai2 hx d;have ah:Hid (Bt ids d n=Ak ids d):=by show _=_;rw [← hn.out];rfl
 have ag:Hid (Bt ids d 0=0):=rfl;generalize Ak ids d=FA at*;generalize Bt ids d=FT at*;generalize Am ids d=MK at*;go_enter Tryz.func45,Tryz.ntmps45;go_wp2
 go_loopw [5,6] (fun m v wr=>∃k:Nat,v=.int .i64 (k:Int)∧m=.int .i64 (FT k)∧k≤n∧w=wr) (fun _ v _=>n-(intOf v).toNat)
 case atStart=>exact ⟨0,rfl,by rw [ag.out],An7 _,rfl⟩
 case round=>
  obtain ⟨k,rfl,rfl,hk,rfl⟩:=hrel
  by_cases hlt:k<n
  ·
   obtain ⟨y,hy⟩:∃y,ids[k]? =some y:=⟨_,Am8 (by rw [hn.out];exact hlt)⟩;obtain ⟨b,ak,rfl,al,k0,k1,k2⟩:=Id.at hr hy;have ab:=Lib.hid (ad.out k y hy);have af:=Lib.hid (km.out y.s);clear hy km ad;have i1:(0:Int)≤k:=by omega
   have i2:(k:Int)<n:=by omega
   have i3:(k:Int).toNat=k:=by omega
   obtain ⟨M,hM⟩:=Ab (MK y.s);rw [hM.out] at af ab;obtain ⟨Fk,aj⟩:=Ab (FT k);rw [aj.out] at ab ⊢;go_upto_region 6 with (go_at_call 72;(with_reducible refine (af.out).mono ?_);rintro _ _ ⟨rfl,rfl⟩)
   obtain ⟨TT,ae⟩:=Ab (y.b==d&&decide (1<M)&&(Fk==0||decide (y.s<Fk)));rw [ae.out] at ab
   go_cut [45] from 22 to 45 (fun s wc=>w=wc∧s=.bool TT)
   case first=>
    have hT:=ae.out
    rcases zb (y.b==d) with t1|t1
    ·
     rcases zb (decide (1<M)) with t2|t2
     ·
      have ac:decide ((M:Int)>1)=true:=decide_eq_true (by have:=of_decide_eq_true t2;omega);have ai:decide (1<(M:Int))=true:=ac
      rcases zb (Fk==0) with t3|t3
      ·
       rw [t1,t2,t3] at hT;go_wp2_with (fail);go_meet;exact ⟨rfl,by rw [← hT];rfl⟩
      ·
       rcases zb (decide (y.s<Fk)) with t4|t4
       all_goals
        rw [t1,t2,t3,t4] at hT;go_wp2_with (fail);go_meet;exact ⟨rfl,by rw [← hT];rfl⟩
     ·
      have ac:decide ((M:Int)>1)=false:=decide_eq_false (by have:=of_decide_eq_false t2;omega);have ai:decide (1<(M:Int))=false:=ac;rw [t1,t2] at hT;go_wp2_with (fail);go_meet;exact ⟨rfl,by rw [← hT];rfl⟩
    ·
     rw [t1] at hT;go_wp2_with (fail);go_meet;exact ⟨rfl,by rw [← hT];rfl⟩
   case rest=>
   obtain ⟨rfl,rfl⟩:=hcut
   cases TT
   ·
    have aa:=ab.out;rw [if_neg Aq4] at aa;replace aa:=Lib.hid aa;go_wp2_with (fail);go_roundw
    case rel=>exact ⟨k+1,by go_num,by rw [aa.out],by omega,by first|rfl|trivial⟩
    case measure=>first|(simp [intOf];done)|(simp [intOf];omega)
   ·
    have aa:=ab.out;rw [if_pos rfl] at aa;replace aa:=Lib.hid aa;go_wp2_with (fail);go_roundw
    case rel=>exact ⟨k+1,by go_num,by rw [aa.out],by omega,by first|rfl|trivial⟩
    case measure=>first|(simp [intOf];done)|(simp [intOf];omega)
  ·
   obtain rfl:k=n:=by omega
   go_wp2
   go_ret
   exact ⟨by rw [← ah.out];rfl,rfl⟩
def Cn (f:Int × Int):List Value:=[.int .i64 f.1,.int .i64 f.2]
theorem slF13:SlT Tryz.prog 47 51 (.agg #[.int .i64 0,.int .i64 0]) 2 16:=⟨Tryz.underlying47,by kernel_rfl,rfl,by decide⟩
def Mu (F:List (Int × Int)) (w:World) (e:Ending) (w':World):Prop:=∃A c,e=.returned (.slice A F.length c)∧Own w' w.heap.size 51 2 A F.length c (F.flatMap Cn)∧Fr Non w w'
def Ed (ids:List Id) (k:Nat):List (Int × Int):=(Ao7 k).filterMap (fun (i:Nat)=>if 0<Ak ids ((i:Int)+1) then some ((i:Int)+1,Ak ids ((i:Int)+1)) else none)
theorem Ai3 (ids:List Id) (k:Nat):Ed ids (k+1)=Ed ids k++(if 0<Ak ids ((k:Int)+1) then [((k:Int)+1,Ak ids ((k:Int)+1))] else []):=by
 unfold Ed;rw [List.range_succ,List.filterMap_append];congr 1
 by_cases h:0<Ak ids ((k:Int)+1)
 · simp [h]
 · simp [h]
theorem Ai4 (ids:List Id) (k:Nat):(Ed ids k).length≤k:=by
 unfold Ed;exact An1 (List.length_filterMap_le _ _) (by simp)
theorem Ai5 (B n c:Nat) (A:Option Addr) (ids:List Id) (w:World) (hn:Hid (ids.length=n)) (hr:Rd w B 3 A n (ids.flatMap Id.cells)) (hnm:n≤1000):
  Calls Tryz.prog 19 #[.slice A n c] w (Mu (Aq ids) w):=by
 have kf:=Lib.hid (fun (d:Int) (w':World) (hf:Fr Non w w')=>Mt B n c A ids d w' hn (hr.fr hf zr) hnm);have ah:Hid (∀k:Nat,Ed ids (k+1)=Ed ids k++(if 0<Ak ids ((k:Int)+1) then [((k:Int)+1,Ak ids ((k:Int)+1))] else [])):=fun k=>Ai3 ids k;have ap:Hid (∀k,(Ed ids k).length≤k):=Ai4 ids;have ak:Hid (Ed ids 12=Aq ids):=rfl;have ai:Hid (Ed ids 0=[]):=rfl;unfold Mu;generalize Aq ids=FA at*;generalize Ed ids=FT at*;generalize Ak ids=FK at*;clear hr;go_enter Tryz.func19,Tryz.ntmps19;go_wp2
 go_loopw [3,4] (fun s v wr=>∃(k:Nat) (Ax:Option Addr) (cx:Nat) (xs:List (Int × Int)),v=.int .i64 ((k:Int)+1)∧s=.slice Ax xs.length cx∧k≤12∧Hid (xs=FT k)∧Own wr w.heap.size 51 2 Ax xs.length cx (xs.flatMap Cn)∧Fr Non w wr) (fun _ v _=>13-(intOf v).toNat)
 case atStart=>exact ⟨0,none,0,[],rfl,rfl,by omega,ai.out.symm,Own.nil _ _ _ _,Fr.refl _ _⟩
 case round=>
  obtain ⟨k,Ax,cx,xs,rfl,rfl,hk,ae,aa,hf⟩:=hrel;have ad:=aa.row;have av:xs.length≤k:=by rw [ae.out];exact ap.out k
  by_cases hlt:k<12
  ·
   have t0:decide ((k:Int)+1≤12)=true:=decide_eq_true (by omega);have e1:IntKind.i64.wrap ((k:Int)+1+1)=(k:Int)+1+1:=IntWalk.i64_in _ (by omega);have af:=Lib.hid (kf.out ((k:Int)+1) wr hf);have ab:=ah.out k;rw [← ae.out] at ab;obtain ⟨Fv,aj⟩:=Ab (FK ((k:Int)+1));rw [aj.out] at af ab;clear kf ah
   rcases zb (decide (0<Fv)) with t1|t1
   ·
    have al:decide (Fv>0)=true:=t1;rw [if_pos (of_decide_eq_true t1)] at ab;replace ab:=Lib.hid ab;have bF:=Blk.new wr 51 #[.int .i64 ((k:Int)+1),.int .i64 Fv];have au:=hf.size
    go_wp2_with (first
     |(go_at_call 45;(with_reducible refine (af.out).mono ?_);rintro _ _ ⟨rfl,rfl⟩)
     |(at_builtin;go_loud (refine Az (base:=w.heap.size) (.tmp 15) (.tmp 19) 47 rfl rfl rfl rfl slF13 (aa.alloc (.cells #[.int .i64 ((k:Int)+1),.int .i64 Fv] 51)) (Rd.blk (n:=1) (size:=2) bF rfl) (by simp [Value.oneCell']) (by omega) (by omega) (by rw [An9];omega) ?_);intro A8 c8 w8 ac ar aq))
    have f8:Fr Non w w8:=(hf.alloc (.cells #[.int .i64 ((k:Int)+1),.int .i64 Fv] 51)).trans ar (fun j hj e=>by have:=(ad j e).1;omega)
    have ag:Own w8 w.heap.size 51 2 A8 (xs++[((k:Int)+1,Fv)]).length c8 ((xs++[((k:Int)+1,Fv)]).flatMap Cn):=by
     rw [Am9,Ao0];exact ac
    go_roundw
    case rel=>exact ⟨k+1,A8,c8,xs++[((k:Int)+1,Fv)],by go_num,by rw [Am9];rfl,by omega,ab.out.symm,ag,f8⟩
    case measure=>simp [intOf];omega
   ·
    have al:decide (Fv>0)=false:=t1;rw [if_neg (of_decide_eq_false t1),Ao1] at ab;replace ab:=Lib.hid ab;go_wp2_with (go_at_call 45;(with_reducible refine (af.out).mono ?_);rintro _ _ ⟨rfl,rfl⟩);go_roundw
    case rel=>exact ⟨k+1,Ax,cx,xs,by go_num,rfl,by omega,ab.out.symm,aa,hf⟩
    case measure=>simp [intOf];omega
  ·
   obtain rfl:k=12:=by omega
   have ao:xs=FA:=by rw [ae.out,ak.out]
   subst ao;have t0:decide (((12:Nat):Int)+1≤12)=false:=by decide
   have hd:=Lib.hid (show ∃(A:Option Addr) (c:Nat),Ending.returned (.slice Ax xs.length cx)=.returned (.slice A xs.length c)∧Own wr w.heap.size 51 2 A xs.length c (xs.flatMap Cn)∧Fr Non w wr from ⟨Ax,cx,rfl,aa,hf⟩);clear aa;go_wp2
   go_ret
   exact hd.out
def Em (ids:List Id) (k:Nat):List Id:=(ids.take k).filter (Ec ids)
theorem Ai6 {ids:List Id} {k:Nat} {x:Id} (h:ids[k]? =some x):Em ids (k+1)=Em ids k++(if (decide (0<Ak ids x.b)&&decide (Ak ids x.b≤x.s))=true then [x] else []):=by
 unfold Em;rw [Cx h,List.filter_append];congr 1
 by_cases hc:Ec ids x=true
 · rw [List.filter_cons_of_pos (p:=Ec ids) hc];exact congrArg (fun z=>x::z) rfl|>.trans (if_pos hc).symm
 · rw [List.filter_cons_of_neg (p:=Ec ids) hc];exact (if_neg hc).symm
theorem Ai7 (B n c:Nat) (A:Option Addr) (ids:List Id) (w:World) (hn:Hid (ids.length=n)) (hr:Rd w B 3 A n (ids.flatMap Id.cells)) (hnm:n≤1000):
  Calls Tryz.prog 21 #[.slice A n c] w (Eb (Cc ids) w):=by
 have kf:=Lib.hid (fun (d:Int) (w':World) (hf:Fr Non w w')=>Mt B n c A ids d w' hn (hr.fr hf zr) hnm);have aj:Hid (∀k x,ids[k]? =some x→Em ids (k+1)=Em ids k++(if (decide (0<Ak ids x.b)&&decide (Ak ids x.b≤x.s))=true then [x] else [])):=fun k x hx=>Ai6 hx;have av:Hid (∀k,(Em ids k).length≤k):=fun k=>An1 (List.length_filter_le _ _) (by rw [Aq6];omega);have au:Hid (An (Em ids n)=Cc ids):=by show _=_;rw [← hn.out];unfold Em Cc;rw [An8]
 have al:Hid (Em ids 0=[]):=rfl;generalize Cc ids=VA at*;generalize Em ids=VT at*;generalize Ak ids=FK at*;go_enter Tryz.func21,Tryz.ntmps21;go_wp2
 go_loopw [3,4] (fun s v wr=>∃(k:Nat) (Ax:Option Addr) (cx:Nat) (xs:List Id),v=.int .i64 (k:Int)∧s=.slice Ax xs.length cx∧k≤n∧Hid (xs=VT k)∧Own wr w.heap.size 41 3 Ax xs.length cx (xs.flatMap Id.cells)∧Fr Non w wr) (fun _ v _=>n-(intOf v).toNat)
 case atStart=>exact ⟨0,none,0,[],rfl,rfl,by omega,al.out.symm,Own.nil _ _ _ _,Fr.refl _ _⟩
 case round=>
  obtain ⟨k,Ax,cx,xs,rfl,rfl,hk,ah,ab,hf⟩:=hrel;have af:=ab.row;have az:xs.length≤k:=by rw [ah.out];exact av.out k
  by_cases hlt:k<n
  ·
   obtain ⟨y,hy⟩:∃y,ids[k]? =some y:=⟨_,Am8 (by rw [hn.out];exact hlt)⟩;obtain ⟨b,ax,rfl,ay,k0,k1,k2⟩:=Id.at (hr.fr hf zr) hy;have i1:(0:Int)≤k:=by omega
   have i2:(k:Int)<n:=by omega
   have i3:(k:Int).toNat=k:=by omega
   have ad:=Lib.hid (kf.out y.b wr hf);have aa:=aj.out k y hy;rw [← ah.out] at aa;obtain ⟨Fv,ar⟩:=Ab (FK y.b);rw [ar.out] at ad aa;clear kf aj hy
   rcases zb (decide (0<Fv)) with t1|t1
   ·
    have ao:decide (Fv>0)=true:=t1
    rcases zb (decide (Fv≤y.s)) with t2|t2
    ·
     have ap:decide (y.s≥Fv)=true:=t2;rw [t1,t2,if_pos (show (true&&true)=true from rfl)] at aa;replace aa:=Lib.hid aa;have bF:=Blk.new wr 41 y.V;have ak:=hf.size
     go_wp2_with (first
      |(go_at_call 45;(with_reducible refine (ad.out).mono ?_);rintro _ _ ⟨rfl,rfl⟩)
      |(at_builtin;go_loud (refine Az (base:=w.heap.size) (.tmp 30) (.tmp 35) 25 rfl rfl rfl rfl Cp (ab.alloc (.cells y.V 41)) (Rd.blk (n:=1) (size:=3) bF rfl) (by simp [Value.oneCell']) (by omega) (by omega) (by rw [An9];omega) ?_);intro A8 c8 w8 ae aw aq))
     have f8:Fr Non w w8:=(hf.alloc (.cells y.V 41)).trans aw (fun j hj e=>by have:=(af j e).1;omega)
     have ai:Own w8 w.heap.size 41 3 A8 (xs++[y]).length c8 ((xs++[y]).flatMap Id.cells):=by
      rw [Am9,Ao0];exact ae
     go_roundw
     case rel=>exact ⟨k+1,A8,c8,xs++[y],by go_num,by rw [Am9];rfl,by omega,aa.out.symm,ai,f8⟩
     case measure=>simp [intOf];omega
    ·
     have ap:decide (y.s≥Fv)=false:=t2;rw [t1,t2,if_neg (by decide),Ao1] at aa;replace aa:=Lib.hid aa;go_wp2_with (go_at_call 45;(with_reducible refine (ad.out).mono ?_);rintro _ _ ⟨rfl,rfl⟩);go_roundw
     case rel=>exact ⟨k+1,Ax,cx,xs,by go_num,rfl,by omega,aa.out.symm,ab,hf⟩
     case measure=>simp [intOf];omega
   ·
    have ao:decide (Fv>0)=false:=t1;rw [t1,if_neg (by simp),Ao1] at aa;replace aa:=Lib.hid aa;go_wp2_with (go_at_call 45;(with_reducible refine (ad.out).mono ?_);rintro _ _ ⟨rfl,rfl⟩);go_roundw
    case rel=>exact ⟨k+1,Ax,cx,xs,by go_num,rfl,by omega,aa.out.symm,ab,hf⟩
    case measure=>simp [intOf];omega
  ·
   obtain rfl:k=n:=by omega
   have ks:=Lib.hid (Kp wr.heap.size xs.length cx Ax xs wr rfl ab.rd (by omega));have ag:An xs=VA:=by rw [ah.out,au.out]
   have ac:xs.length=VA.length:=by rw [← ag,(Br xs).length_eq]
   unfold SortPost at ks;rw [ag] at ks;unfold Eb;have ak:=hf.size;obtain ⟨L,hL⟩:=Ab xs.length;rw [hL.out] at ks ac ⊢;replace ac:=Lib.hid ac;clear ab ag;go_wp2_with (go_at_call 46;(with_reducible refine (ks.out).mono ?_);rintro _ w9 ⟨A9,c9,rfl,o9,f9⟩)
   go_ret
   exact ⟨A9,c9,by rw [← ac.out];rfl,by rw [← ac.out];exact o9.lower ak,hf.trans f9 zr⟩
end Oq
end
end Go.Proofs.YtkanjaikgphjfaaGreatDoor
