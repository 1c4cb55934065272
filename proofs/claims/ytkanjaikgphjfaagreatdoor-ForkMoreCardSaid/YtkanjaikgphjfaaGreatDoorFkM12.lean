/-
  Contracts of the functions that the claim's statement reaches, walked one by one (part 12).
  Conditions: as each theorem says.
-/
import Derived.WideKeyEntry
import Derived.Maps.RangeWalk
import Derived.Shelf.SlGeneric
import Derived.Test.YtkanjaikgphjfaaGreatDoorFkM2
import Derived.Test.YtkanjaikgphjfaaGreatDoorFkM5
import Derived.Test.YtkanjaikgphjfaaGreatDoorFkM10
import Derived.Test.YtkanjaikgphjfaaGreatDoorFkM11
set_option maxRecDepth 100000
set_option maxHeartbeats 16000000
open Array renaming toList_modify→Ag9,ext'→Ah2,toList_push→Ai5
open Bool renaming eq_iff_iff→Ah1,not_false→Ah3,not_true→Ah4
open Int renaming tmod_eq_emod_of_nonneg→Aj2
open List renaming getElem?_eq_getElem→Af8,length_append→Af9,map_append→Ag0,getElem?_map→Ag1,mem_of_getElem?→Ag2,not_mem_nil→Ag3,mem_singleton→Ag5,take_length→Ah0,mem_append→Ah5,contains_iff_mem→Ah6,flatMap_append→Ah9,map_cons→Ai0,map_nil→Ai1,getElem?_append_left→Ai2,getElem?_append_right→Ai3,length_cons→Ai7,any_eq_true→Ai8,flatMap_cons→Ai9,flatMap_nil→Aj0,getElem?_toArray→Aj1,eq_nil_of_length_eq_zero→Aj4,pairwise_iff_getElem→Aj5
open Nat renaming le_refl→Ag4,le_trans→Ag6,zero_le→Ag7,lt_or_ge→Ah7,mod_lt→Ai4,lt_of_le_of_lt→Ai6
open Go.World renaming size_alloc→Ag8,setCell→Ah8,ownsMap_made→Aj3
namespace Go.Proofs.YtkanjaikgphjfaaGreatDoor
section
open Go.RowKit
attribute [local go_sem ↓] Go.wp_at_zero Go.wp_at_succ
namespace Oq
attribute [local go_sem] Ah3 Ah4
theorem K9 (B n c i:Nat) (A:Option Addr) (l0:List Int) (w:World) (hn:Hid (l0.length=n)) (hr:Rd w B 1 A n (l0.map Iv)) (hok:∀x∈l0,I64 x) (_hnm:n≤9223372036854775807) (hi9:i≤1000):
  Calls Tryz.prog 30 #[.slice A n c,.int .i64 (i:Int)] w fun e w'=>e=.returned (.int .i64 (Cj l0 i:Int))∧Fr Non w w':=by
 by_cases hlt:i<n
 ·
  obtain ⟨p,hp⟩:∃q,l0[i]? =some q:=⟨_,Af8 (by rw [hn.out];exact hlt)⟩;obtain ⟨b,off,u,rfl,_,hu,c0⟩:=hr.at hlt;rw [Ag1,hp] at hu;injection hu with hu
  subst hu;replace c0:w.cell? ⟨b,off+i,none⟩=some (.int .i64 p):=c0;have hpo:=hok p (Ag2 hp);have hv:Hid (Cj l0 i=(C9 p 1000000).toNat):=by show _=_;unfold Cj;rw [hp]
  obtain ⟨ba1,ba2⟩:=Lx (n:=p) (m:=1000000) (by omega);obtain ⟨N,hN⟩:∃N:Nat,C9 p 1000000=(N:Int):=⟨(C9 p 1000000).toNat,by omega⟩;have kar:=Lib.hid (fun w'=>R3 p 1000000 w' hpo.1 hpo.2 (by omega) (by omega));have hv2:Hid (Cj l0 i=N):=by show _=_;rw [hv.out,hN];omega
  rw [hN] at kar;rw [hv2.out];have i1:(0:Int)≤i:=by omega
  have i2:(i:Int)<n:=by omega
  have i3:(i:Int).toNat=i:=by omega
  have t1:decide ((i:Int)≥(n:Int))=false:=decide_eq_false (by omega);have t1':decide ((n:Int)≤(i:Int))=false:=t1;have t1n:decide (n≤i)=false:=decide_eq_false (by omega);clear hv hN hp hok hr;go_enter Tryz.func30,Tryz.ntmps30;go_wp2_with (go_at_call 18;(with_reducible refine (kar.out _).mono ?_);rintro _ wz ⟨rfl,rfl⟩)
  go_ret
  exact ⟨rfl,Fr.refl _ _⟩
 ·
  have hv:Hid (Cj l0 i=0):=by
   show _=_;unfold Cj;rw [List.getElem?_eq_none (by rw [hn.out];omega)]
  rw [hv.out];have t1:decide ((i:Int)≥(n:Int))=true:=decide_eq_true (by omega);have t1':decide ((n:Int)≤(i:Int))=true:=t1;have t1n:decide (n≤i)=true:=decide_eq_true (by omega);go_enter Tryz.func30,Tryz.ntmps30;go_wp2_with (fail)
  go_ret
  exact ⟨rfl,Fr.refl _ _⟩
theorem Aa4 (base:Nat) (r:FG) (d:Int) (w:World) (h:r.own w base):
  Calls Tryz.prog 31 #[.agg r.cells,.int .i64 d] w fun e w'=>e=.returned (.int .i64 (C7 r.l d r.l.length))∧Fr Non w w':=by
 have af:=h.num.few;have bg:=Blk.new w 28 r.cells;have f0:Fr Non w (w.alloc (.cells r.cells 28)):=(Fr.refl Non w).alloc _;have g1:Hid (r.cells[1]? =some (.slice r.lA r.l.length r.lC)):=rfl
 have ac:Hid (∀i,i<r.l.length→∃(m:Pn) (b ab:Nat),r.l[i]? =some m∧r.lA=some ⟨b,ab,none⟩∧w.cell? ⟨b,ab+i*27,none⟩=some (.int .i64 m.o.by_)):=by
  intro i hi;obtain ⟨y,b,ab,_,h1,_,h3,_,h4⟩:=h.xAt (Af8 hi);exact ⟨_,b,ab,Af8 hi,h3,by rw [← h1];exact h4 0 (by omega) _ rfl⟩
 have ad:Hid (∀k m,r.l[k]? =some m→C7 r.l d (k+1)=if m.o.by_=d then (k:Int) else C7 r.l d k):=by
  intro k m hm;conv=>lhs;unfold C7
  rw [hm]
 have ag:Hid (C7 r.l d 0= -1):=rfl;clear h;generalize r.lA=LA at*;generalize r.lC=LC at*;generalize r.cells=CS at*;obtain ⟨N,hN⟩:=Aa r.l.length;rw [hN.out] at g1 ac af ⊢;generalize C7 r.l d=LI at*;have e0:IntKind.i64.wrap ((N:Int)-1)=(N:Int)-1:=IntWalk.i64_in _ (by omega);go_enter Tryz.func31,Tryz.ntmps31;have c1:(w.alloc (.cells CS 28)).cell? ⟨w.heap.size,1,none⟩=some (.slice LA N LC):=(bg.cell 1).trans g1.out;go_upto_region 1 with (fail)
 generalize w.alloc (.cells CS 28)=w0 at*;go_wp2_with (fail)
 go_loopw [5] (fun v wr=>∃k:Nat,v=.int .i64 ((k:Int)-1)∧k≤N∧Hid (LI N=LI k)∧w0=wr) (fun v _=>(intOf v+1).toNat)
 case atStart=>exact ⟨N,rfl,Ag4 _,rfl,rfl⟩
 case round=>
  obtain ⟨k,rfl,hk,ae,rfl⟩:=hrel
  cases k with
  |zero=>
   have em:(((0:Nat):Int)-1)=(-1:Int):=by decide
   rw [em];have t1:decide ((-1:Int)≥0)=false:=by decide
   have ah:decide ((0:Int)≤ -1)=false:=by decide
   have hf:=Lib.hid (ae.out.trans ag.out);clear ad ac;go_wp2_with (fail)
   go_ret
   exact ⟨congrArg (fun z=>Ending.returned (.int .i64 z)) hf.out.symm,f0⟩
  |succ k=>
   have ek:(((k+1:Nat):Int)-1)=(k:Int):=by omega
   rw [ek];obtain ⟨m,b,ab,hm,rfl,c2⟩:=ac.out k (by omega);have ai:=f0.cell c2 zq;have aa:=ad.out k m hm;have i1:(0:Int)≤k:=by omega
   have i2:(k:Int)<N:=by omega
   have i3:(k:Int).toNat=k:=by omega
   have t1:decide ((k:Int)≥0)=true:=decide_eq_true (by omega);have ah:decide (0≤(k:Int))=true:=decide_eq_true (by omega);have e1:IntKind.i64.wrap ((k:Int)-1)=(k:Int)-1:=IntWalk.i64_in _ (by omega)
   by_cases he:m.o.by_=d
   ·
    rw [if_pos he] at aa;have hf:=Lib.hid (ae.out.trans aa);have t2:(m.o.by_==d)=true:=beq_iff_eq.2 he;clear ad ac aa he hm;go_wp2_with (fail)
    go_ret
    exact ⟨congrArg (fun z=>Ending.returned (.int .i64 z)) hf.out.symm,f0⟩
   ·
    rw [if_neg he] at aa;have hf:=Lib.hid (ae.out.trans aa);have t2:(m.o.by_==d)=false:=beq_eq_false_iff_ne.2 he;clear ad ac aa he hm ae;go_wp2_with (fail);go_roundw
    case rel=>exact ⟨k,by first|rfl|go_num,by omega,hf.out,by first|rfl|trivial⟩
    case measure=>first|(simp [intOf];done)|(simp [intOf];omega)
def Ej (l:List Pn) (places ys:List Nat):Prop:=ys.Nodup∧∀q,q∈ys↔(q∈places∨∃p∈places,inP l p q=true)
def La (l:List Pn) (places:List Nat) (w:World) (e:Ending) (w':World):Prop:=∃(ys:List Nat) (A:Option Addr) (c:Nat),e=.returned (.slice A ys.length c)∧Ej l places ys∧(∀q∈ys,q<l.length)∧Own w' w.heap.size 3 1 A ys.length c (ys.map Qv)∧Fr Non w w'
structure Bh (l:List Pn) (places:List Nat) (i:Nat) (all:List Nat) (k:Nat) (ys:List Nat):Prop where
 nodup:ys.Nodup
 mem:∀q,q∈ys↔((∃p∈places.take i,q=p∨inP l p q=true)∨q∈all.take k)
theorem Bh.start (l:List Pn) (places:List Nat) (all:List Nat):Bh l places 0 all 0 []:=⟨List.nodup_nil,fun q=>⟨fun h=>absurd h Ag3,fun h=>by
 rcases h with ⟨p,hp,_⟩|h
 · exact absurd hp Ag3
 · exact absurd h Ag3⟩⟩
theorem Bh.old {l:List Pn} {places all ys:List Nat} {i k x:Nat} (h:Bh l places i all k ys) (hx:all[k]? =some x) (hc:ys.contains x=true):Bh l places i all (k+1) ys:=⟨h.nodup,fun q=>by
 rw [Co hx,Ah5,Ag5,h.mem q];constructor
 ·
  rintro (h1|h1)
  · exact .inl h1
  · exact .inr (.inl h1)
 ·
  rintro (h1|h1|rfl)
  · exact .inl h1
  · exact .inr h1
  · exact (h.mem q).1 (List.contains_iff_mem.1 hc)⟩
theorem Bh.new {l:List Pn} {places all ys:List Nat} {i k x:Nat} (h:Bh l places i all k ys) (hx:all[k]? =some x) (hc:ys.contains x=false):Bh l places i all (k+1) (ys++[x]):=⟨(by
 refine List.nodup_append.2 ⟨h.nodup,by simp,fun a ha b hb=> ?_⟩;obtain rfl:=List.mem_singleton.1 hb;rintro rfl;rw [List.contains_iff_mem.2 ha] at hc
 cases hc),fun q=>by
 rw [Co hx,Ah5,Ah5,Ag5,h.mem q];constructor
 ·
  rintro ((h1|h1)|h1)
  · exact .inl h1
  · exact .inr (.inl h1)
  · exact .inr (.inr h1)
 ·
  rintro (h1|h1|h1)
  · exact .inl (.inl h1)
  · exact .inl (.inr h1)
  · exact .inr h1⟩
theorem Bh.next {l:List Pn} {places all ys Gi:List Nat} {i p:Nat} (h:Bh l places i all all.length ys) (hp:places[i]? =some p) (ha:∀q,q∈all↔(q=p∨inP l p q=true)):Bh l places (i+1) Gi 0 ys:=⟨h.nodup,fun q=>by
 rw [h.mem q,Co hp,Ah0,ha q];constructor
 ·
  rintro (⟨p',h1,h2⟩|h1)
  · exact .inl ⟨p',List.mem_append_left _ h1,h2⟩
  · exact .inl ⟨p,List.mem_append_right _ List.mem_cons_self,h1⟩
 ·
  rintro (⟨p',h1,h2⟩|h1)
  ·
   rcases List.mem_append.1 h1 with h1|h1
   · exact .inl ⟨p',h1,h2⟩
   ·
    rw [List.mem_singleton.1 h1] at h2;exact .inr h2
  · exact absurd h1 Ag3⟩
theorem Bh.done {l:List Pn} {places all ys:List Nat} (h:Bh l places places.length all 0 ys):Ej l places ys:=⟨h.nodup,fun q=>by
 rw [h.mem q,Ah0];constructor
 ·
  rintro (⟨p,h1,rfl|h2⟩|h1)
  · exact .inl h1
  · exact .inr ⟨p,h1,h2⟩
  · exact absurd h1 Ag3
 ·
  rintro (h1|⟨p,h1,h2⟩)
  · exact .inl ⟨q,h1,.inl rfl⟩
  · exact .inl ⟨p,h1,.inr h2⟩⟩
theorem Bh.few {l:List Pn} {places all ys:List Nat} {i k N:Nat} (h:Bh l places i all k ys) (hb:∀q∈ys,q<N):ys.length≤N:=by
 have:=Ei h.nodup (ys:=List.range N) (fun q hq=>List.mem_range.2 (hb q hq));simpa using this
theorem Fh {w:World} {b b' size n c:Nat} {e:TypeId} {A:Option Addr} {xs:List Value} (h:Own w b' e size A n c xs) (hb:b≤b'):Own w b e size A n c xs:=by
 obtain ⟨h1,h2⟩:=h;refine ⟨h1,?_⟩
 rcases h2 with h2|⟨g,cap,cur,e1,e2,e3⟩
 · exact .inl h2
 · exact .inr ⟨g,cap,cur,e1,Ag6 hb e2,e3⟩
theorem Lb (B n c:Nat) (A:Option Addr) (zs:List Nat) (x:Nat) (w:World) (hn:Hid (zs.length=n)) (hr:Rd w B 1 A n (zs.map Qv)) (hnm:n≤1000000):
  Calls Tryz.prog 57 #[.slice A n c,.int .i64 (x:Int)] w fun e w'=>e=.returned (.bool (zs.contains x))∧Fr Non w w':=by
 have e1:(zs.map (fun q:Nat=>(q:Int))).map Iv=zs.map Qv:=by rw [List.map_map];rfl
 have e2:(zs.map (fun q:Nat=>(q:Int))).contains (x:Int)=zs.contains x:=by
  rw [Ah1,Ah6,Ah6,List.mem_map];constructor
  ·
   rintro ⟨q,h1,h2⟩;have:q=x:=by omega
   exact this▸h1
  ·
   intro h;exact ⟨x,h,rfl⟩
 have k:=Z5 B n c A (zs.map (fun q:Nat=>(q:Int))) (x:Int) w (by show _=_;rw [List.length_map];exact hn.out) (by rw [e1];exact hr) hnm;rw [e2] at k;exact k
theorem Aa5 (ps:List Nat):∀u∈ps.map Qv,u.oneCell'=true:=fun u hu=>by
 obtain ⟨x,_,rfl⟩:=List.mem_map.1 hu;rfl
theorem Qx (base B n c:Nat) (r:FG) (A:Option Addr) (places:List Nat) (w:World) (h:r.own w base) (hn:Hid (places.length=n)) (hr:Rd w B 1 A n (places.map Qv)) (hnm:n≤1000) (hlt:∀p∈places,p<r.l.length):
  Calls Tryz.prog 35 #[.agg r.cells,.slice A n c] w (La r.l places w):=by
 have a9:=h.num.few;have bg:=Blk.new w 28 r.cells;have f0:Fr Non w (w.alloc (.cells r.cells 28)):=(Fr.refl Non w).alloc _;have g3:Hid (r.cells[3]? =some (.slice r.pA r.l.length r.pC)):=rfl
 have ba:Hid (∀p,p<r.l.length→∃(xs:List Nat) (A2:Option Addr) (c2 b a3:Nat),r.pA=some ⟨b,a3,none⟩∧w.cell? ⟨b,a3+p,none⟩=some (.slice A2 xs.length c2)∧xs.length≤14∧Rd w w.heap.size 1 A2 xs.length (xs.map Qv)∧(∀q,q∈xs↔inP r.l p q=true)∧∀q∈xs,q<r.l.length):=by
  intro p hp;have hm:=Af8 hp;obtain ⟨x,b,a3,h1,h2,h3,_,h4,h5,h6⟩:=h.pAt hm;exact ⟨x.xs,x.A,x.c,b,a3,h3,h4,by omega,RowAt.sl h2|>.rd,fun q=>by rw [h1.2 q,Fy hm],fun q hq=>Nat.lt_trans (h6 q hq) hp⟩
 clear h;replace hlt:=Lib.hid hlt;have aj:Hid (∀ys A c w',Ej r.l places ys→(∀q∈ys,q<r.l.length)→Own w' w.heap.size 3 1 A ys.length c (ys.map Qv)→Fr Non w w'→La r.l places w (.returned (.slice A ys.length c)) w'):=fun ys A c w' h1 h2 h3 h4=>⟨ys,A,c,rfl,h1,h2,h3,h4⟩;generalize La r.l places w=POST at*;generalize r.pA=PA at*;generalize r.pC=PC at*;generalize r.cells=CS at*;generalize r.l=l at*;obtain ⟨N,hN⟩:=Aa l.length;rw [hN.out] at g3 ba a9 hlt aj;go_enter Tryz.func35,Tryz.ntmps35;go_upto_region 1 with (fail)
 have b7:=f0.size;generalize w.alloc (.cells CS 28)=w0 at*;go_wp2_with (fail)
 go_loopw [5,6] (fun s v wr=>∃(i:Nat) (Ax:Option Addr) (cx:Nat) (ys:List Nat),v=.int .i64 (i:Int)∧s=.slice Ax ys.length cx∧i≤n∧Hid (Bh l places i [] 0 ys)∧Hid (∀q∈ys,q<N)∧Own wr w0.heap.size 3 1 Ax ys.length cx (ys.map Qv)∧Fr Non w0 wr) (fun _ v _=>n-(intOf v).toNat)
 case atStart=>exact ⟨0,none,0,[],rfl,rfl,Ag7 _,Bh.start _ _ _,fun q hq=>absurd hq Ag3,Own.nil _ _ _ _,Fr.refl _ _⟩
 case round=>
  obtain ⟨i,Ax,cx,ys,rfl,rfl,hi,aq,bm,ae,hf⟩:=hrel;have ay:Fr Non w wr:=f0.trans hf zr
  by_cases hin:i<n
  ·
   obtain ⟨p,hp⟩:∃p,places[i]? =some p:=⟨_,Af8 (by rw [hn.out];exact hin)⟩;have be:=hlt.out p (Ag2 hp);obtain ⟨xs,A2,c2,b2,o2,rfl,d2,bs,bh,bl,az⟩:=ba.out p be;obtain ⟨b4,o4,u4,rfl,_,a0,d0⟩:=(hr.fr ay zr).at hin;rw [Ag1,hp] at a0;injection a0 with a0
   subst a0;replace d0:wr.cell? ⟨b4,o4+i,none⟩=some (.int .i64 (p:Int)):=d0;have i1:(0:Int)≤i:=by omega
   have i2:(i:Int)<n:=by omega
   have i3:(i:Int).toNat=i:=by omega
   have p1:(0:Int)≤p:=by omega
   have p2:(p:Int)<N:=by omega
   have p3:(p:Int).toNat=p:=by omega
   have a1:Hid (∀q,q∈p::xs↔(q=p∨inP l p q=true)):=fun q=>by rw [List.mem_cons,bl q]
   have bt:Hid (∀q∈p::xs,q<N):=fun q hq=>by
    rcases List.mem_cons.1 hq with rfl|hq
    · exact be
    · exact az q hq
   have b8:=hf.size;go_upto_region 5 with (fail)
   have Hb:wr.cell? ⟨w.heap.size,3,none⟩=some (.slice (some ⟨b2,o2,none⟩) N PC):=((bg.fr hf zq).cell 3).trans g3.out;have Db:=ay.cell d2 zq;have Qb:=d0;have F0:Fr Non wr wr.drew:=(Fr.refl Non wr).drew;have H0:wr.drew.cell? ⟨w.heap.size,3,none⟩=some (.slice (some ⟨b2,o2,none⟩) N PC):=Hb;have D0:wr.drew.cell? ⟨b2,o2+p,none⟩=some (.slice A2 xs.length c2):=Db;have Q0:wr.drew.cell? ⟨b4,o4+i,none⟩=some (.int .i64 (p:Int)):=Qb;clear d0 d2 ba;refine wp_region_held_drew (S:=fun w'=>w'.cell? ⟨w.heap.size,3,none⟩=some (.slice (some ⟨b2,o2,none⟩) N PC)∧w'.cell? ⟨b2,o2+p,none⟩=some (.slice A2 xs.length c2)∧w'.cell? ⟨b4,o4+i,none⟩=some (.int .i64 (p:Int))) (by kernel_rfl) ⟨H0,D0,Q0⟩ (fun hHeld=> ?_);clear hHeld;refine tkH 0 ⟨H0,D0,Q0⟩ (h:=tkH 1 ⟨H0,D0,Q0⟩ (h:=tkH 2 ⟨H0,D0,Q0⟩ (h:=tkH 3 ⟨H0,D0,Q0⟩ (h:=tkH 5 ⟨H0,D0,Q0⟩ (h:=tkH 6 ⟨H0,D0,Q0⟩ (h:=tkH 7 ⟨H0,D0,Q0⟩ (h:=tkH 8 ⟨H0,D0,Q0⟩ (h:=tkH 9 ⟨H0,D0,Q0⟩ (h:=tkH 10 ⟨H0,D0,Q0⟩ (h:=tkH 11 ⟨H0,D0,Q0⟩ (h:=tkH 12 ⟨H0,D0,Q0⟩ (h:=?_))))))))))));simp only [List.set];refine oG 4 (fun K hK=> ?_);go_simp;have bq:=(Blk.new wr 3 #[.int .i64 (p:Int)]).drew;have F1:Fr Non wr ((wr.alloc (.cells #[.int .i64 (p:Int)] 3)).drew):=((Fr.refl _ _).alloc _).drew;have H1:=F1.cell Hb zq;have D1:=F1.cell Db zq;have Q1:=F1.cell Qb zq;refine hK.out _ _ ⟨H1,D1,Q1⟩ (fun hZ=> ?_);clear hZ hK K;try simp only [Ag,List.set]
   generalize (wr.alloc (.cells #[.int .i64 (p:Int)] 3)).drew=v1 at*;have ad:=Own.blk (base:=wr.heap.size) (n:=1) (size:=1) bq (Ag4 _) (by omega) rfl (by omega);have bd:=(bh.fr (ay.trans F1 zr) zr);refine oG 13 (fun K hK=> ?_);refine Du (base:=wr.heap.size) (.tmp 19) (.tmp 27) 22 rfl rfl rfl E7 ad bd (Aa5 xs) (by omega) (by omega) F1.size ?_;intro A6 c6 v2 av br bu;have F2:Fr Non wr v2:=F1.trans br (fun j hj e=>by have e':wr.heap.size=j:=Option.some.inj e;omega);have H2:=F2.cell Hb zq;have D2:=F2.cell Db zq;have Q2:=F2.cell Qb zq;refine hK.out _ _ ⟨H2,D2,Q2⟩ (fun hZ=> ?_);clear hZ hK K;try simp only [Ag,List.set]
   refine tkH 14 ⟨H2,D2,Q2⟩ (h:=?_);simp only [List.set];refine oD ?_;go_simp;have ax:[Value.int .i64 (p:Int)]++xs.map Qv=(p::xs).map Qv:=rfl;have ah:1+xs.length=(p::xs).length:=by rw [Ai7];omega
   have ap:Own v2 wr.heap.size 3 1 A6 (p::xs).length c6 ((p::xs).map Qv):=by
    rw [← ax,← ah];exact av
   try rw [ah]
   have ag:(p::xs).length≤15:=by rw [Ai7];omega
   have bc:Hid (Bh l places i (p::xs) 0 ys):=⟨aq.out.nodup,fun q=>by rw [aq.out.mem q];simp⟩;have aw:=ae.fr F2 zr;have ar:=ae.row;have bo:=hf.trans F2 zr;have bk:=Lib.hid hp;clear av ae hf aq ax ah H0 D0 Q0 H1 D1 Q1 H2 D2 Q2 Hb Db Qb hp bl az bh bd ad;generalize p::xs=al at*;obtain ⟨M,hM⟩:=Aa al.length;rw [hM.out] at ap ag ⊢;generalize v2=wo at*;generalize wr=wa at*;go_wp2_with (fail)
   go_loopw [5,8] (fun s v wi=>∃(k:Nat) (Ay:Option Addr) (cy:Nat) (zs:List Nat),v=.int .i64 (k:Int)∧s=.slice Ay zs.length cy∧k≤M∧Hid (Bh l places i al k zs)∧Hid (∀q∈zs,q<N)∧Own wi w0.heap.size 3 1 Ay zs.length cy (zs.map Qv)∧Hid (Own wi wa.heap.size 3 1 A6 M c6 (al.map Qv))∧Hid (∀k,Ab Ay=some k→Ab A6≠some k)∧Fr Non w0 wi) (fun _ v _=>M-(intOf v).toNat)
   case atStart=>exact ⟨0,Ax,cx,ys,rfl,rfl,Ag7 _,bc.out,bm.out,aw,ap,(fun k hk e=>by have h1:=(ap.row k e).1;have h2:=(ar k hk).2;omega),bo⟩
   case round=>
    obtain ⟨k,Ay,cy,zs,rfl,rfl,hk,ao,a2,ac,aa,ai,au⟩:=hrel;have bv:=ac.row
    by_cases hkM:k<M
    ·
     obtain ⟨x,hx⟩:∃x,al[k]? =some x:=⟨_,Af8 (by rw [hM.out];exact hkM)⟩;have az:=bt.out x (Ag2 hx);obtain ⟨b5,o5,u5,bx,_,a4,d5⟩:=aa.out.rd.at hkM;rw [Ag1,hx] at a4;injection a4 with a4
     subst a4;subst bx;replace d5:wr.cell? ⟨b5,o5+k,none⟩=some (.int .i64 (x:Int)):=d5;have b0:zs.length≤N:=ao.out.few a2.out;have j1:(0:Int)≤k:=by omega
     have j2:(k:Int)<M:=by omega
     have j3:(k:Int).toNat=k:=by omega
     have u0:decide ((k:Int)<M)=true:=decide_eq_true j2;have bi:decide (k<M)=true:=decide_eq_true hkM;have e1:IntKind.i64.wrap ((k:Int)+1)=(k:Int)+1:=IntWalk.i64_in _ (by omega);have kh:=Lib.hid (Lb wr.heap.size zs.length cy Ay zs x wr rfl ac.rd (by omega));have bf:Hid (∀(w4:World),Fr Non wr w4→w4.cell? ⟨b5,o5+k,none⟩=some (.int .i64 (x:Int))):=fun w4 f=>f.cell d5 zq
     rcases zb (zs.contains x) with hc|hc
     ·
      have ak:=Lib.hid (ao.out.old hx hc);rw [hc] at kh;clear hx ao a1;go_wp2_with (go_at_call 57;(with_reducible refine (kh.out).mono ?_);rintro _ wq ⟨rfl,fq⟩;(have d6:=bf.out wq fq);(have af:=ac.fr fq zr);(have ab:=aa.out.fr fq zr);(have ff:=au.trans fq zr);clear ac aa au);go_roundw
      case rel=>exact ⟨k+1,Ay,cy,zs,by go_num,rfl,by omega,ak.out,a2.out,af,ab,ai.out,ff⟩
      case measure=>simp [intOf];omega
     ·
      have ak:=Lib.hid (ao.out.new hx hc)
      have bb:Hid (∀q∈zs++[x],q<N):=fun q hq=>by
       rcases List.mem_append.1 hq with hq|hq
       · exact a2.out q hq
       · rw [List.mem_singleton.1 hq];exact az
      rw [hc] at kh;clear hx ao a1
      go_wp2_with (first
       |(go_at_call 57;(with_reducible refine (kh.out).mono ?_);rintro _ wq ⟨rfl,fq⟩;(have d6:=bf.out wq fq);(have af:=ac.fr fq zr);(have ab:=aa.out.fr fq zr);(have ff:=au.trans fq zr);clear ac aa au;(have b3:=ff.size);have bF:=Blk.new wq 3 #[.int .i64 (x:Int)])
       |(at_builtin;go_loud (refine Au (base:=w0.heap.size) (.tmp 42) (.tmp 47) 22 rfl rfl rfl rfl E7 (af.alloc (.cells #[.int .i64 (x:Int)] 3)) (Rd.blk (n:=1) (size:=1) bF rfl) (by simp [Value.oneCell']) (by omega) (by omega) (by rw [Ag8];omega) ?_);intro A8 c8 w8 a7 bj a5))
      have bp:=ff.alloc (.cells #[.int .i64 (x:Int)] 3);have f8:Fr Non w0 w8:=bp.trans bj (fun j hj e=>by have:=(bv j e).1;omega);have bn:Own w8 wa.heap.size 3 1 (some ⟨b5,o5,none⟩) M c6 (al.map Qv):=(ab.alloc (.cells #[.int .i64 (x:Int)] 3)).fr bj (fun j e1 e2=>ai.out j e2 e1)
      have a6:Own w8 w0.heap.size 3 1 A8 (zs++[x]).length c8 ((zs++[x]).map Qv):=by
       rw [Af9,Ag0];exact a7
      have a8:∀q,Ab A8=some q→Ab (some (⟨b5,o5,none⟩:Addr))≠some q:=fun q e e2=>by
       rcases a5 with h8|h8
       · exact ai.out q (h8▸e) e2
       ·
        have h9:=(ab.row q e2).2
        have b1:q=wq.heap.size+1:=by
         have:=e.symm.trans h8;injection this with this
         rw [this,Ag8]
        first|omega|(have b6:=ab.row q e2;omega)
      go_roundw
      case rel=>exact ⟨k+1,A8,c8,zs++[x],by go_num,by rw [Af9];rfl,by omega,ak.out,bb.out,a6,bn,a8,f8⟩
      case measure=>simp [intOf];omega
    ·
     obtain rfl:k=M:=by omega
     have u0:decide ((k:Int)<k)=false:=decide_eq_false (by omega);have bi:decide (k<k)=false:=decide_eq_false (by omega);have e1:IntKind.i64.wrap ((i:Int)+1)=(i:Int)+1:=IntWalk.i64_in _ (by omega);have bz:Hid (Bh l places (i+1) [] 0 zs):=(show Bh l places i al al.length zs from hM.out.symm▸ao.out).next bk.out a1.out;clear ao bk a1;go_wp2_with (fail);go_roundw
     case rel=>exact ⟨i+1,Ay,cy,zs,by go_num,rfl,by omega,bz.out,a2.out,ac,au⟩
     case measure=>simp [intOf];omega
  ·
   obtain rfl:i=n:=by omega
   have u0:decide ((i:Int)<i)=false:=decide_eq_false (by omega);have bi:decide (i<i)=false:=decide_eq_false (by omega);have bw:Hid (Ej l places ys):=(show Bh l places places.length [] 0 ys from hn.out.symm▸aq.out).done;have ad:Own wr w.heap.size 3 1 Ax ys.length cx (ys.map Qv):=Fh ae (by omega);have hd:=Lib.hid (aj.out ys Ax cx wr bw.out bm.out ad ay);clear aj aq ae ad;go_wp2_with (fail);exact hd.out
theorem Aa6 {l:List Pn} {places:List Nat} {k p:Nat} (h:places[k]? =some p):Br l places (k+1)=if ((Br l places k).contains p||places.any (fun q=>inP l q p))=true then Br l places k else Br l places k++[p]:=by
 conv=>lhs;unfold Br
 rw [h]
def Iu (ys:List Nat) (w:World) (e:Ending) (w':World):Prop:=∃(A:Option Addr) (c:Nat),e=.returned (.slice A ys.length c)∧Own w' w.heap.size 3 1 A ys.length c (ys.map Qv)∧Fr Non w w'
theorem Aa7 (base B n c:Nat) (r:FG) (A:Option Addr) (places:List Nat) (w:World) (h:r.own w base) (hn:Hid (places.length=n)) (hr:Rd w B 1 A n (places.map Qv)) (hnm:n≤1000) (hlt:∀p∈places,p<r.l.length):
  Calls Tryz.prog 32 #[.agg r.cells,.slice A n c] w (Iu (Cl r.l places) w):=by
 have ar:=h.num.few;have bg:=Blk.new w 28 r.cells;have f0:Fr Non w (w.alloc (.cells r.cells 28)):=(Fr.refl Non w).alloc _;have g3:Hid (r.cells[3]? =some (.slice r.pA r.l.length r.pC)):=rfl
 have al:Hid (∀p,p<r.l.length→∃(xs:List Nat) (A2:Option Addr) (c2 b ak:Nat),r.pA=some ⟨b,ak,none⟩∧w.cell? ⟨b,ak+p,none⟩=some (.slice A2 xs.length c2)∧xs.length≤14∧Rd w w.heap.size 1 A2 xs.length (xs.map Qv)∧(∀q,xs.contains q=inP r.l p q)):=by
  intro p hp;have hm:=Af8 hp;obtain ⟨x,b,ak,h1,h2,h3,_,h4,h5,h6⟩:=h.pAt hm;refine ⟨x.xs,x.A,x.c,b,ak,h3,h4,by omega,RowAt.sl h2|>.rd,fun q=> ?_⟩;rw [Ah1,Ah6,Fy hm];exact h1.2 q
 clear h;replace hlt:=Lib.hid hlt;have a1:=Lib.hid (fun k p (hp:places[k]? =some p)=>Aa6 (l:=r.l) (places:=places) hp);have a9:=Lib.hid (Ir r.l places);have bb:Hid (Br r.l places 0=[]):=rfl;have be:Hid (Br r.l places n=Cl r.l places):=by show _=_;rw [← hn.out];rfl
 have ah:Hid (∀A c w',Own w' w.heap.size 3 1 A (Cl r.l places).length c ((Cl r.l places).map Qv)→Fr Non w w'→Iu (Cl r.l places) w (.returned (.slice A (Cl r.l places).length c)) w'):=fun A c w' h1 h2=>⟨A,c,rfl,h1,h2⟩;have aj:Hid (∀x k q,places[k]? =some q→(places.take (k+1)).any (fun q=>inP r.l q x)=((places.take k).any (fun q=>inP r.l q x)||inP r.l q x)):=fun x k q hq=>by rw [Co hq,List.any_append,List.any_cons,List.any_nil,Bool.or_false]
 have ae:Hid (∀x,(places.take n).any (fun q=>inP r.l q x)=places.any (fun q=>inP r.l q x)):=fun x=>by rw [← hn.out,Ah0]
 generalize Iu (Cl r.l places) w=POST at*;generalize Cl r.l places=HS at*;generalize Br r.l places=HT at*;generalize r.pA=PA at*;generalize r.pC=PC at*;generalize r.cells=CS at*;generalize r.l=l at*;obtain ⟨N,hN⟩:=Aa l.length;rw [hN.out] at g3 al ar hlt;go_enter Tryz.func32,Tryz.ntmps32;go_upto_region 1 with (fail)
 have bh:=f0.size;generalize w.alloc (.cells CS 28)=w0 at*;go_wp2_with (fail)
 go_loopw [5,6] (fun s v wr=>∃(i:Nat) (Ax:Option Addr) (cx:Nat) (ys:List Nat),v=.int .i64 (i:Int)∧s=.slice Ax ys.length cx∧i≤n∧Hid (ys=HT i)∧Own wr w0.heap.size 3 1 Ax ys.length cx (ys.map Qv)∧Fr Non w0 wr) (fun _ v _=>n-(intOf v).toNat)
 case atStart=>exact ⟨0,none,0,[],rfl,rfl,Ag7 _,bb.out.symm,Own.nil _ _ _ _,Fr.refl _ _⟩
 case round=>
  obtain ⟨i,Ax,cx,ys,rfl,rfl,hi,az,aa,hf⟩:=hrel;have ac:Fr Non w wr:=f0.trans hf zr
  by_cases hin:i<n
  ·
   obtain ⟨x,hx⟩:∃x,places[i]? =some x:=⟨_,Af8 (by rw [hn.out];exact hin)⟩;have bm:ys.length≤i:=by rw [az.out];exact a9.out i
   obtain ⟨b4,o4,u4,rfl,_,aq,d0⟩:=(hr.fr ac zr).at hin;rw [Ag1,hx] at aq;injection aq with aq
   subst aq;replace d0:wr.cell? ⟨b4,o4+i,none⟩=some (.int .i64 (x:Int)):=d0;have af:=Lib.hid (a1.out i x hx);rw [← az.out] at af;have i1:(0:Int)≤i:=by omega
   have i2:(i:Int)<n:=by omega
   have i3:(i:Int).toNat=i:=by omega
   have t0:decide ((i:Int)<n)=true:=decide_eq_true i2;have bf:decide (i<n)=true:=decide_eq_true hin;have bi:IntKind.i64.wrap ((i:Int)+1)=(i:Int)+1:=IntWalk.i64_in _ (by omega);have kh:=Lib.hid (Lb wr.heap.size ys.length cx Ax ys x wr rfl aa.rd (by omega));obtain ⟨c0,ay⟩:=Aa (ys.contains x);have hB:Hid (∃BB:Nat→Bool,BB 0=c0∧(∀j q,places[j]? =some q→BB (j+1)=(BB j||inP l q x))∧BB n=(ys.contains x||places.any (fun q=>inP l q x))):=⟨fun j=>c0||(places.take j).any (fun q=>inP l q x),by simp,fun j q hq=>by (dsimp only;rw [aj.out x j q hq,Bool.or_assoc]),by (dsimp only;rw [ae.out x,ay.out])⟩;obtain ⟨BB,av,ag,a4⟩:=hB.out;replace av:=Lib.hid av;replace ag:=Lib.hid ag;rw [← a4] at af;rw [ay.out] at kh;have bd:=Lib.hid hx;clear hB a4 ay aj ae hx a1;go_wp2_with (go_at_call 57;(with_reducible refine (kh.out).mono ?_);rintro _ wq ⟨rfl,fq⟩;(have ax:=aa.fr fq zr);(have a5:=hf.trans fq zr));have bk:Fr Non w wq:=f0.trans a5 zr;clear kh aa hf ac d0;generalize wr=wa at*
   go_loopw [7,8] (fun b v wr=>∃(j:Nat),v=.int .i64 (j:Int)∧b=.bool (BB j)∧j≤n∧Own wr w0.heap.size 3 1 Ax ys.length cx (ys.map Qv)∧Fr Non w0 wr) (fun _ v _=>n-(intOf v).toNat)
   case atStart=>exact ⟨0,rfl,by rw [av.out],Ag7 _,ax,a5⟩
   case round=>
    obtain ⟨j,rfl,rfl,hj,aa,hf⟩:=hrel;have ac:Fr Non w wr:=f0.trans hf zr;obtain ⟨b6,o6,u6,e6,_,ap,d6⟩:=(hr.fr ac zr).at hin;injection e6 with e6
    injection e6 with e7 e8
    subst e7;subst e8;obtain rfl:u6=.int .i64 (x:Int):=by rw [Ag1,bd.out] at ap;injection ap with ap;exact ap.symm
    replace d6:wr.cell? ⟨b4,o4+i,none⟩=some (.int .i64 (x:Int)):=d6
    by_cases hjn:j<n
    ·
     obtain ⟨y,hy⟩:∃y,places[j]? =some y:=⟨_,Af8 (by rw [hn.out];exact hjn)⟩;have bc:=hlt.out y (Ag2 hy);obtain ⟨b5,o5,u5,e5,_,ao,d5⟩:=(hr.fr ac zr).at hjn;injection e5 with e5
     injection e5 with e7 e8
     subst e7;subst e8;rw [Ag1,hy] at ao;injection ao with ao
     subst ao;replace d5:wr.cell? ⟨b4,o4+j,none⟩=some (.int .i64 (y:Int)):=d5;obtain ⟨xs,A2,c2,b2,o2,rfl,d2,ba,a7,a2⟩:=al.out y bc;have ad:=ag.out j y hy;have kq:=Lib.hid (Lb w.heap.size xs.length c2 A2 xs x wr.drew rfl (a7.fr ac.drew zr) (by omega));rw [a2 x] at kq;generalize inP l y x=IP at*;have j1:(0:Int)≤j:=by omega
     have j2:(j:Int)<n:=by omega
     have j3:(j:Int).toNat=j:=by omega
     have p1:(0:Int)≤y:=by omega
     have p2:(y:Int)<N:=by omega
     have p3:(y:Int).toNat=y:=by omega
     have u0:decide ((j:Int)<n)=true:=decide_eq_true j2;have a3:decide (j<n)=true:=decide_eq_true hjn;have e1:IntKind.i64.wrap ((j:Int)+1)=(j:Int)+1:=IntWalk.i64_in _ (by omega);have Hb:wr.cell? ⟨w.heap.size,3,none⟩=some (.slice (some ⟨b2,o2,none⟩) N PC):=((bg.fr hf zq).cell 3).trans g3.out;have Db:=ac.cell d2 zq;have Ib:=d5;have Jb:=d6;have F0:Fr Non wr wr.drew:=(Fr.refl Non wr).drew;have H0:wr.drew.cell? ⟨w.heap.size,3,none⟩=some (.slice (some ⟨b2,o2,none⟩) N PC):=Hb;have D0:wr.drew.cell? ⟨b2,o2+y,none⟩=some (.slice A2 xs.length c2):=Db;have I0:wr.drew.cell? ⟨b4,o4+j,none⟩=some (.int .i64 (y:Int)):=Ib;have J0:wr.drew.cell? ⟨b4,o4+i,none⟩=some (.int .i64 (x:Int)):=Jb;clear d5 d6 d2 al hy ag hlt a2;obtain ⟨bj,ab⟩:=Aa (BB j);rw [ab.out] at ad ⊢
     cases bj
     case false=>
      rw [Bool.false_or] at ad;replace ad:=Lib.hid ad;go_upto_region 9 with (fail)
      refine wp_region_held_drew (S:=fun w'=>w'.cell? ⟨w.heap.size,3,none⟩=some (.slice (some ⟨b2,o2,none⟩) N PC)∧w'.cell? ⟨b2,o2+y,none⟩=some (.slice A2 xs.length c2)∧w'.cell? ⟨b4,o4+j,none⟩=some (.int .i64 (y:Int))∧w'.cell? ⟨b4,o4+i,none⟩=some (.int .i64 (x:Int))) (by kernel_rfl) ⟨H0,D0,I0,J0⟩ (fun hHeld=> ?_);clear hHeld;refine tkH 0 ⟨H0,D0,I0,J0⟩ (h:=tkH 1 ⟨H0,D0,I0,J0⟩ (h:=tkH 2 ⟨H0,D0,I0,J0⟩ (h:=tkH 3 ⟨H0,D0,I0,J0⟩ (h:=tkH 4 ⟨H0,D0,I0,J0⟩ (h:=tkH 5 ⟨H0,D0,I0,J0⟩ (h:=tkH 6 ⟨H0,D0,I0,J0⟩ (h:=tkH 7 ⟨H0,D0,I0,J0⟩ (h:=tkH 8 ⟨H0,D0,I0,J0⟩ (h:=tkH 9 ⟨H0,D0,I0,J0⟩ (h:=tkH 10 ⟨H0,D0,I0,J0⟩ (h:=tkH 11 ⟨H0,D0,I0,J0⟩ (h:=?_))))))))))));simp only [List.set];refine tkH 12 ⟨H0,D0,I0,J0⟩ (h:=tkH 13 ⟨H0,D0,I0,J0⟩ (h:=?_));simp only [List.set];refine oG 14 (fun K hK=> ?_);go_simp;go_wp2_with (go_at_call 57;(with_reducible refine (kq.out).mono ?_);rintro _ v1 ⟨rfl,ai⟩;have H1:=ai.cell H0 zq;have D1:=ai.cell D0 zq;have I1:=ai.cell I0 zq;have J1:=ai.cell J0 zq;have F1:=F0.trans ai zr);refine hK.out _ _ ⟨H1,D1,I1,J1⟩ (fun hZ=> ?_);clear hZ hK K;try simp only [Ag,List.set]
      refine tkH 15 ⟨H1,D1,I1,J1⟩ (h:=tkH 16 ⟨H1,D1,I1,J1⟩ (h:=?_));simp only [List.set];refine oD ?_;go_simp;have fz:=hf.trans F1 zr;have oz:=aa.fr F1 zr;clear kq aa hf ac ab;go_wp2_with (fail);go_roundw
      case rel=>exact ⟨j+1,by go_num,by rw [ad.out],by omega,oz,fz⟩
      case measure=>simp [intOf];omega
     case true=>
      rw [Bool.true_or] at ad;replace ad:=Lib.hid ad;go_upto_region 9 with (fail)
      refine wp_region_held_drew (S:=fun w'=>w'.cell? ⟨w.heap.size,3,none⟩=some (.slice (some ⟨b2,o2,none⟩) N PC)∧w'.cell? ⟨b2,o2+y,none⟩=some (.slice A2 xs.length c2)∧w'.cell? ⟨b4,o4+j,none⟩=some (.int .i64 (y:Int))∧w'.cell? ⟨b4,o4+i,none⟩=some (.int .i64 (x:Int))) (by kernel_rfl) ⟨H0,D0,I0,J0⟩ (fun hHeld=> ?_);clear hHeld;refine tkH 0 ⟨H0,D0,I0,J0⟩ (h:=tkH 1 ⟨H0,D0,I0,J0⟩ (h:=skH 2 ⟨H0,D0,I0,J0⟩ (h:=skH 3 ⟨H0,D0,I0,J0⟩ (h:=skH 4 ⟨H0,D0,I0,J0⟩ (h:=skH 5 ⟨H0,D0,I0,J0⟩ (h:=skH 6 ⟨H0,D0,I0,J0⟩ (h:=skH 7 ⟨H0,D0,I0,J0⟩ (h:=skH 8 ⟨H0,D0,I0,J0⟩ (h:=skH 9 ⟨H0,D0,I0,J0⟩ (h:=skH 10 ⟨H0,D0,I0,J0⟩ (h:=skH 11 ⟨H0,D0,I0,J0⟩ (h:=?_))))))))))));simp only [List.set];refine skH 12 ⟨H0,D0,I0,J0⟩ (h:=skH 13 ⟨H0,D0,I0,J0⟩ (h:=skH 14 ⟨H0,D0,I0,J0⟩ (h:=tkH 15 ⟨H0,D0,I0,J0⟩ (h:=tkH 16 ⟨H0,D0,I0,J0⟩ (h:=?_)))));simp only [List.set];refine oD ?_;go_simp;have fz:=hf.trans F0 zr;have oz:=aa.fr F0 zr;clear kq aa hf ac ab;go_wp2_with (fail);go_roundw
      case rel=>exact ⟨j+1,by go_num,by rw [ad.out],by omega,oz,fz⟩
      case measure=>simp [intOf];omega
    ·
     obtain rfl:j=n:=by omega
     have u0:decide ((j:Int)<j)=false:=decide_eq_false (by omega);have a3:decide (j<j)=false:=decide_eq_false (by omega);clear ag al;obtain ⟨bj,ab⟩:=Aa (BB j);rw [ab.out] at af ⊢
     cases bj
     case true=>
      rw [if_pos rfl] at af;go_wp2_with (fail);go_roundw
      case rel=>exact ⟨i+1,Ax,cx,ys,by go_num,rfl,by omega,af.out.symm,aa,hf⟩
      case measure=>simp [intOf];omega
     case false=>
      rw [if_neg (by simp)] at af;have a0:=aa.row;have bl:=hf.size;have bF:=Blk.new wr 3 #[.int .i64 (x:Int)];go_wp2_with (at_builtin;go_loud (refine Au (base:=w0.heap.size) (.tmp 45) (.tmp 50) 22 rfl rfl rfl rfl E7 (aa.alloc (.cells #[.int .i64 (x:Int)] 3)) (Rd.blk (n:=1) (size:=1) bF rfl) (by simp [Value.oneCell']) (by omega) (by omega) (by rw [Ag8];omega) ?_);intro A8 c8 w8 aw a8 a6);have f8:Fr Non w0 w8:=(hf.alloc (.cells #[.int .i64 (x:Int)] 3)).trans a8 (fun j hj e=>by have:=(a0 j e).1;omega)
      have au:Own w8 w0.heap.size 3 1 A8 (ys++[x]).length c8 ((ys++[x]).map Qv):=by
       rw [Af9,Ag0];exact aw
      go_roundw
      case rel=>exact ⟨i+1,A8,c8,ys++[x],by go_num,by rw [Af9];rfl,by omega,af.out.symm,au,f8⟩
      case measure=>simp [intOf];omega
  ·
   obtain rfl:i=n:=by omega
   have u0:decide ((i:Int)<i)=false:=decide_eq_false (by omega);have a3:decide (i<i)=false:=decide_eq_false (by omega);obtain rfl:ys=HS:=by rw [az.out,be.out]
   have hd:=Lib.hid (ah.out Ax cx wr (Fh aa (by omega)) ac);clear ah aa;go_wp2_with (fail);exact hd.out
end Oq
end
section
open Go.RowKit
namespace Oq
theorem Aa8 {x:OpL} {w:World} {base:Nat} (h:x.lies w base) (R S:Nat):({x with r:=R,s:=S}:OpL).lies w base:=⟨h.past,h.path,h.nodes,h.body,h.refs,h.guards,h.boxes,h.hist,h.seals⟩
def Aa9 (o:Op) (base:Nat) (w:World) (e:Ending) (w':World):Prop:=∃y:OpL,e=.returned (.agg y.cells)∧y.op=sgn o∧y.lies w' base∧Fr Non w w'
theorem Ab0 (x:OpL) (d base:Nat) (w:World) (hd:x.by_=(d:Int)) (hd':d≤1000) (ho:x.lies w base) (hok:x.op.ok):
  Calls Tryz.prog 56 #[.agg x.cells] w (Aa9 x.op base w):=by
 have h:=Uz x d w (by rw [hd,IntKind.wrap_u64];omega) (by omega) ho.at hok;refine Calls.mono h ?_;rintro r w' ⟨h1,h2⟩;exact ⟨_,h1,Y7 x x.op rfl d (by show x.by_.toNat=d;omega) _ rfl,Aa8 (ho.non h2) _ _,h2⟩
def B4 (l:List Pn) (b:Int) (ys:List Nat):Nat→Int
 |0=>1
 |k+1=>match ys[k]? with
  |some p=>match l[p]? with
   |some n=>if n.o.by_=b then max (B4 l b ys k) (n.o.sq+1) else B4 l b ys k
   |none=>B4 l b ys k
  |none=>B4 l b ys k
theorem Qy {l:List Pn} {b:Int} {ys:List Nat} {k p:Nat} {n:Pn} (hp:ys[k]? =some p) (hn:l[p]? =some n):B4 l b ys (k+1)=if n.o.by_=b then max (B4 l b ys k) (n.o.sq+1) else B4 l b ys k:=by
 conv=>lhs;unfold B4
 rw [hp];dsimp only;rw [hn]
theorem Lc {l:List Pn} {b m:Int} {ys:List Nat} (h1:1≤m) (h:∀p∈ys,∀n,l[p]? =some n→n.o.by_=b→n.o.sq+1≤m):∀k,B4 l b ys k≤m
 |0=>h1
 |k+1=>by
  have ih:=Lc (l:=l) (b:=b) h1 h k;unfold B4
  split
  ·
   rename_i p hp
   split
   ·
    rename_i n hn
    split
    ·
     rename_i hb;exact Int.max_le.2 ⟨ih,h p (Ag2 hp) n hn hb⟩
    · exact ih
   · exact ih
  · exact ih
theorem Ld (l:List Pn) (b:Int) (ys:List Nat):∀k,1≤B4 l b ys k
 |0=>Int.le_refl _
 |k+1=>by
  have ih:=Ld l b ys k;unfold B4
  split
  ·
   split
   ·
    split
    · exact Int.le_trans ih (Int.le_max_left _ _)
    · exact ih
   · exact ih
  · exact ih
theorem Qz {l:List Pn} {b:Int} {ys:List Nat} {p:Nat} {n:Pn} (hn:l[p]? =some n) (hb:n.o.by_=b):∀(k j:Nat),j<k→ys[j]? =some p→n.o.sq+1≤B4 l b ys k
 |0,j,h,_=>absurd h (Nat.not_lt_zero j)
 |k+1,j,h,hj=>by
  rcases Ah7 j k with hjk|hjk
  ·
   have ih:=Qz (l:=l) (b:=b) (ys:=ys) hn hb k j hjk hj;unfold B4
   split
   ·
    split
    ·
     split
     · exact Int.le_trans ih (Int.le_max_left _ _)
     · exact ih
    · exact ih
   · exact ih
  ·
   obtain rfl:j=k:=by omega
   rw [Qy hj hn,if_pos hb];exact Int.le_max_right _ _
theorem Q4 {cards:List Cd} {l:List Pn} (h:Rows cards l) (hf:l.length≤200) {hs ys:List Nat} (hb:Ej l hs ys) (hlt:∀p∈hs,p<l.length) (q:Nat):q∈ys↔Ad l (hs.map (nmP l)) q=true:=by
 have hat:∀p∈hs,∃n,l[p]? =some n∧nmP l p=n.id∧plc l (nmP l p)=some p:=fun p hp=>by
  have hn:=Af8 (hlt p hp);exact ⟨_,hn,Dw hn,by rw [Dw hn];exact (h.ok p _ hn).plc⟩
 rw [hb.2 q];unfold Ad Bn Cc upB;rw [Bool.and_eq_true,Bool.or_eq_true,decide_eq_true_eq,Ai8,Ai8];constructor
 ·
  rintro (hq|⟨p,hp,hi⟩)
  ·
   obtain ⟨n,_,_,h3⟩:=hat q hq;have:=hlt q hq;exact ⟨by omega,.inr ⟨_,List.mem_map.2 ⟨q,hq,rfl⟩,by rw [h3];exact beq_self_eq_true _⟩⟩
  ·
   obtain ⟨n,h1,_,h3⟩:=hat p hp;have h4:n.ps q=true:=by rw [← Fy h1];exact hi
   have h5:=(h.ok p n h1).lt q h4;have h6:=hlt p hp;refine ⟨by omega,.inl ⟨_,List.mem_map.2 ⟨p,hp,rfl⟩,?_⟩⟩;rw [h3];dsimp only;rw [h1];exact h4
 ·
  rintro ⟨_,⟨x,hx,hq⟩|⟨x,hx,hq⟩⟩
  ·
   obtain ⟨p,hp,rfl⟩:=List.mem_map.1 hx;obtain ⟨n,h1,_,h3⟩:=hat p hp;rw [h3] at hq;dsimp only at hq;rw [h1] at hq;exact .inr ⟨p,hp,by rw [Fy h1];exact hq⟩
  ·
   obtain ⟨p,hp,rfl⟩:=List.mem_map.1 hx;obtain ⟨n,h1,_,h3⟩:=hat p hp;rw [h3,beq_iff_eq] at hq;injection hq with hq
   exact .inl (hq▸hp)
theorem Ab1 {cards:List Cd} {l:List Pn} (h:Rows cards l) (hf:l.length≤200) {hs ys:List Nat} (hb:Ej l hs ys) (hlt:∀p∈hs,p<l.length) (b:Int):B4 l b ys ys.length=Aj l (Ad l (hs.map (nmP l))) b l.length+1:=by
 have hp:=Q4 h hf hb hlt;refine Int.le_antisymm (Lc (by have:=Is l (Ad l (hs.map (nmP l))) b l.length;omega) (fun p hpy n hn hnb=> ?_) _) ?_
 ·
  have:=Kd (List.getElem?_eq_some_iff.1 hn).1 hn hnb ((hp p).1 hpy);omega
 ·
  rcases Int.lt_or_le 0 (Aj l (Ad l (hs.map (nmP l))) b l.length) with h0|h0
  ·
   obtain ⟨k,m,_,h2,h3,h4,h5⟩:=Kw l.length h0;obtain ⟨j,hj⟩:=List.getElem?_of_mem ((hp k).2 h4);have:=Qz h2 h3 ys.length j (List.getElem?_eq_some_iff.1 hj).1 hj;omega
  ·
   have:=Ld l b ys ys.length;omega
def Bd (l:List Pn) (o:Op) (hs:List Nat):Op:={o with sq:=Aj l (Ad l (hs.map (nmP l))) o.by_ l.length+1,at_:=o.at_+late l (hs.map (nmP l)),past:=Ak (hs.map (nmP l))}
def C8 (l:List Pn) (o:Op) (hs:List Nat):List Pn:=if (plc l (Bd l o hs).name).isSome=true then l else l++[Aq l (sgn (Bd l o hs))]
theorem Ab2 (l:List Pn) (x:Id):Ca (l.map Pn.id) x=(plc l x).isSome:=by
 rw [Ah1,E8,List.mem_map];constructor
 ·
  rintro ⟨n,h1,h2⟩
  cases hp:plc l x with
  |some p=>rfl
  |none=>
   unfold plc at hp;rw [List.findIdx?_eq_none_iff] at hp;have:=hp n h1;rw [h2] at this
   first|exact absurd this (by simp)|(simp at this)
 ·
  intro h;obtain ⟨p,hp⟩:=Option.isSome_iff_exists.1 h;obtain ⟨n,h1,h2⟩:=Bm hp;exact ⟨n,Ag2 h1,h2⟩
def OpL.put (x:OpL) (s a:Int) (A:Option Addr) (c:Nat) (ps:List Id):OpL:={x with sq:=s,at_:=a,pastA:=A,pastC:=c,past:=ps}
theorem OpL.lies.put {w:World} {base c:Nat} {x:OpL} {s a:Int} {A:Option Addr} {ps:List Id} (h:x.lies w base) (ho:RowLies w base 41 3 A ps.length c (ps.flatMap Id.cells)):(x.put s a A c ps).lies w base:=
 ⟨ho,h.path,h.nodes,h.body,h.refs,h.guards,h.boxes,h.hist,h.seals⟩
theorem Q5 {w:World} {g:Nat} (cs:Array Value):Fr (One g) w (w.setRow g cs):=(Fr.refl (One g) w).setRow (fun _=>rfl) cs
theorem FG.own.setG {w:World} {base gv:Nat} {r:FG} {cs:Array Value} (h:r.own w base) (hb:Blk w gv 28 cs) (cs':Array Value):r.own (w.setRow gv cs') base:=
 h.keepP (Q5 cs') (Types.one hb) (by decide) (by decide) (by decide) (by decide) (by decide) (by decide) (by decide) (by decide) (by decide) (by decide)
theorem Le (l0:List Int) (i:Nat):Cj l0 i≤1000000:=by
 unfold Cj
 split
 ·
  rename_i q _;have:=Lx (n:=q) (m:=1000000) (by omega);omega
 · omega
structure Bg (w v:World) (CS:Array Value) (x:OpL) (s a:Int) (A:Option Addr) (n c:Nat) (ps:List Id):Prop where
 g:Blk v w.heap.size 28 CS
 b:Blk v (w.heap.size+1) 67 (x.put s a A c ps).cells
 r:Blk v (w.heap.size+2) 28 #[.slice none 0 0,.slice none 0 0,.slice none 0 0,.slice none 0 0]
 f:Fr Non w v
 sz:w.heap.size+3≤v.heap.size
 past:Own v (w.heap.size+3) 41 3 A n c (ps.flatMap Id.cells)
 len:ps.length=n
theorem Bg.over {S:Nat→Prop} {w v v':World} {CS:Array Value} {x:OpL} {s a:Int} {A:Option Addr} {n c:Nat} {ps:List Id} (h:Bg w v CS x s a A n c ps) (hf:Fr S v v') (hS:∀k,S k→w.heap.size+3≤k) (ho:Own v' (w.heap.size+3) 41 3 A n c (ps.flatMap Id.cells)):Bg w v' CS x s a A n c ps where
 g:=h.g.fr hf (fun e=>by have:=hS _ e;omega)
 b:=h.b.fr hf (fun e=>by have:=hS _ e;omega)
 r:=h.r.fr hf (fun e=>by have:=hS _ e;omega)
 f:=h.f.trans hf (fun k hk e=>by have:=hS _ e;omega)
 sz:=Ag6 h.sz hf.size
 past:=ho
 len:=h.len
theorem Bg.non {w v v':World} {CS:Array Value} {x:OpL} {s a:Int} {A:Option Addr} {n c:Nat} {ps:List Id} (h:Bg w v CS x s a A n c ps) (hf:Fr Non v v'):Bg w v' CS x s a A n c ps:=
 h.over hf (fun _ e=>e.elim) (h.past.fr hf zr)
theorem Bg.setB {w v:World} {CS:Array Value} {x:OpL} {s a s' a':Int} {A:Option Addr} {n c:Nat} {ps:List Id} (h:Bg w v CS x s a A n c ps) (j:Nat) (u:Value) (hc:(x.put s a A c ps).cells.setIfInBounds j u=(x.put s' a' A c ps).cells):Bg w (v.setCell ⟨w.heap.size+1,j,none⟩ u) CS x s' a' A n c ps where
 g:=h.g.far (p:=⟨w.heap.size+1,j,none⟩) (by show w.heap.size≠w.heap.size+1;omega) u
 b:=hc▸h.b.set j u
 r:=h.r.far (p:=⟨w.heap.size+1,j,none⟩) (by show w.heap.size+2≠w.heap.size+1;omega) u
 f:=h.f.setNew (g:=w.heap.size+1) (by omega) j u
 sz:=by have:=h.sz;first|exact this|(simp [Ah8];omega)
 past:=Own.setFar h.past h.b (by decide) u
 len:=h.len
theorem Bg.sq {w v:World} {CS:Array Value} {x:OpL} {s a:Int} {A:Option Addr} {n c:Nat} {ps:List Id} (h:Bg w v CS x s a A n c ps) (s':Int):Bg w (v.setCell ⟨w.heap.size+1,1,none⟩ (.int .i64 s')) CS x s' a A n c ps:=h.setB 1 _ rfl
theorem Bg.at_ {w v:World} {CS:Array Value} {x:OpL} {s a:Int} {A:Option Addr} {n c:Nat} {ps:List Id} (h:Bg w v CS x s a A n c ps) (a':Int):Bg w (v.setCell ⟨w.heap.size+1,3,none⟩ (.int .i64 a')) CS x s a' A n c ps:=h.setB 3 _ rfl
theorem Bg.past! {S:Nat→Prop} {w v v':World} {CS:Array Value} {x:OpL} {s a:Int} {A A':Option Addr} {n c n' c':Nat} {ps ps':List Id} (h:Bg w v CS x s a A n c ps) (hf:Fr S v v') (hS:∀k,S k→w.heap.size+3≤k) (ho:Own v' (w.heap.size+3) 41 3 A' n' c' (ps'.flatMap Id.cells)) (hl:ps'.length=n'):Bg w (v'.setCell ⟨w.heap.size+1,4,none⟩ (.slice A' n' c')) CS x s a A' n' c' ps':=by
 have g:=h.g.fr hf (fun e=>by have:=hS _ e;omega);have b:=h.b.fr hf (fun e=>by have:=hS _ e;omega);have r:=h.r.fr hf (fun e=>by have:=hS _ e;omega);have f:=h.f.trans hf (fun k hk e=>by have:=hS _ e;omega);have sz:=Ag6 h.sz hf.size;refine ⟨g.far (p:=⟨w.heap.size+1,4,none⟩) (by show w.heap.size≠w.heap.size+1;omega) _,?_,r.far (p:=⟨w.heap.size+1,4,none⟩) (by show w.heap.size+2≠w.heap.size+1;omega) _,f.setNew (g:=w.heap.size+1) (by omega) 4 _,?_,Own.setFar ho b (by decide) _,hl⟩
 ·
  subst hl;exact b.set 4 (.slice A' ps'.length c')
 · first|exact sz|(simp [Ah8];omega)
def FG.more (r:FG) (x:OpL) (lA:Option Addr) (lC:Nat) (iA:Option Addr) (iC:Nat) (pA:Option Addr) (pC:Nat) (u:UpL):FG:=
 {cA:=r.cA,cC:=r.cC,cards:=r.cards,lA:=lA,lC:=lC,xs:=r.xs++[x],iA:=iA,iC:=iC,pA:=pA,pC:=pC,ps:=r.ps++[u],l:=r.l++[Aq r.l x.op]}
theorem Ab3 {w wz:World} {base:Nat} {r:FG} {x:OpL} {lA iA pA:Option Addr} {lC iC pC:Nat} {u:UpL} (h:r.own w base) (hx:x.lies wz base) (hok:x.op.ok) (hf:Fr Non w wz) (hb:base≤w.heap.size+3) (he:An r.cards r.l x.op=0) (hB:FkB (r.l++[Aq r.l x.op]))
  (oL:Own wz (w.heap.size+3) 67 27 lA (r.l.length+1) lC (r.xs.flatMap (fun x=>x.cells.toList)++x.cells.toList))
  (oI:Own wz (w.heap.size+3) 41 3 iA (r.l.length+1) iC (r.ids.flatMap Id.cells++x.op.name.cells))
  (oU:Own wz (w.heap.size+3) 22 1 pA (r.l.length+1) pC (r.ps.map UpL.cell++[u.cell])) (ou:u.own wz base) (hu:K4 (Aq r.l x.op) u.xs):
  (r.more x lA lC iA iC pA pC u).own wz base:=by
 have hlen:(r.l++[Aq r.l x.op]).length=r.l.length+1:=by rw [Af9];rfl
 refine ⟨h.cards.non hf,?_,?_,?_,?_,?_,?_,?_,?_,?_,Rows.snoc r.l x.op h.rows he,hB,h.cfew,h.cok⟩
 ·
  show RowAt wz base 67 27 lA (r.l++[Aq r.l x.op]).length lC ((r.xs++[x]).flatMap (fun x=>x.cells.toList));rw [hlen,Ah9,Ai9,Aj0,List.append_nil];exact (RowAt.of_own oL).lower hb
 ·
  intro y hy
  rcases List.mem_append.1 hy with h1|h1
  · exact (h.each y h1).non hf
  ·
   rw [Ag5] at h1;rw [h1];exact hx
 ·
  show (r.xs++[x]).map OpL.op=(r.l++[Aq r.l x.op]).map Pn.o;rw [Ag0,Ag0,h.same];rfl
 ·
  intro n hn'
  rcases List.mem_append.1 hn' with h1|h1
  · exact h.ok n h1
  ·
   rw [Ag5] at h1;rw [h1,Gt,Qc];exact ⟨hok,Ko hok⟩
 ·
  show RowAt wz base 41 3 iA (r.l++[Aq r.l x.op]).length iC (((r.l++[Aq r.l x.op]).map Pn.id).flatMap Id.cells);rw [hlen,Ag0,Ah9,Ai0,Ai1,Ai9,Aj0,List.append_nil,Qc];exact (RowAt.of_own oI).lower hb
 ·
  show RowAt wz base 22 1 pA (r.l++[Aq r.l x.op]).length pC ((r.ps++[u]).map UpL.cell);rw [hlen,Ag0];exact (RowAt.of_own oU).lower hb
 ·
  intro y hy
  rcases List.mem_append.1 hy with h1|h1
  · exact RowAt.non (h.eachP y h1) hf
  ·
   rw [Ag5] at h1;rw [h1];exact ou
 ·
  show (r.ps++[u]).length=(r.l++[Aq r.l x.op]).length;rw [Af9,Af9,h.lenP];rfl
 ·
  intro i y n hy hn;replace hy:(r.ps++[u])[i]? =some y:=hy;replace hn:(r.l++[Aq r.l x.op])[i]? =some n:=hn
  rcases Ah7 i r.l.length with hi|hi
  ·
   rw [Ai2 (by rw [h.lenP];exact hi)] at hy;rw [Ai2 hi] at hn;exact h.sameP i y n hy hn
  ·
   have hi2:=(List.getElem?_eq_some_iff.1 hn).1;rw [hlen] at hi2;obtain rfl:i=r.l.length:=by omega
   rw [Ai3 (by rw [h.lenP];exact Ag4 _),h.lenP,Nat.sub_self] at hy;rw [Ai3 (Ag4 _),Nat.sub_self] at hn;injection hy with hy
   injection hn with hn
   rw [← hy,← hn];exact hu
def Q6 (t:TypeId) (len:Nat) (parts:Array (Nat × Value)):=Instr.buildSlice t len parts
theorem Ab4 (n:Nat) (p:Array (Nat × Value)):Instr.buildSlice 24 n p=Q6 24 n p:=rfl
theorem Ab5 (x:OpL) (w:World):(Q6 24 1 #[(0,.agg x.cells)]).run Tryz.prog w=.ok (.slice (some ⟨w.heap.size,0,none⟩) 1 1) (w.alloc (.cells x.cells 67)):=by
 obtain ⟨ht,hinfo,_⟩:=Kr;obtain ⟨i,hi,hz,hs,_⟩:=info_parts hinfo;exact run_buildSlice w 24 67 1 _ _ i _ ht hi hz (by rw [hs];decide) (by rw [hs];decide) (by rw [hs];kernel_rfl)
theorem Ab6 {P:Program} {Q:Exit→Act→World→Prop} {l:List Oper} {md:Region.Mode} {S:World→Prop} {g fuel:Nat} {listed:Array Bool} {a:Act} {w:World} (i j:Nat) {d:Option Tmp} {op:Go.Op} {ty:TypeId} {pos:String} {after:Array Edge} {d':Option Tmp} {op':Go.Op} {ty':TypeId} {pos':String} {after':Array Edge}
  (hr:Region.ready md l.toArray listed=[i,j]) (ho:l[i]? =some ⟨d,op,ty,pos,after,none⟩) (ho':l[j]? =some ⟨d',op',ty',pos',after',none⟩)
  (h:∀K':Act→World→Prop,Shut (∀a w,S w→(S w→Cq P md l.toArray Q S g fuel (listed.setIfInBounds i true) a w)→K' a w)→Oper.wp P ⟨d,op,ty,pos,after,none⟩ a w K' Q)
  (h':∀K':Act→World→Prop,Shut (∀a w,S w→(S w→Cq P md l.toArray Q S g fuel (listed.setIfInBounds j true) a w)→K' a w)→Oper.wp P ⟨d',op',ty',pos',after',none⟩ a w K' Q):
  Cq P md l.toArray Q S g (fuel+1) listed a w:=by
 refine ⟨fun h0=>(by rw [hr] at h0;cases h0),fun k hk=> ?_⟩;rw [hr] at hk
 rcases List.mem_cons.1 hk with rfl|hk
 ·
  refine wpOp_step (o:=⟨d,op,ty,pos,after,none⟩) (by rw [Aj1];exact ho) (fun K' hK=> ?_);rw [if_pos (show Region.wanted _ _=true from rfl)];exact h K' (fun a w hS hW=>hK a w ⟨fun _=>hS,hW hS⟩)
 ·
  obtain rfl:=List.mem_singleton.1 hk;refine wpOp_step (o:=⟨d',op',ty',pos',after',none⟩) (by rw [Aj1];exact ho') (fun K' hK=> ?_);rw [if_pos (show Region.wanted _ _=true from rfl)];exact h' K' (fun a w hS hW=>hK a w ⟨fun _=>hS,hW hS⟩)
theorem Ek (r:FG):r.cells.all (·.oneCell')=true:=by unfold FG.cells;simp [Value.oneCell']
theorem Q7 (x:OpL):∀u∈x.cells.toList,u.oneCell'=true:=by
 intro u hu;have h:=Hp x;rw [Array.all_eq_true'] at h;exact h u (Array.mem_toList_iff.1 hu)
theorem Ab7 (l:List OpL):∀u∈l.flatMap (fun x=>x.cells.toList),u.oneCell'=true:=by
 intro u hu;obtain ⟨x,_,hx⟩:=List.mem_flatMap.1 hu;exact Q7 x u hx
theorem Ab8 (l:List UpL):∀u∈l.map UpL.cell,u.oneCell'=true:=by
 intro u hu;obtain ⟨x,_,rfl⟩:=List.mem_map.1 hu;rfl
theorem Bg.setG {w v:World} {CS:Array Value} {x:OpL} {s a:Int} {A:Option Addr} {n c:Nat} {ps:List Id} (h:Bg w v CS x s a A n c ps) (j:Nat) (u:Value):Bg w (v.setCell ⟨w.heap.size,j,none⟩ u) (CS.setIfInBounds j u) x s a A n c ps where
 g:=h.g.set j u
 b:=h.b.far (p:=⟨w.heap.size,j,none⟩) (by show w.heap.size+1≠w.heap.size;omega) u
 r:=h.r.far (p:=⟨w.heap.size,j,none⟩) (by show w.heap.size+2≠w.heap.size;omega) u
 f:=h.f.setNew (g:=w.heap.size) (by omega) j u
 sz:=by have:=h.sz;first|exact this|(simp [Ah8];omega)
 past:=Own.setFar h.past h.g (by decide) u
 len:=h.len
theorem OpL.lies.setG {v:World} {base:Nat} {z:OpL} {g:Nat} {cs:Array Value} (h:z.lies v base) (hb:Blk v g 28 cs) (j:Nat) (u:Value):z.lies (v.setCell ⟨g,j,none⟩ u) base:=
 h.keepP ((Fr.refl (One g) v).setOne j u) (Types.one hb) (by decide) (by decide) (by decide) (by decide) (by decide) (by decide) (by decide)
def Fi (base:Nat) (r:FG) (o:Op) (hs:List Nat) (w:World) (e:Ending) (w':World):Prop:=
 ∃r':FG,e=.returned (.agg r'.cells)∧Fr Non w w'∧r'.own w' base∧r'.cards=r.cards∧r'.l=C8 r.l o hs
theorem Ab9 {w wz:World} {base:Nat} {r:FG} {o:Op} {hs ys:List Nat} {z:OpL} {lA iA pA A7:Option Addr} {lC iC pC c7 N M:Nat} (h:r.own w base) (hb:base≤w.heap.size) (hf:Fr Non w wz) (hz:z.op=sgn (Bd r.l o hs)) (hzl:z.lies wz base) (hok:(Bd r.l o hs).ok) (hbh:Ej r.l hs ys) (hlt:∀p∈hs,p<r.l.length)
  (hpl:(plc r.l (Bd r.l o hs).name).isSome=false) (he:An r.cards r.l (sgn (Bd r.l o hs))=0) (hB:FkB (r.l++[Aq r.l (sgn (Bd r.l o hs))])) (hN:r.l.length=N) (hM:ys.length=M)
  (oL:Own wz (w.heap.size+3) 67 27 lA (N+1) lC (r.xs.flatMap (fun x=>x.cells.toList)++z.cells.toList))
  (oI:Own wz (w.heap.size+3) 41 3 iA (N+1) iC (r.ids.flatMap Id.cells++(Bd r.l o hs).name.cells))
  (oU:Own wz (w.heap.size+3) 22 1 pA (N+1) pC (r.ps.map UpL.cell++[.slice A7 M c7]))
  (o7:Own wz (w.heap.size+3) 3 1 A7 M c7 (ys.map Qv)):
  Fi base r o hs w (.returned (.agg #[.slice r.cA r.cards.length r.cC,.slice lA (N+1) lC,.slice iA (N+1) iC,.slice pA (N+1) pC])) wz:=by
 subst hN;subst hM;have hlen:(r.l++[Aq r.l z.op]).length=r.l.length+1:=by rw [Af9];rfl
 refine ⟨r.more z lA lC iA iC pA pC ⟨A7,c7,ys⟩,?_,hf,Ab3 h hzl (by rw [hz];exact Zi hok) hf (by omega) (by rw [hz];exact he) (by rw [hz];exact hB) oL (by rw [hz,Yx];exact oI) oU ((RowAt.of_own o7).lower (by omega)) ⟨hbh.1,fun q=> ?_⟩,rfl,?_⟩
 ·
  show Ending.returned (.agg #[.slice r.cA r.cards.length r.cC,.slice lA (r.l.length+1) lC,.slice iA (r.l.length+1) iC,.slice pA (r.l.length+1) pC])=Ending.returned (.agg #[.slice r.cA r.cards.length r.cC,.slice lA (r.l++[Aq r.l z.op]).length lC,.slice iA (r.l++[Aq r.l z.op]).length iC,.slice pA (r.l++[Aq r.l z.op]).length pC]);rw [hlen]
 ·
  show q∈ys↔Ad r.l z.op.past q=true;rw [hz,Y4];show q∈ys↔Ad r.l (Ak (hs.map (nmP r.l))) q=true;rw [Ql (Cg _)];exact Q4 h.rows (by have:=h.num.few;omega) hbh hlt q
 ·
  show r.l++[Aq r.l z.op]=C8 r.l o hs;unfold C8;rw [hpl,if_neg Bool.false_ne_true,hz]
end Oq
end
section
open Go.RowKit
attribute [local go_sem ↓] Go.wp_at_zero Go.wp_at_succ
namespace Oq
attribute [local go_sem] Ah3 Ah4
attribute [local go_sem ↓] Fg
def E1 {α:Type} (ys:List α) (a:Nat):List α:=ys.drop a++ys.take a
theorem Q8 {α:Type} (ys:List α) (a:Nat):(E1 ys a).Perm ys:=by
 unfold E1;have h:=List.perm_append_comm (l₁:=ys.drop a) (l₂:=ys.take a);rwa [List.take_append_drop] at h
theorem Ac0 {α:Type} (ys:List α) {a i:Nat} (ha:a<ys.length) (hi:i<ys.length):(E1 ys a)[i]? =ys[(i+a)%ys.length]? :=by
 unfold E1;have hd:(ys.drop a).length=ys.length-a:=List.length_drop
 rcases Ah7 i (ys.length-a) with h|h
 · rw [Ai2 (by omega),List.getElem?_drop,Nat.mod_eq_of_lt (by omega),Nat.add_comm]
 ·
  rw [Ai3 (by omega),hd,List.getElem?_take_of_lt (by omega)];congr 1;rw [Nat.mod_eq_sub_mod (by omega),Nat.mod_eq_of_lt (by omega)];omega
def Lf (l:List Pn) (w:World) (e:Ending) (w':World):Prop:=∃(on ys:List Nat) (ns:List Id) (A:Option Addr) (c:Nat),e=.returned (.slice A ns.length c)∧Ej l on ys∧(∀q∈ys,q<l.length)∧on≠[]∧ns.Perm (ys.map (nmP l))∧Own w' w.heap.size 41 3 A ns.length c (ns.flatMap Id.cells)∧Fr Non w w'
theorem Q9 (base B n c:Nat) (A:Option Addr) (l0:List Int) (r:FG) (w:World) (h:r.own w base) (hne:r.l≠[]) (hn:Hid (l0.length=n)) (hr:Rd w B 1 A n (l0.map Iv)) (hnm:n≤9223372036854775807) (hok:∀x∈l0,I64 x):
  Calls Tryz.prog 11 #[.agg r.cells,.slice A n c] w (Lf r.l w):=by
 have a9:=h.num.few;have bg:=Blk.new w 28 r.cells;have f0:Fr Non w (w.alloc (.cells r.cells 28)):=(Fr.refl Non w).alloc _;have g1:Hid (r.cells[1]? =some (.slice r.lA r.l.length r.lC)):=rfl;have g2:Hid (r.cells[2]? =some (.slice r.iA r.l.length r.iC)):=rfl;have bo:0<r.l.length:=List.length_pos_iff.2 hne;have bb:=Lib.hid (fun (v:World) (i:Nat) (hv:Fr Non w v) (hi:i≤1000)=>K9 B n c i A l0 v hn (hr.fr hv zr) hok hnm hi);have az:Hid (∀v,Fr Non w v→Calls Tryz.prog 30 #[.slice A n c,.int .i64 0] v fun e w'=>e=.returned (.int .i64 (Cj l0 0:Int))∧Fr Non v w'):=fun v hv=>bb.out v 0 hv (by omega);have kb:=Lib.hid (fun (v:World) (A':Option Addr) (c':Nat) (on:List Nat) (hf:Fr Non w v) (ho:Rd v v.heap.size 1 A' 3 (on.map Qv)) (h3:on.length=3) (hlt:∀p∈on,p<r.l.length)=>Qx base v.heap.size 3 c' r A' on v (h.non hf) h3 ho (by omega) hlt);have ah:Hid (∀p,p<r.l.length→∃(m:Pn) (b off:Nat),r.l[p]? =some m∧r.iA=some ⟨b,off,none⟩∧w.cell? ⟨b,off+p*3,none⟩=some (.int .i64 m.id.b)∧w.cell? ⟨b,off+p*3+1,none⟩=some (.int .i64 m.id.s)∧w.cell? ⟨b,off+p*3+2,none⟩=some (.int .u64 (m.id.u:Int))):=fun p hp=>h.idAt hp;have hl:=Cf (P:=Tryz.prog) w.heap.size 28 Tryz.underlying28 rfl (cs:=r.cells) Bp;have bk:=Lib.hid (Le l0);clear h hr hok;obtain ⟨L,hL⟩:=Aa r.l.length;rw [hL.out] at g1 g2 a9 bo ah;have b4:((L:Int)==0)=false:=beq_eq_false_iff_ne.2 (by omega);have b5:¬(L:Int)=0:=by omega
 have b2:¬L=0:=by omega
 go_enter Tryz.func11,Tryz.ntmps11;go_upto_region 1 with (fail)
 have b9:=f0.size;generalize w.alloc (.cells r.cells 28)=w0 at*;have b1:w.heap.size+1≤w0.heap.size:=bg.lt;go_wp2_with (fail)
 go_loopw [5,6] (fun s v wr=>∃(i:Nat) (Ax:Option Addr) (cx:Nat) (on:List Nat),v=.int .i64 (i:Int)∧s=.slice Ax i cx∧i≤3∧Hid (on.length=i)∧Hid (∀p∈on,p<L)∧Own wr w0.heap.size 3 1 Ax i cx (on.map Qv)∧Fr Non w0 wr) (fun _ v _=>3-(intOf v).toNat)
 case atStart=>exact ⟨0,none,0,[],rfl,rfl,by omega,rfl,fun _ hp=>absurd hp Ag3,Own.nil _ _ _ _,Fr.refl _ _⟩
 case round=>
  obtain ⟨i,Ax,cx,on,rfl,rfl,hi,aq,ap,aa,hf⟩:=hrel;have af:Fr Non w wr:=f0.trans hf zr
  by_cases hi3:i<3
  ·
   have t0:decide ((i:Int)<3)=true:=decide_eq_true (by omega);have e1:IntKind.i64.wrap ((i:Int)+1)=(i:Int)+1:=IntWalk.i64_in _ (by omega);have kq:=Lib.hid (bb.out wr.drew i af.drew (by omega));have a2:=bk.out i;obtain ⟨a,ha⟩:=Aa (Cj l0 i);rw [ha.out] at kq a2;obtain ⟨P,hP⟩:=Aa (a%L);have bw:P<L:=by rw [← hP.out];exact Ai4 _ bo
   have aj:(a:Int)%(L:Int)=(P:Int):=by rw [← hP.out];rfl
   have bh:(a:Int).tmod (L:Int)=(P:Int):=by rw [Aj2 (by omega)];exact aj
   have e2:IntKind.i64.wrap (P:Int)=(P:Int):=IntWalk.i64_in _ (by omega);go_upto_region 5 with (fail)
   have G0:wr.drew.cell? ⟨w.heap.size,1,none⟩=some (.slice r.lA L r.lC):=((bg.fr hf.drew zq).cell 1).trans g1.out;have F0:Fr Non wr wr.drew:=(Fr.refl Non wr).drew;clear ah;refine wp_region_held_drew (S:=fun w'=>w'.cell? ⟨w.heap.size,1,none⟩=some (.slice r.lA L r.lC)) (by kernel_rfl) G0 (fun hHeld=> ?_);clear hHeld;refine tkH 0 G0 (h:=tkH 1 G0 (h:=tkH 2 G0 (h:=tkH 4 G0 (h:=tkH 5 G0 (h:=tkH 6 G0 (h:=?_))))));simp only [List.set];refine oG 3 (fun K hK=> ?_);go_simp;go_wp2_with (go_at_call 30;(with_reducible refine (kq.out).mono ?_);rintro _ v1 ⟨rfl,bj⟩;have G1:=bj.cell G0 zq;have F1:=F0.trans bj zr);refine hK.out _ _ G1 (fun hZ=> ?_);clear hZ hK K;try simp only [Ag,List.set]
   refine tkH 7 G1 (h:=?_);simp only [List.set];refine oG 8 (fun K hK=> ?_);go_simp;try rw [aj]
   have au:=Blk.new v1 3 #[.int .i64 (P:Int)];have fa:=(Fr.refl Non v1).alloc (.cells #[.int .i64 (P:Int)] 3);have F2:=F1.trans fa zr;have G2:=fa.cell G1 zq;have ad:=(aa.fr F2 zr);have ae:=ad.row;have b8:=hf.size;have cb:=F2.size;refine hK.out _ _ G2 (fun hZ=> ?_);clear hZ hK K;try simp only [Ag,List.set]
   generalize v1.alloc (.cells #[.int .i64 (P:Int)] 3)=v2 at*;refine oG 9 (fun K hK=> ?_);refine Du (base:=w0.heap.size) (.tmp 15) (.tmp 23) 22 rfl rfl rfl E7 ad (Rd.blk (n:=1) (size:=1) au rfl) (by simp [Value.oneCell']) (by omega) (by omega) (by omega) ?_;intro A8 c8 v3 ac ag al;have F3:=(hf.trans F2 zr).trans ag (fun q hq e=>by have h9:=(ae q e).1;omega);have G3:=ag.cell G2 (fun e=>by have h9:w0.heap.size≤w.heap.size:=(ae _ e).1;omega);refine hK.out _ _ G3 (fun hZ=> ?_);clear hZ hK K;try simp only [Ag,List.set]
   refine tkH 10 G3 (h:=?_);simp only [List.set];refine oD ?_;go_simp
   have ao:Own v3 w0.heap.size 3 1 A8 (i+1) c8 ((on++[P]).map Qv):=by
    rw [Ag0];exact ac
   have bc:Hid (∀p∈on++[P],p<L):=fun p hp=>by
    rcases List.mem_append.1 hp with hp|hp
    · exact ap.out p hp
    · rw [List.mem_singleton.1 hp];exact bw
   clear ac ag al aa ad ae G0 G1 G2 G3 F0 F1 F2 fa hf kq au;go_wp2_with (fail);go_roundw
   case rel=>exact ⟨i+1,A8,c8,on++[P],by go_num,rfl,by omega,by (show (on++[P]).length=i+1);rw [Af9,aq.out];rfl,bc.out,ao,F3⟩
   case measure=>simp [intOf];omega
  ·
   obtain rfl:i=3:=by omega
   have t0:decide (((3:Nat):Int)<3)=false:=by decide
   have bm:=bg.fr hf zq;have bl:=Lib.hid (kb.out wr Ax cx on af aa.rd aq.out (by rw [hL.out];exact ap.out));go_upto_region 7 with (go_at_call 35;(with_reducible refine (bl.out).mono ?_);rintro _ w2 ⟨ys,A7,c7,rfl,a0,ar,ab,f2⟩)
   have ba:0<ys.length:=by
    have h3:on≠[]:=by intro e;rw [e] at aq;have:=aq.out;simp at this
    obtain ⟨p,hp⟩:=List.exists_mem_of_ne_nil on h3;exact List.length_pos_of_mem ((a0.2 p).2 (.inl hp))
   have b0:ys.length≤14:=by
    have:=Ei a0.1 (ys:=List.range r.l.length) (fun q hq=>List.mem_range.2 (ar q hq));rw [List.length_range,hL.out] at this;omega
   have ax:Hid (∀(ns:List Id) A c w',ns.Perm (ys.map (nmP r.l))→Own w' w.heap.size 41 3 A ns.length c (ns.flatMap Id.cells)→Fr Non w w'→Lf r.l w (.returned (.slice A ns.length c)) w'):=fun ns A c w' h1 h2 h3=>⟨on,ys,ns,A,c,rfl,a0,ar,(by intro e;rw [e] at aq;have:=aq.out;simp at this),h1,h2,h3⟩;generalize Lf r.l w=POST at*;rw [hL.out] at ar;replace ar:=Lib.hid ar;have a5:=af.trans f2 zr;have bn:=bm.fr f2 zq;have cc:=hf.size;clear kb bl bb a0 aa hf af bm f2 aq ap bg hl;obtain ⟨M,hM⟩:=Aa ys.length;rw [hM.out] at ab ba b0 ⊢;have kq:=Lib.hid (az.out w2 a5);have a2:=bk.out 0;obtain ⟨a,ha⟩:=Aa (Cj l0 0);rw [ha.out] at kq a2;have b3:¬(M:Int)=0:=by omega
   have bx:¬M=0:=by omega
   obtain ⟨P,hP⟩:=Aa (a%M);have bu:P<M:=by rw [← hP.out];exact Ai4 _ ba
   have aj:(a:Int)%(M:Int)=(P:Int):=by rw [← hP.out];rfl
   have eP:IntKind.i64.wrap (P:Int)=(P:Int):=IntWalk.i64_in _ (by omega);go_upto_region 8 with (go_at_call 30;(with_reducible refine (kq.out).mono ?_);rintro _ w3 ⟨rfl,f3⟩)
   try rw [aj]
   have ac:=ab.fr f3 zr;have a8:=a5.trans f3 zr;have bf:=bn.fr f3 zq;have bd:w.heap.size<w3.heap.size:=bf.lt
   have a6:Hid (∀i,i<M→(E1 ys P)[i]? =ys[(i+P)%M]?):=fun i hi=>by
    have:=Ac0 ys (a:=P) (i:=i) (by rw [hM.out];exact bu) (by rw [hM.out];exact hi);rw [hM.out] at this;exact this
   have br:Hid ((E1 ys P).length=M):=(Q8 ys P).length_eq.trans hM.out;have bs:Hid (((E1 ys P).map (nmP r.l)).Perm (ys.map (nmP r.l))):=(Q8 ys P).map _;generalize E1 ys P=RK at*;clear ab bn a5 f3 kq az a2 ha hP aj;go_wp2_with (fail)
   go_loopw [9,10] (fun s v wr=>∃(i:Nat) (Ax:Option Addr) (cx:Nat),v=.int .i64 (i:Int)∧s=.slice Ax i cx∧i≤M∧Own wr w3.heap.size 41 3 Ax i cx (((RK.take i).map (nmP r.l)).flatMap Id.cells)∧Own wr w0.heap.size 3 1 A7 M c7 (ys.map Qv)∧Fr Non w3 wr) (fun _ v _=>M-(intOf v).toNat)
   case atStart=>exact ⟨0,none,0,rfl,rfl,by omega,Own.nil _ _ _ _,Fh ac (by omega),Fr.refl _ _⟩
   case round=>
    obtain ⟨i,Ax,cx,rfl,rfl,hi,aa,ab,hf⟩:=hrel;have af:Fr Non w wr:=a8.trans hf zr
    by_cases hiM:i<M
    ·
     have t0:decide ((i:Int)<M)=true:=decide_eq_true (by omega);have bv:decide (i<M)=true:=decide_eq_true hiM;have e1:IntKind.i64.wrap ((i:Int)+1)=(i:Int)+1:=IntWalk.i64_in _ (by omega);have e3:IntKind.i64.wrap ((i:Int)+(P:Int))=(i:Int)+(P:Int):=IntWalk.i64_in _ (by omega);obtain ⟨Q,hQ⟩:=Aa ((i+P)%M);have bp:Q<M:=by rw [← hQ.out];exact Ai4 _ ba
     have aj:((i:Int)+(P:Int))%(M:Int)=(Q:Int):=by rw [← hQ.out];rfl
     have bh:((i:Int)+(P:Int)).tmod (M:Int)=(Q:Int):=by rw [Aj2 (by omega)];exact aj
     have e4:IntKind.i64.wrap (Q:Int)=(Q:Int):=IntWalk.i64_in _ (by omega);obtain ⟨y,hy⟩:∃y,ys[Q]? =some y:=⟨_,Af8 (by rw [hM.out];exact bp)⟩;have bq:RK[i]? =some y:=by rw [a6.out i hiM,hQ.out];exact hy
     have bt:=ar.out y (Ag2 hy);obtain ⟨m',bi,oi,hm,bz,d0,d1,d2⟩:=ah.out y bt;obtain ⟨b7,o7,u7,rfl,_,a1,d7⟩:=ab.rd.at bp;rw [Ag1,hy] at a1;injection a1 with a1
     subst a1;replace d7:wr.cell? ⟨b7,o7+Q,none⟩=some (.int .i64 (y:Int)):=d7;have hnm:=Dw hm;have a4:Hid ((RK.take (i+1)).map (nmP r.l)=(RK.take i).map (nmP r.l)++[m'.id]):=by show _=_;rw [Co bq,Ag0,Ai0,Ai1,hnm]
     have q1:(0:Int)≤Q:=by omega
     have q2:(Q:Int)<M:=by omega
     have q3:(Q:Int).toNat=Q:=by omega
     have p1:(0:Int)≤y:=by omega
     have p2:(y:Int)<L:=by omega
     have p3:(y:Int).toNat=y:=by omega
     have be:=g2.out;rw [bz] at be;have a7:=aa.row;have ca:=hf.size;go_upto_region 12 with (fail)
     have Hb:wr.cell? ⟨w.heap.size,2,none⟩=some (.slice (some ⟨bi,oi,none⟩) L r.iC):=((bf.fr hf zq).cell 2).trans be;have F0:Fr Non wr wr.drew:=(Fr.refl Non wr).drew;have Yb:=d7;have Ib:=af.cell d0 zq;have Jb:=af.cell d1 zq;have Kb:=af.cell d2 zq;have H0:wr.drew.cell? ⟨w.heap.size,2,none⟩=some (.slice (some ⟨bi,oi,none⟩) L r.iC):=Hb;have Y0:wr.drew.cell? ⟨b7,o7+Q,none⟩=some (.int .i64 (y:Int)):=Yb;have I0:wr.drew.cell? ⟨bi,oi+y*3,none⟩=some (.int .i64 m'.id.b):=Ib;have J0:wr.drew.cell? ⟨bi,oi+y*3+1,none⟩=some (.int .i64 m'.id.s):=Jb;have K0:wr.drew.cell? ⟨bi,oi+y*3+2,none⟩=some (.int .u64 (m'.id.u:Int)):=Kb;have av:Hid (∀q,Ab (some (⟨b7,o7,none⟩:Addr))=some q→Ab Ax≠some q):=fun q h1 h2=>Own.ne2 ab aa (by decide) q h1 h2;clear ah hy bq hnm be hm;refine wp_region_held_drew (S:=fun w'=>w'.cell? ⟨w.heap.size,2,none⟩=some (.slice (some ⟨bi,oi,none⟩) L r.iC)∧w'.cell? ⟨b7,o7+Q,none⟩=some (.int .i64 (y:Int))∧w'.cell? ⟨bi,oi+y*3,none⟩=some (.int .i64 m'.id.b)∧w'.cell? ⟨bi,oi+y*3+1,none⟩=some (.int .i64 m'.id.s)∧w'.cell? ⟨bi,oi+y*3+2,none⟩=some (.int .u64 (m'.id.u:Int))) (by kernel_rfl) ⟨H0,Y0,I0,J0,K0⟩ (fun hHeld=> ?_);clear hHeld;refine tkH 0 ⟨H0,Y0,I0,J0,K0⟩ (h:=tkH 1 ⟨H0,Y0,I0,J0,K0⟩ (h:=tkH 2 ⟨H0,Y0,I0,J0,K0⟩ (h:=tkH 3 ⟨H0,Y0,I0,J0,K0⟩ (h:=tkH 4 ⟨H0,Y0,I0,J0,K0⟩ (h:=tkH 5 ⟨H0,Y0,I0,J0,K0⟩ (h:=tkH 6 ⟨H0,Y0,I0,J0,K0⟩ (h:=tkH 7 ⟨H0,Y0,I0,J0,K0⟩ (h:=tkH 8 ⟨H0,Y0,I0,J0,K0⟩ (h:=tkH 9 ⟨H0,Y0,I0,J0,K0⟩ (h:=?_))))))))));simp only [List.set];try simp only [e3,bh,aj,e4]
     refine tkH 10 ⟨H0,Y0,I0,J0,K0⟩ (h:=tkH 11 ⟨H0,Y0,I0,J0,K0⟩ (h:=tkH 12 ⟨H0,Y0,I0,J0,K0⟩ (h:=tkH 13 ⟨H0,Y0,I0,J0,K0⟩ (h:=?_))));simp only [List.set];refine oG 14 (fun K hK=> ?_);go_simp;have au:=(Blk.new wr 41 m'.id.V).drew;have F1:Fr Non wr (wr.alloc (.cells m'.id.V 41)).drew:=((Fr.refl _ _).alloc _).drew;generalize (wr.alloc (.cells m'.id.V 41)).drew=v1 at*;have H1:=F1.cell Hb zq;have Y1:=F1.cell Yb zq;have I1:=F1.cell Ib zq;have J1:=F1.cell Jb zq;have K1:=F1.cell Kb zq;refine hK.out _ _ ⟨H1,Y1,I1,J1,K1⟩ (fun hZ=> ?_);clear hZ hK K;try simp only [Ag,List.set]
     have ai:=aa.fr F1 zr;have ak:=ab.fr F1 zr;have b6:=F1.size;refine oG 15 (fun K hK=> ?_);refine Du (base:=w3.heap.size) (.tmp 39) (.tmp 53) 25 rfl rfl rfl Ct ai (Rd.blk (n:=1) (size:=3) au rfl) (by simp [Value.oneCell']) (by omega) (by omega) (by omega) ?_;intro A8 c8 v2 ac ag al;have fS:∀q,Ab Ax=some q→w3.heap.size≤q:=fun q e=>(a7 q e).1;have F3:Fr Non w3 v2:=(hf.trans F1 zr).trans ag (fun q hq e=>by have h9:=fS q e;omega);have a3:Fr Non w v2:=a8.trans F3 zr;have H2:=ag.cell H1 (fun e=>by have h9:w3.heap.size≤w.heap.size:=fS _ e;have h8:=bd;omega);have Y2:=ag.cell Y1 (fun e=>av.out b7 rfl e);have I2:=a3.cell d0 zq;have J2:=a3.cell d1 zq;have K2:=a3.cell d2 zq;refine hK.out _ _ ⟨H2,Y2,I2,J2,K2⟩ (fun hZ=> ?_);clear hZ hK K;try simp only [Ag,List.set]
     refine tkH 16 ⟨H2,Y2,I2,J2,K2⟩ (h:=?_);simp only [List.set];refine oD ?_;go_simp
     have ao:Own v2 w3.heap.size 41 3 A8 (i+1) c8 (((RK.take (i+1)).map (nmP r.l)).flatMap Id.cells):=by
      rw [a4.out,Ah9];exact ac
     have ay:Own v2 w0.heap.size 3 1 (some ⟨b7,o7,none⟩) M c7 (ys.map Qv):=ak.fr ag (fun q h1 h2=>av.out q h1 h2);clear ac ak aa ai ab ag al au H0 Y0 I0 J0 K0 H1 Y1 I1 J1 K1 H2 Y2 I2 J2 K2 Hb Yb Ib Jb Kb F0 F1 hf af a3 a4;go_wp2_with (fail);go_roundw
     case rel=>exact ⟨i+1,A8,c8,by go_num,rfl,by omega,ao,ay,F3⟩
     case measure=>simp [intOf];omega
    ·
     obtain rfl:i=M:=by omega
     have t0:decide ((i:Int)<i)=false:=decide_eq_false (by omega);have bv:decide (i<i)=false:=decide_eq_false (by omega);have aw:((RK.take i).map (nmP r.l)).length=i:=by rw [List.length_map,List.length_take,br.out];omega
     have a4:RK.take i=RK:=by rw [← br.out,Ah0]
     have hd:=Lib.hid (ax.out ((RK.take i).map (nmP r.l)) Ax cx wr (by rw [a4];exact bs.out) (by rw [aw];exact Fh aa a8.size) af);rw [aw] at hd;clear ax aa ab;go_wp2_with (fail);exact hd.out
end Oq
end
section
open Go.RowKit Go.Maps Go.WideElems
open Go.ChangeMaps (modify_eq_set)
namespace Oq
theorem Ac1 {H:Type} {P:Program} {t k e:TypeId} {R:Value→Option (DataW H × List MemPlace)} {w:World} {b n:Nat} {D:DataW H} (h:w.ownsMap P k R b n D) (K:Keyed P k) (ht:P.underlying t=some (.map k e)) {z:Value} (hz:∀u:World,(zeroValue e).run P u=.ok z u)
  {key:Value} {kl:Lit} (hkey:keyOf P k key=some kl):
  ∃(v0:Value) (st:Nat) (w1:World),(Instr.mapEntry t (.map (some b)) key).run P w=.ok (.tuple #[v0,goInt st]) w1∧(Instr.mapUpdate t (.map (some b)) key v0).run P w=.ok () w1∧(Instr.lookup t (.map (some b)) key false).run P w=.ok v0 w∧
   ∀(w2:World) (val:Value),w2.heap[b]? =w1.heap[b]? →∃w3 w3',(Instr.entryStore t (.map (some b)) (goInt st) val).run P w2=.ok () w3∧w2.grownBy w3 (some b)∧(Instr.mapUpdate t (.map (some b)) key val).run P w=.ok () w3'∧w3.heap[b]? =w3'.heap[b]? :=by
 obtain ⟨es,aa,hb,F,_,_⟩:=h;obtain ⟨s1,s2,_⟩:=F.stamped
 have ag:∀(w2:World) (es1:Array MapEntry) (c1:Nat) (es':Array MapEntry) (c':Nat),w2.heap[b]? =some (.map es1 c1)→w2.grownBy (ChangeMaps.setBlock w2 b (.map es' c')) (some b):=fun w2 es1 c1 es' c' h2=>
  ⟨rfl,rfl,rfl,by simp [ChangeMaps.setBlock],fun i _ hi=>ChangeMaps.heap_setBlock_other h2 _ (fun e=>hi (by rw [e]))⟩
 rcases K.find w hkey es.toList F.keys with ⟨h1,h2⟩|⟨j,e0,h1,h2,h3⟩
 ·
  have ae:(ChangeMaps.setBlock w b (.map (es.push ⟨key,z,aa⟩) (aa+1))).heap[b]? =some (.map (es.push ⟨key,z,aa⟩) (aa+1)):=ChangeMaps.heap_setBlock_same hb _;refine ⟨z,aa,ChangeMaps.setBlock w b (.map (es.push ⟨key,z,aa⟩) (aa+1)),?_,?_,?_,fun w2 val hw2=>⟨ChangeMaps.setBlock w2 b (.map (es.push ⟨key,val,aa⟩) (aa+1)),ChangeMaps.setBlock w b (.map (es.push ⟨key,val,aa⟩) (aa+1)),?_,ag _ _ _ _ _ (hw2.trans ae),?_,?_⟩⟩
  · simp [Instr.mapEntry,run_underlying ht,MapKept.run_getObj_map hb,K.check w false hkey,h1,hz,MapKept.run_setObj_map _ hb,Result.andThen,ChangeMaps.setBlock]
  · simp [Instr.mapUpdate,run_underlying ht,MapKept.run_getObj_map hb,K.check w false hkey,h1,MapKept.run_setObj_map _ hb,Result.andThen,ChangeMaps.setBlock]
  · simp [Instr.lookup,run_underlying ht,MapKept.run_getObj_map hb,K.check w,hkey,h1,hz,Result.andThen]
  ·
   rw [ae] at hw2
   have ad:(es.push ⟨key,z,aa⟩).findIdx? (fun e=>((e.born:Nat):Int)==((aa:Nat):Int))=some es.size:=by
    rw [findIdx_arr]
    exact findIdx_born (l:=(es.push ⟨key,z,aa⟩).toList) (j:=es.size) (e0:=⟨key,z,aa⟩) (by
     simp only [Ai5,Ag0,Ai0,Ai1];refine List.nodup_append.2 ⟨s2,by simp,fun a ha c hc e1=> ?_⟩;simp only [Ag5] at hc;obtain ⟨x,hx,rfl⟩:=List.mem_map.1 ha;have:=s1 x hx;omega) (by simp)
   have ac:(es.push ⟨key,z,aa⟩).modify es.size (fun e=>{e with val:=val})=es.push ⟨key,val,aa⟩:=by
    apply Ah2;rw [Ag9,Ai5,Ai5,← Array.length_toList,modify_last]
   simp [Instr.entryStore,MapKept.run_getObj_map hw2,asInt,asIntOf,goInt,ad,ac,MapKept.run_setObj_map _ hw2,Result.andThen,ChangeMaps.setBlock]
  · simp [Instr.mapUpdate,run_underlying ht,MapKept.run_getObj_map hb,K.check w false hkey,h1,MapKept.run_setObj_map _ hb,Result.andThen,ChangeMaps.setBlock]
  ·
   rw [ae] at hw2;rw [ChangeMaps.heap_setBlock_same hw2,ChangeMaps.heap_setBlock_same hb]
 ·
  have hj:es[j]? =some e0:=by simpa using h2
  have af:es.modify j (fun e=>{e with key:=key})=es:=by
   apply Ah2;rw [Ag9,modify_eq_set _ _ _ _ h2];have:({e0 with key:=key}:MapEntry)=e0:=by rw [← h3]
   rw [this];exact set_self _ _ _ h2
  have ab:es.modify j (fun e=>{e with key:=key,val:=e0.val})=es:=by
   apply Ah2;rw [Ag9,modify_eq_set _ _ _ _ h2];have:({e0 with key:=key,val:=e0.val}:MapEntry)=e0:=by rw [← h3]
   rw [this];exact set_self _ _ _ h2
  have ae:(ChangeMaps.setBlock w b (.map es aa)).heap[b]? =some (.map es aa):=ChangeMaps.heap_setBlock_same hb _;refine ⟨e0.val,e0.born,ChangeMaps.setBlock w b (.map es aa),?_,?_,?_,fun w2 val hw2=>⟨ChangeMaps.setBlock w2 b (.map (es.modify j (fun e'=>{e' with key:=key,val:=val})) aa),ChangeMaps.setBlock w b (.map (es.modify j (fun e'=>{e' with key:=key,val:=val})) aa),?_,ag _ _ _ _ _ (hw2.trans ae),?_,?_⟩⟩
  · simp [Instr.mapEntry,run_underlying ht,MapKept.run_getObj_map hb,K.check w false hkey,h1,hj,h3,K.stays w hkey,af,MapKept.run_setObj_map _ hb,Result.andThen,ChangeMaps.setBlock]
  · simp [Instr.mapUpdate,run_underlying ht,MapKept.run_getObj_map hb,K.check w false hkey,h1,hj,h3,K.stays w hkey,ab,MapKept.run_setObj_map _ hb,Result.andThen,ChangeMaps.setBlock]
  · simp [Instr.lookup,run_underlying ht,MapKept.run_getObj_map hb,K.check w,hkey,h1,Result.andThen]
  ·
   rw [ae] at hw2
   have ad:es.findIdx? (fun e=>((e.born:Nat):Int)==((e0.born:Nat):Int))=some j:=by
    rw [findIdx_arr];exact findIdx_born s2 h2
   have ac:es.modify j (fun e=>{e with val:=val})=es.modify j (fun e'=>{e' with key:=key,val:=val}):=by
    apply Ah2;rw [Ag9,Ag9,modify_eq_set _ _ _ _ h2,modify_eq_set _ _ _ _ h2,← h3]
   simp [Instr.entryStore,MapKept.run_getObj_map hw2,asInt,asIntOf,goInt,ad,ac,MapKept.run_setObj_map _ hw2,Result.andThen,ChangeMaps.setBlock]
  · simp [Instr.mapUpdate,run_underlying ht,MapKept.run_getObj_map hb,K.check w false hkey,h1,hj,h3,K.stays w hkey,MapKept.run_setObj_map _ hb,Result.andThen,ChangeMaps.setBlock]
  ·
   rw [ae] at hw2;rw [ChangeMaps.heap_setBlock_same hw2,ChangeMaps.heap_setBlock_same hb]
abbrev FkG (f:Int × Int):Value:=.agg #[.int .i64 f.1,.int .i64 f.2]
theorem law_fk:Keyed Tryz.prog 36:=Keyed.of_law (deep_law_laid Tryz.laidOut (m:=2) (by omega) (of_decide_eq_true (by kernel_rfl)) (by kernel_rfl) (by rw [Tryz.underlying36]))
theorem Ac2:Tryz.prog.keyType 36=true:=by kernel_rfl
theorem Ra:Tryz.prog.cellsOf 36=2:=by kernel_rfl
def E2 (f:Int × Int):Lit:=.string (keyBytes [.int .i64 f.1,.int .i64 f.2])
def okF (f:Int × Int):Prop:=I64 f.1∧I64 f.2
theorem Fj (f:Int × Int) (h:okF f):keyOf Tryz.prog 36 (FkG f)=some (E2 f):=by
 obtain ⟨n,hn⟩:=Mq;have hu:=Tryz.underlying36;have e1:=Ed h.1;have e2:=Ed h.2;unfold keyOf;rw [hu];simp only [Ac2,Value.formed,hu,Ra];unfold Program.keyLits;simp only [hu];rw [hn];simp only [Program.keyLits,Value.cells,Ra];simp [List.mapM_cons,Mo,Tryz.underlying3,e1,e2,E2]
theorem Ac3 {f g:Int × Int} (hf:okF f) (hg:okF g) (h:E2 f=E2 g):f=g:=by
 have k1:=Fj f hf;rw [h] at k1;have:=law_fk.inj k1 (Fj g hg);simp only [FkG,Value.agg.injEq,Array.mk.injEq,List.cons.injEq,Value.int.injEq,true_and,and_true] at this;exact Prod.ext this.1 this.2
theorem Ac4 (f:Int × Int) (h:okF f):WideAt.IsKeyLit (E2 f):=law_fk.key (Fj f h)
def ManyAt (w:World) (b m:Nat) (f:Int × Int→Nat):Prop:=
 ∃(n:Nat) (D:DataW Nat),w.ownsMap Tryz.prog 36 (plainElem Tryz.prog 3) b n D∧n≤m∧IsMap D∧∀x,okF x→D.atKey (E2 x) (.lit (.int .i64 0))=.lit (.int .i64 (f x:Int))
theorem ManyAt.made (w:World):ManyAt (w.alloc (.map #[] 0)) w.heap.size 0 (fun _=>0):=
 ⟨0,.map [],Aj3 w _ _ _,Ag4 _,isMap_empty,fun _ _=>rfl⟩
theorem ManyAt.fr {S:Nat→Prop} {w w':World} {b m:Nat} {f:Int × Int→Nat} (h:ManyAt w b m f) (hf:Fr S w w') (hb:¬S b):ManyAt w' b m f:=by
 obtain ⟨n,D,ho,hn,rest⟩:=h;obtain ⟨es,clock,hbl,r2⟩:=ho;exact ⟨n,D,⟨es,clock,(hf.block b (Array.getElem?_eq_some_iff.1 hbl).1 hb).trans hbl,r2⟩,hn,rest⟩
theorem ManyAt.lt {w:World} {b m:Nat} {f:Int × Int→Nat} (h:ManyAt w b m f):b<w.heap.size:=by
 obtain ⟨n,D,ho,_⟩:=h;exact ho.lt
theorem ManyAt.block {w w':World} {b m:Nat} {f:Int × Int→Nat} (h:ManyAt w b m f) (hb:w'.heap[b]? =w.heap[b]?):ManyAt w' b m f:=by
 obtain ⟨n,D,ho,hn,rest⟩:=h;obtain ⟨es,clock,hbl,r2⟩:=ho;exact ⟨n,D,⟨es,clock,hb.trans hbl,r2⟩,hn,rest⟩
theorem ManyAt.congr {w:World} {b m:Nat} {f g:Int × Int→Nat} (h:ManyAt w b m f) (hg:∀x,okF x→g x=f x):ManyAt w b m g:=by
 obtain ⟨n,D,ho,hn,hm,hs⟩:=h;exact ⟨n,D,ho,hn,hm,fun x hx=>by rw [hs x hx,hg x hx]⟩
theorem ManyAt.look {w:World} {b m:Nat} {f:Int × Int→Nat} (h:ManyAt w b m f) {x:Int × Int} (hx:okF x):
  (Instr.lookup 84 (.map (some b)) (FkG x) false).run Tryz.prog w=.ok (.int .i64 (f x:Int)) w:=by
 obtain ⟨n,D,ho,hn,hm,hs⟩:=h;obtain ⟨c,hrun,hc,_⟩:=ho.lookup_int law_fk Tryz.underlying84 Tryz.underlying3 (by kernel_rfl) (Fj x hx);rw [hrun];have h2:=(hs x hx).symm.trans hc;generalize (f x:Int)=fx at*;clear hs hc hrun
 cases h2
 rfl
theorem ManyAt.put {w w':World} {b m:Nat} {f:Int × Int→Nat} (h:ManyAt w b m f) {x:Int × Int} (hx:okF x) (v:Nat) (hv:v≤1000000) (hmm:m≤100000) (hrun:(Instr.mapUpdate 84 (.map (some b)) (FkG x) (.int .i64 (v:Int))).run Tryz.prog w=.ok () w'):
  ManyAt w' b (m+1) (fun y=>if y=x then v else f y):=by
 obtain ⟨n,D,ho,hn,hm,hs⟩:=h;obtain ⟨w2,hrun2,hown,_⟩:=ho.update law_fk Tryz.underlying84 (Ai6 (Ag6 hn hmm) (by decide)) (Fj x hx) (plainElem_int Tryz.underlying3 (Ed (n:=(v:Int)) ⟨by omega,by omega⟩));rw [hrun] at hrun2;injection hrun2 with _ hrun2
 subst hrun2;refine ⟨n+1,_,hown,by omega,hm.put _ _,fun y hy=> ?_⟩
 by_cases e:y=x
 ·
  subst e;simp only [if_true];exact atKey_put_same hm (Ac4 y hy) _ _
 ·
  simp only [if_neg e];have hne:E2 y≠E2 x:=fun h=>e (Ac3 hy hx h);exact (atKey_put_other hne _ _).trans (hs y hy)
theorem Iw {w w':World} {b:Nat} (h:w.grownBy w' (some b)):Fr (One b) w w':=(Fr.refl (One b) w).grown h (fun _ hk _=>(Option.some.inj hk).symm)
theorem ManyAt.bump {w:World} {b m:Nat} {f:Int × Int→Nat} (h:ManyAt w b m f) {x:Int × Int} (hx:okF x) (hf:f x≤1000) (hmm:m≤100000):
  ∃(st:Int) (w1:World),(Instr.mapEntry 84 (.map (some b)) (FkG x)).run Tryz.prog w=.ok (.tuple #[.int .i64 (f x:Int),.int .i64 st]) w1∧Fr (One b) w w1∧
   (Instr.lookup 84 (.map (some b)) (FkG x) false).run Tryz.prog w1=.ok (.int .i64 (f x:Int)) w1∧
   ∃w3:World,(Instr.entryStore 84 (.map (some b)) (.int .i64 st) (.int .i64 ((f x:Int)+1))).run Tryz.prog w1=.ok () w3∧Fr (One b) w1 w3∧ManyAt w3 b (m+1) (fun y=>if y=x then f x+1 else f y):=by
 obtain ⟨n,D,ho,hn,hm,hs⟩:=h;have h:ManyAt w b m f:=⟨n,D,ho,hn,hm,hs⟩;obtain ⟨v0,st,w1,e1,e2,e3,e4⟩:=Ac1 ho law_fk Tryz.underlying84 (z:=.int .i64 0) (fun u=>by kernel_rfl) (Fj x hx);have hv:=h.look hx;rw [e3] at hv;injection hv with hv _
 subst hv;obtain ⟨w2,hrun2,_,hg⟩:=ho.update law_fk Tryz.underlying84 (Ai6 (Ag6 hn hmm) (by decide)) (Fj x hx) (plainElem_int Tryz.underlying3 (Ed (n:=(f x:Int)) ⟨by omega,by omega⟩));rw [e2] at hrun2;injection hrun2 with _ hrun2
 subst hrun2;have h1:=h.put hx (f x) (by omega) hmm e2;have hl:=h1.look hx;simp only [if_true] at hl;obtain ⟨w3,w3',g1,g2,g3,g4⟩:=e4 w1 (.int .i64 ((f x+1:Nat):Int)) rfl;have h3:=h.put hx (f x+1) (by omega) hmm g3;have hc:((f x+1:Nat):Int)=(f x:Int)+1:=by omega
 rw [hc] at g1;exact ⟨(st:Int),w1,e1,Iw hg,hl,w3,g1,Iw g2,h3.block g4⟩
def LeastAt (w:World) (b m:Nat) (f:Int→Option Int):Prop:=
 ∃(n:Nat) (D:DataW Nat),w.ownsMap Tryz.prog 3 (plainElem Tryz.prog 3) b n D∧n≤m∧IsMap D∧∀x,has D (.int .i64 x)=(f x).isSome∧∀i,f x=some i→∀z,D.atKey (.int .i64 x) z=.lit (.int .i64 i)
theorem LeastAt.made (w:World):LeastAt (w.alloc (.map #[] 0)) w.heap.size 0 (fun _=>none):=
 ⟨0,.map [],Aj3 w _ _ _,Ag4 _,isMap_empty,fun x=>⟨rfl,fun i h=>by cases h⟩⟩
theorem LeastAt.fr {S:Nat→Prop} {w w':World} {b m:Nat} {f:Int→Option Int} (h:LeastAt w b m f) (hf:Fr S w w') (hb:¬S b):LeastAt w' b m f:=by
 obtain ⟨n,D,ho,hn,rest⟩:=h;obtain ⟨es,clock,hbl,r2⟩:=ho;exact ⟨n,D,⟨es,clock,(hf.block b (Array.getElem?_eq_some_iff.1 hbl).1 hb).trans hbl,r2⟩,hn,rest⟩
theorem LeastAt.lt {w:World} {b m:Nat} {f:Int→Option Int} (h:LeastAt w b m f):b<w.heap.size:=by
 obtain ⟨n,D,ho,_⟩:=h;exact ho.lt
theorem LeastAt.congr {w:World} {b m:Nat} {f g:Int→Option Int} (h:LeastAt w b m f) (hg:∀x,g x=f x):LeastAt w b m g:=by
 obtain ⟨n,D,ho,hn,hm,hs⟩:=h;exact ⟨n,D,ho,hn,hm,fun x=>by rw [hg x];exact hs x⟩
theorem Rc (x:Int) (h:I64 x):keyOf Tryz.prog 3 (.int .i64 x)=some (.int .i64 x):=by
 unfold keyOf;rw [Tryz.underlying3];simp [mapKey,Tryz.underlying3,Ed h]
theorem Re (x:Int):WideAt.IsKeyLit (.int .i64 x):=trivial
theorem LeastAt.look {w:World} {b m:Nat} {f:Int→Option Int} (h:LeastAt w b m f) {x:Int} (hx:I64 x):
  (Instr.lookup 85 (.map (some b)) (.int .i64 x) true).run Tryz.prog w=.ok (.tuple #[.int .i64 ((f x).getD 0),.bool (f x).isSome]) w:=by
 obtain ⟨n,D,ho,hn,hm,hsays⟩:=h;obtain ⟨h1,h2⟩:=hsays x;obtain ⟨v,ps,hrun,hv⟩:=ho.look_ok (int_keyed Tryz.underlying3) Tryz.underlying85 (z:=.int .i64 0) (by kernel_rfl) (plainElem_int Tryz.underlying3 (by decide)) (Rc x hx);rw [hrun,h1];obtain ⟨c,rfl,hc,hwc⟩:=plainElem_int_inv Tryz.underlying3 hv;simp only [Prod.mk.injEq] at hc
 cases hf:f x with
 |none=>
  have h3:has D (.int .i64 x)=false:=by rw [h1,hf];rfl
  have h4:=(atKey_of_not_has h3 (.lit (.int .i64 0))).symm.trans hc.1
  cases h4
  rfl
 |some i=>
  have h4:=(h2 i hf (.lit (.int .i64 0))).symm.trans hc.1
  cases h4
  rfl
theorem LeastAt.store {w:World} {b m:Nat} {f:Int→Option Int} (h:LeastAt w b m f) {x i:Int} (hx:I64 x) (hi:I64 i) (hmm:m≤100000):
  ∃w',(Instr.mapUpdate 85 (.map (some b)) (.int .i64 x) (.int .i64 i)).run Tryz.prog w=.ok () w'∧LeastAt w' b (m+1) (fun y=>if y=x then some i else f y)∧Fr (One b) w w':=by
 obtain ⟨n,D,ho,hn,hm,hsays⟩:=h;obtain ⟨w',hrun,hown,hg⟩:=ho.update (int_keyed Tryz.underlying3) Tryz.underlying85 (Ai6 (Ag6 hn hmm) (by decide)) (Rc x hx) (plainElem_int Tryz.underlying3 (Ed hi));refine ⟨w',hrun,⟨n+1,_,hown,by omega,hm.put _ _,fun y=> ?_⟩,Iw hg⟩
 by_cases e:y=x
 ·
  subst e;simp only [if_true];exact ⟨has_put_same hm (Re y) _,fun j hj z=>by cases hj;exact atKey_put_same hm (Re y) _ _⟩
 ·
  simp only [if_neg e];have hne:Lit.int .i64 y≠Lit.int .i64 x:=fun h=>e (by injection h);exact ⟨(has_put_other hne _).trans (hsays y).1,fun j hj z=>(atKey_put_other hne _ _).trans ((hsays y).2 j hj z)⟩
end Oq
end
section
open Go.RowKit
attribute [local go_sem ↓] Go.wp_at_zero Go.wp_at_succ
namespace Oq
attribute [local go_sem] Ah3 Ah4
def Cz (f:Int × Int):List Value:=[.int .i64 f.1,.int .i64 f.2]
end Oq
end
end Go.Proofs.YtkanjaikgphjfaaGreatDoor
namespace Go.Proofs
open Go.Shelf Go.RowKit Go.Lib Go.Sort
def Tryz.sortForks_ren:Go.Shelf.Ren:=⟨fun|6=>36|15=>67|14=>66|28=>119|29=>120|20=>111|21=>112|22=>113|23=>114|24=>115|25=>116|26=>117|27=>118|46=>168|47=>169|48=>170|49=>171|50=>172|57=>202|n=>n,fun|22=>33|24=>36|25=>88|3=>3|39=>123|0=>0|53=>178|55=>39|4=>4|46=>172|45=>171|50=>86|5=>5|9=>9|66=>219|70=>222|76=>239|77=>240|n=>n,fun|n=>n⟩
theorem Tryz.sortForks:Go.Proofs.SlLaysF0.n6 Tryz.prog Tryz.sortForks_ren:={
  mixed:=by kernel_rfl
  f6:=⟨Tryz.f36.name,by decide,Tryz.func36.trans (congrArg some (by kernel_rfl))⟩
  f14:=⟨Tryz.f66.name,by decide,Tryz.func66.trans (congrArg some (by kernel_rfl))⟩
  f15:=Tryz.func67.trans (congrArg some (by kernel_rfl))
  f20:=⟨Tryz.f111.name,by decide,Tryz.func111.trans (congrArg some (by kernel_rfl))⟩
  f21:=⟨Tryz.f112.name,by decide,Tryz.func112.trans (congrArg some (by kernel_rfl))⟩
  f22:=⟨Tryz.f113.name,by decide,Tryz.func113.trans (congrArg some (by kernel_rfl))⟩
  f23:=⟨Tryz.f114.name,by decide,Tryz.func114.trans (congrArg some (by kernel_rfl))⟩
  f24:=⟨Tryz.f115.name,by decide,Tryz.func115.trans (congrArg some (by kernel_rfl))⟩
  f25:=⟨Tryz.f116.name,by decide,Tryz.func116.trans (congrArg some (by kernel_rfl))⟩
  f26:=⟨Tryz.f117.name,by decide,Tryz.func117.trans (congrArg some (by kernel_rfl))⟩
  f27:=⟨Tryz.f118.name,by decide,Tryz.func118.trans (congrArg some (by kernel_rfl))⟩
  f28:=Tryz.func119.trans (congrArg some (by kernel_rfl))
  f29:=Tryz.func120.trans (congrArg some (by kernel_rfl))
  f46:=⟨Tryz.f168.name,by decide,Tryz.func168.trans (congrArg some (by kernel_rfl))⟩
  f47:=Tryz.func169.trans (congrArg some (by kernel_rfl))
  f48:=Tryz.func170.trans (congrArg some (by kernel_rfl))
  f49:=⟨Tryz.f171.name,by decide,Tryz.func171.trans (congrArg some (by kernel_rfl))⟩
  f50:=⟨Tryz.f172.name,by decide,Tryz.func172.trans (congrArg some (by kernel_rfl))⟩
  f57:=⟨Tryz.f202.name,by decide,Tryz.func202.trans (congrArg some (by kernel_rfl))⟩
  t0:=Tryz.underlying0
  a0:=Tryz.isAgg0
  z0:=Tryz.sizeOf0
  v0:=Tryz.zeroValue0
  t3:=Tryz.underlying3
  a3:=Tryz.isAgg3
  z3:=Tryz.sizeOf3
  v3:=Tryz.zeroValue3
  t4:=Tryz.underlying4
  a4:=Tryz.isAgg4
  z4:=Tryz.sizeOf4
  v4:=Tryz.zeroValue4
  t5:=Tryz.underlying5
  a5:=Tryz.isAgg5
  z5:=Tryz.sizeOf5
  v5:=Tryz.zeroValue5
  t9:=Tryz.underlying9
  a9:=Tryz.isAgg9
  z9:=Tryz.sizeOf9
  v9:=Tryz.zeroValue9
  t22:=Tryz.underlying33
  a22:=Tryz.isAgg33
  z22:=Tryz.sizeOf33
  v22:=Tryz.zeroValue33
  t25:=Tryz.underlying88
  a25:=Tryz.isAgg88
  z25:=Tryz.sizeOf88
  v25:=Tryz.zeroValue88
  t39:=Tryz.underlying123
  a39:=Tryz.isAgg123
  z39:=Tryz.sizeOf123
  v39:=Tryz.zeroValue123
  t45:=Tryz.underlying171
  a45:=Tryz.isAgg171
  z45:=Tryz.sizeOf171
  v45:=Tryz.zeroValue171
  t46:=Tryz.underlying172
  a46:=Tryz.isAgg172
  z46:=Tryz.sizeOf172
  v46:=Tryz.zeroValue172
  t50:=Tryz.underlying86
  a50:=Tryz.isAgg86
  z50:=Tryz.sizeOf86
  v50:=Tryz.zeroValue86
  t53:=Tryz.underlying178
  a53:=Tryz.isAgg178
  z53:=Tryz.sizeOf178
  v53:=Tryz.zeroValue178
  t55:=Tryz.underlying39
  a55:=Tryz.isAgg39
  z55:=Tryz.sizeOf39
  v55:=Tryz.zeroValue39
  t66:=Tryz.underlying219
  a66:=Tryz.isAgg219
  z66:=Tryz.sizeOf219
  v66:=Tryz.zeroValue219
  t70:=Tryz.underlying222
  a70:=Tryz.isAgg222
  z70:=Tryz.sizeOf222
  v70:=Tryz.zeroValue222
  t76:=Tryz.underlying239
  a76:=Tryz.isAgg239
  z76:=Tryz.sizeOf239
  v76:=Tryz.zeroValue239
  t77:=Tryz.underlying240
  a77:=Tryz.isAgg240
  z77:=Tryz.sizeOf240
  v77:=Tryz.zeroValue240}
end Go.Proofs
namespace Go.Proofs.YtkanjaikgphjfaaGreatDoor
section
open Go.RowKit Go.Sort Go.Shelf
attribute [local go_sem ↓] Go.wp_at_zero Go.wp_at_succ
namespace Oq
theorem Ac5 (x y:Id) (w:World):
  Calls Tryz.prog 70 #[.agg x.V,.agg y.V] w fun e w'=>e=.returned (.int .i64 (Er x y))∧GrowOf w w':=by
 have hf:=((GrowOf.refl w).alloc (.cells x.V 41)).alloc (.cells y.V 41);have hx:=(Blk.new w 41 x.V).alloc (.cells y.V 41);have hy:=Blk.new (w.alloc (.cells x.V 41)) 41 y.V;rw [Ag8] at hy;have k1:=Lib.hid (fun w'=>Mm x y w');have k2:=Lib.hid (fun w'=>Mm y x w');have hv:Hid (Er x y=if Id.less x y then-1 else if Id.less y x then 1 else 0):=rfl;generalize Er x y=v at*;generalize hw0:(w.alloc (.cells x.V 41)).alloc (.cells y.V 41)=w0 at*;have c0:w0.cell? ⟨w.heap.size,0,none⟩=some (.int .i64 x.b):=hx.cell 0;have c1:w0.cell? ⟨w.heap.size,1,none⟩=some (.int .i64 x.s):=hx.cell 1;have c2:w0.cell? ⟨w.heap.size,2,none⟩=some (.int .u64 (x.u:Int)):=hx.cell 2;have d0:w0.cell? ⟨w.heap.size+1,0,none⟩=some (.int .i64 y.b):=hy.cell 0;have d1:w0.cell? ⟨w.heap.size+1,1,none⟩=some (.int .i64 y.s):=hy.cell 1;have d2:w0.cell? ⟨w.heap.size+1,2,none⟩=some (.int .u64 (y.u:Int)):=hy.cell 2;generalize Id.less x y=l1 at*;generalize Id.less y x=l2 at*
 cases l1
 ·
  cases l2
  ·
   have hz:Hid (0=v):=by show _=_;rw [hv.out];rfl
   clear hv;go_enter Tryz.func70,Tryz.ntmps70;go_wp2_with (fail);try rw [hw0]
   clear hw0;refine (k1.out _).mono ?_;rintro _ w1 ⟨rfl,g1⟩;have f1:=g1.fr;have h1:=hf.trans g1;replace c0:=f1.cell c0 zq;replace c1:=f1.cell c1 zq;replace c2:=f1.cell c2 zq;replace d0:=f1.cell d0 zq;replace d1:=f1.cell d1 zq;replace d2:=f1.cell d2 zq;clear g1 f1;go_wp2_with (fail);refine (k2.out _).mono ?_;rintro _ w2 ⟨rfl,g2⟩;have h2:=h1.trans g2;go_wp2_with (fail)
   go_ret
   exact ⟨congrArg (fun z=>Ending.returned (.int .i64 z)) hz.out,h2⟩
  ·
   have hz:Hid (1=v):=by show _=_;rw [hv.out];rfl
   clear hv;go_enter Tryz.func70,Tryz.ntmps70;go_wp2_with (fail);try rw [hw0]
   clear hw0;refine (k1.out _).mono ?_;rintro _ w1 ⟨rfl,g1⟩;have f1:=g1.fr;have h1:=hf.trans g1;replace c0:=f1.cell c0 zq;replace c1:=f1.cell c1 zq;replace c2:=f1.cell c2 zq;replace d0:=f1.cell d0 zq;replace d1:=f1.cell d1 zq;replace d2:=f1.cell d2 zq;clear g1 f1;go_wp2_with (fail);refine (k2.out _).mono ?_;rintro _ w2 ⟨rfl,g2⟩;have h2:=h1.trans g2;go_wp2_with (fail)
   go_ret
   exact ⟨congrArg (fun z=>Ending.returned (.int .i64 z)) hz.out,h2⟩
 ·
  have hz:Hid (-1=v):=by show _=_;rw [hv.out];rfl
  clear hv;go_enter Tryz.func70,Tryz.ntmps70;go_wp2_with (fail);try rw [hw0]
  clear hw0;refine (k1.out _).mono ?_;rintro _ w1 ⟨rfl,g1⟩;have h1:=hf.trans g1;go_wp2_with (fail)
  go_ret
  exact ⟨congrArg (fun z=>Ending.returned (.int .i64 z)) hz.out,h1⟩
theorem Ac6 (blk off size:Nat) (w:World):CmpLays Tryz.prog 70 #[] Id.cells 3 Er blk off size w:=
 fun _ _ _ _ x y=>Ac5 x y _
theorem Ac7 (base:Nat) (A:Option Addr) (c:Nat) (xs:List Id) (w:World) (hown:Own w base 41 3 A xs.length c (xs.flatMap Id.cells)) (hlen:xs.length≤1000000):
  Calls Tryz.prog 69 #[.slice A xs.length c,.func (.func 70) #[] #[]] w fun e w'=>e=.returned (.tuple #[])∧
  ∃ys:List Id,ys.Perm xs∧ys.Pairwise (fun x y=>Id.less y x=false)∧Own w' base 41 3 A ys.length c (ys.flatMap Id.cells)∧Fr (fun k=>Ab A=some k) w w':=by
 by_cases h0:xs.length=0
 ·
  have hx:xs=[]:=Aj4 h0;subst hx;have hcon:=AnyF.slices_SortFunc_none Tryz.sortIdents A c (.func (.func 70) #[] #[]) w;refine Calls.mono hcon ?_;rintro e w' ⟨rfl,rfl⟩;exact ⟨rfl,[],List.Perm.refl _,List.Pairwise.nil,hown,Fr.refl _ _⟩
 ·
  obtain ⟨g,rfl⟩:∃g,A=some ⟨g,0,none⟩:=by
   rcases hown.2 with ⟨_,hn⟩|⟨g,cap,cur,hv,_⟩
   · exact absurd hn h0
   ·
    injection hv with hA _ _
    exact ⟨g,hA⟩
  have hrow:=hown.row g rfl;have eg:∀args w,(callFunc 70 args).run Tryz.prog w=.ok (.enter 70 args) w:=enters_of Tryz.func70 (by kernel_rfl) rfl;have hcon:=AnyQ.slices_SortFunc Tryz.sortIdents 3 Tryz.isAgg41 Tryz.sizeOf41 Id.cells (fun _=>rfl) (fun x v hv=>by simp [Id.cells] at hv;rcases hv with rfl|rfl|rfl<;>rfl) Er Yg 70 #[] g 0 c xs.toArray w eg (Ac6 g 0 _ w) (Ye hown) hrow.2 (by simp;omega)
  refine Calls.mono hcon ?_;rintro e w' ⟨rfl,d',n,os,hp,hs,rfl⟩;have hds:d'.size=xs.length:=by rw [hp.1];simp
  have hperm:d'.toList.Perm xs:=by
   have h1:=hp.2.2
   have e1:d'.extract 0 xs.toArray.size=d':=by
    rw [show xs.toArray.size=d'.size from hp.1.symm];simp
   have e2:xs.toArray.extract 0 xs.toArray.size=xs.toArray:=by simp
   rw [e1,e2] at h1;simpa using h1
  refine ⟨rfl,d'.toList,hperm,?_,?_,?_⟩
  ·
   rw [Aj5];intro i j hi hj hij;have h1:=hs i j (Ag7 _) hij (by rw [← hp.1];simpa using hj);rw [Il] at h1;have hi':i<d'.size:=by simpa using hi
   have hj':j<d'.size:=by simpa using hj
   rw [getElem!_pos d' i hi',getElem!_pos d' j hj'] at h1;simpa using h1
  ·
   have h1:=Yf (ys:=d'.toList) n os hown (by omega) (by simpa using hds);simpa using h1
  · exact (Kn w g n _ os).mono (fun k hk e=>by have e':k=g:=e;subst e';rfl)
def E3 (x y:Int × Int):Int:=Bc x.1 y.1
theorem Ix (x y:Int × Int):ltOf E3 x y=decide (x.1<y.1):=by
 unfold ltOf E3 Bc;rw [Ah1,decide_eq_true_iff,decide_eq_true_iff]
 split
 · omega
 · split<;>omega
theorem Ac8:SWO (ltOf E3) where
 irrefl x:=by rw [Ix];simp
 trans x y z h1 h2:=by
  rw [Ix,decide_eq_true_iff] at*;omega
 ntrans x y z h1 h2:=by
  rw [Ix,decide_eq_false_iff_not] at*;omega
theorem Ac9 (x y:Int × Int) (w:World):
  Calls Tryz.prog 37 #[.agg #[.int .i64 x.1,.int .i64 x.2],.agg #[.int .i64 y.1,.int .i64 y.2]] w fun e w'=>e=.returned (.int .i64 (E3 x y))∧GrowOf w w':=by
 have hf:=((GrowOf.refl w).alloc (.cells #[.int .i64 x.1,.int .i64 x.2] 36)).alloc (.cells #[.int .i64 y.1,.int .i64 y.2] 36);have hx:=(Blk.new w 36 #[.int .i64 x.1,.int .i64 x.2]).alloc (.cells #[.int .i64 y.1,.int .i64 y.2] 36);have hy:=Blk.new (w.alloc (.cells #[.int .i64 x.1,.int .i64 x.2] 36)) 36 #[.int .i64 y.1,.int .i64 y.2];rw [Ag8] at hy;have c0:=hx.cell 0;have d0:=hy.cell 0;have hv:Hid (E3 x y=Bc x.1 y.1):=rfl;generalize E3 x y=v at*;go_enter Tryz.func37,Tryz.ntmps37;go_wp2_with (go_at_call 38;(with_reducible refine (Jh _ _ _).mono ?_);rintro _ _ ⟨rfl,rfl⟩)
 go_ret
 exact ⟨by rw [hv.out];rfl,hf⟩
theorem Ad0 (blk off size:Nat) (w:World):CmpLays Tryz.prog 37 #[] Cz 2 E3 blk off size w:=
 fun _ _ _ _ x y=>Ac9 x y _
theorem Ad1 (base:Nat) (A:Option Addr) (c:Nat) (xs:List (Int × Int)) (w:World) (hown:Own w base 36 2 A xs.length c (xs.flatMap Cz)) (hlen:xs.length≤1000000):
  Calls Tryz.prog 36 #[.slice A xs.length c,.func (.func 37) #[] #[]] w fun e w'=>e=.returned (.tuple #[])∧
   ∃ys:List (Int × Int),ys.Perm xs∧ys.Pairwise (fun x y=>x.1≤y.1)∧Own w' base 36 2 A ys.length c (ys.flatMap Cz)∧Fr (fun k=>Ab A=some k) w w':=by
 by_cases h0:xs.length=0
 ·
  have hx:xs=[]:=Aj4 h0;subst hx;have hcon:=AnyF.slices_SortFunc_none Tryz.sortForks A c (.func (.func 37) #[] #[]) w;refine Calls.mono hcon ?_;rintro e w' ⟨rfl,rfl⟩;exact ⟨rfl,[],List.Perm.refl _,List.Pairwise.nil,hown,Fr.refl _ _⟩
 ·
  obtain ⟨g,rfl⟩:∃g,A=some ⟨g,0,none⟩:=by
   rcases hown.2 with ⟨_,hn⟩|⟨g,cap,cur,hv,_⟩
   · exact absurd hn h0
   ·
    injection hv with hA _ _
    exact ⟨g,hA⟩
  have hrow:=hown.row g rfl;have eg:∀args w,(callFunc 37 args).run Tryz.prog w=.ok (.enter 37 args) w:=enters_of Tryz.func37 (by kernel_rfl) rfl;have hcon:=AnyQ.slices_SortFunc Tryz.sortForks 2 Tryz.isAgg36 Tryz.sizeOf36 Cz (fun _=>rfl) (fun x v hv=>by simp [Cz] at hv;rcases hv with rfl|rfl<;>rfl) E3 Ac8 37 #[] g 0 c xs.toArray w eg (Ad0 g 0 _ w) (P6 (enc:=Cz) (fun _=>rfl) (by decide) hown) hrow.2 (by simp;omega)
  refine Calls.mono hcon ?_;rintro e w' ⟨rfl,d',n,os,hp,hs,rfl⟩;have hds:d'.size=xs.length:=by rw [hp.1];simp
  have hperm:d'.toList.Perm xs:=by
   have h1:=hp.2.2
   have e1:d'.extract 0 xs.toArray.size=d':=by
    rw [show xs.toArray.size=d'.size from hp.1.symm];simp
   have e2:xs.toArray.extract 0 xs.toArray.size=xs.toArray:=by simp
   rw [e1,e2] at h1;simpa using h1
  refine ⟨rfl,d'.toList,hperm,?_,?_,?_⟩
  ·
   rw [Aj5];intro i j hi hj hij;have h1:=hs i j (Ag7 _) hij (by rw [← hp.1];simpa using hj);rw [Ix] at h1;have hi':i<d'.size:=by simpa using hi
   have hj':j<d'.size:=by simpa using hj
   rw [getElem!_pos d' i hi',getElem!_pos d' j hj',decide_eq_false_iff_not] at h1;have h2:d'.toList[i]=d'[i]:=by simp
   have h3:d'.toList[j]=d'[j]:=by simp
   rw [h2,h3];omega
  ·
   have h1:=P7 (enc:=Cz) (sz:=2) (fun _=>rfl) (by decide) (ys:=d'.toList) n os hown (by omega) (by simpa using hds);simpa using h1
  · exact (Kn w g n _ os).mono (fun k hk e=>by have e':k=g:=e;subst e';rfl)
end Oq
end
end Go.Proofs.YtkanjaikgphjfaaGreatDoor
