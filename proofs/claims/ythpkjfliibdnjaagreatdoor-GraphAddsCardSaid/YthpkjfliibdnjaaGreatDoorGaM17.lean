/-
  Contracts of the functions that the claim's statement reaches, walked one by one (part 17).
  Conditions: as each theorem says.
-/
import Derived.Test.YthpkjfliibdnjaaGreatDoorGaM6
import Derived.Test.YthpkjfliibdnjaaGreatDoorGaM7
import Derived.Test.YthpkjfliibdnjaaGreatDoorGaM11
import Derived.Test.YthpkjfliibdnjaaGreatDoorGaM12
import Derived.Test.YthpkjfliibdnjaaGreatDoorGaM13
import Derived.Test.YthpkjfliibdnjaaGreatDoorGaM16
set_option maxRecDepth 100000
set_option maxHeartbeats 16000000
open Bool renaming not_false→An3,not_true→An4,or_false→Ao0
open Int renaming tmod_eq_emod_of_nonneg→An2,le_refl→Ao4,tdiv_eq_ediv_of_nonneg→Ao5
open List renaming not_mem_nil→Am7,getElem?_eq_getElem→An1,getElem?_map→An5,mem_of_getElem?→An6,pairwise_singleton→An7,any_cons→An8,any_nil→An9,foldl_cons→Ao1,foldl_nil→Ao2,length_append→Ao3,getElem?_toArray→Ao6,length_drop→Ao7,length_singleton→Ao8,getElem?_eq_none→Ao9,findIdx?_cons→Ap0,any_eq_false→Ap1
open Nat renaming le_trans→Am6,zero_le→Am8,le_refl→An0
open Go.World renaming size_alloc→Am9
namespace Go.Proofs.YthpkjfliibdnjaaGreatDoor
section
open Go.RowKit
attribute [local go_sem ↓] Go.wp_at_zero Go.wp_at_succ
namespace Oq
attribute [local go_sem] An3 An4
attribute [local go_sem ↓] Ei Ch Ea
theorem Ak0 {f:Operand→Value} {d:Option Tmp} {pos:String} {after:Array Edge} {D a v:Int} {A:Option Addr} {w:World} (h0:f (.tmp 45)=.int .i64 D) (h1:f (.tmp 49)=.int .i64 a) (h2:f (.tmp 53)=.int .i64 v) (h3:f (.tmp 55)=.slice A 1 1) (h4:∀v,f (.const v)=v):
  Sem.run Tryz.prog (execOp f ⟨d,.build 44 #[(0,.tmp 45),(2,.const (.int .i64 1)),(1,.const (.int .i64 1)),(3,.tmp 49),(16,.tmp 53),(9,.tmp 55)],44,pos,after,none⟩) w=Result.ok (Next.value (.agg (fsL D a v A).cells)) w:=by
 go_simp;rfl
theorem Sy (base B n c:Nat) (r:RG) (A:Option Addr) (l0:List Int) (w:World) (h:r.own w base) (hcs:r.cards=Ba 0 [1,2,3,1]) (hn:Hid (l0.length=n)) (hr:Rd w B 1 A n (l0.map Iv)) (hok:∀x∈l0,I64 x):
  Calls Tryz.prog 6 #[.agg r.cells,.slice A n c] w (Lz r.cards r.l w):=by
 have az:=h.few;have ck:r.cards.length=4:=by rw [hcs];rfl
 have hi:(Tryz.prog.info? 44).map (·.size)=some 27:=by kernel_rfl
 have bg:=(Blk.new w 29 r.cells).alloc (.cells zO 44);have br:=Blk.new (w.alloc (.cells r.cells 29)) 44 zO;rw [Am9] at br;have f0:Fr Non w ((w.alloc (.cells r.cells 29)).alloc (.cells zO 44)):=((Fr.refl Non w).alloc _).alloc _
 have b5:w.heap.size+2≤((w.alloc (.cells r.cells 29)).alloc (.cells zO 44)).heap.size:=by
  rw [Am9,Am9];exact An0 _
 have hl:=Aq (P:=Tryz.prog) w.heap.size 29 Tryz.underlying29 rfl (cs:=r.cells) Cc;have kA:=Lib.hid (fun (w':World) (hf:Fr Non w w')=>Lr base r w' (h.non hf));have kH:=Lib.hid (fun (B' n' c':Nat) (A':Option Addr) (ids:List Id) (w':World) (hf:Fr Non w w') hn hr hnm=>Ae4 base r B' n' c' A' ids w' (h.non hf) hn hr hnm);have kC:=Lib.hid (fun (B' n' c':Nat) (A':Option Addr) (l1:List Int) (w':World) (hf:Fr Non w w') hn hr hnm=>Af2 base r B' n' c' A' l1 w' (h.non hf) hn hr hnm);have kS:=Lib.hid (fun (B' n' c':Nat) (A':Option Addr) (ids:List Id) (d:Int) (w':World) hn hr hnm hs=>Ad8 r.cells B' n' c' A' ids d w' hn hr hnm hs);have kL:=Lib.hid (fun (B' n' c':Nat) (A':Option Addr) (ids:List Id) (w':World) (hf:Fr Non w w') hn hr hnm=>Ad9 base r B' n' c' A' ids w' (h.non hf) hn hr hnm);have kO:=Lib.hid (fun (b:Int) (m:Nat) (w':World) hb hn=>Ah8 b m w' hb hn);have bp:=Lib.hid (fun (x:Int) (hx:x∈l0) (w':World)=>Hc x 1000000 w' (hok x hx).1 (hok x hx).2 (by decide) (by decide))
 have a8:Hid (∀ids:List Id,(∀id∈ids,(plc r.l id).isSome=true)→ids.length≤200→(E8 r.l ids).length≤500∧(∀x∈E8 r.l ids,x.ok)∧(∀x∈ids,x.s≤2147483647)∧(∀d k,0≤Cf ids d k∧Cf ids d k≤2147483647)∧0≤late r.l ids∧late r.l ids≤2147483647):=by
  intro ids h1 h2;have hs:∀x∈ids,x.s≤2147483647:=fun x hx=>(Ss h.rows h.ok (h1 x hx)).2.2;have hb:=Ai2 h.rows ids;refine ⟨?_,fun x hx=>(Ss h.rows h.ok (h1 x (Ai3 hx).1)).1,hs,fun d k=>Rv (by omega) hs k,hb⟩;have:=Ai4 r.l ids;omega
 have aa:Hid ((∀id∈Am r.ids,(plc r.l id).isSome=true)∧(Am r.ids).length=r.l.length):=by
  have cz:=Sc h.rows;exact ⟨cz.2,by rw [Ej];show (r.l.map Pn.id).length=_;rw [List.length_map]⟩
 have ap:Hid (∀cs,Ed r.l cs→(∀id∈cs,(plc r.l id).isSome=true)∧cs.length≤200):=fun cs hc=>⟨hc.2,Am6 (Ai5 h.rows hc) az⟩;have al:=Lib.hid (fun (d a v:Int) (hd:1≤d∧d≤4) (ha:0≤a∧a≤4) (hv:0≤v∧v≤4)=>Aj1 hcs hd ha hv)
 have af:Hid (∀(y:OpL) (wy wz:World),y.op.ok→y.own wy (w.heap.size+2)→Fr Non w wy→Blk wy (w.heap.size+1) 44 zO→Fr (One (w.heap.size+1)) wy wz→((r.l=[]→Ag r.cards [] y.op=0)∧FewN y.op)→Lz r.cards r.l w (.returned (.agg y.cells)) wz):=by
  intro y wy wz h1 h2 h3 h4 h5 h6;refine ⟨y,rfl,h1,(h2.opBlk h4 h5).lower (by omega),h3.trans h5 (fun k hk e=>absurd hk (by have e2:k=w.heap.size+1:=e;omega)),h6.1,h6.2⟩
 have g0:Hid (r.cells[0]? =some (.slice r.cA r.cards.length r.cC)):=rfl;have g1:Hid (r.cells[1]? =some (.slice r.lA r.l.length r.lC)):=rfl;rw [ck] at g0;have ax:Hid (r.l.length=0→r.l=[]):=fun e=>List.length_eq_zero_iff.1 e;have ad:Hid (r.l=[]→r.l.length=0):=fun e=>by show _=_;rw [e];rfl
 clear h hcs ck;generalize Lz r.cards r.l w=POST at*;unfold Eo at kA;generalize Am r.ids=SI at*;generalize r.lA=LA at*;generalize r.lC=LC at*;generalize r.cA=CA at*;generalize r.cC=CC at*;generalize r.cells=CS at*;generalize r.cards=CD at*;generalize r.l=l at*;obtain ⟨N,hN⟩:=Aa l.length;rw [hN.out] at kA g1 az aa ax ad;clear hN;go_enter Tryz.func6,Tryz.ntmps6;go_upto_region 1 with (fail)
 generalize (w.alloc (.cells CS 29)).alloc (.cells zO 44)=w0 at*;go_wp2_with (fail)
 go_loopw [5,6] (fun s v wr=>∃(j:Nat) (Ax:Option Addr) (cx:Nat) (ks:List Nat),v=.int .i64 (j:Int)∧s=.slice Ax j cx∧j≤4∧Hid (ks.length=j)∧Hid (∀x∈ks,x<1000000)∧Own wr w0.heap.size 3 1 Ax j cx (ks.map Qv)∧Fr Non w0 wr) (fun _ v _=>4-(intOf v).toNat)
 case atStart=>exact ⟨0,none,0,[],rfl,rfl,by omega,rfl,fun x hx=>absurd hx Am7,Own.nil _ _ _ _,Fr.refl _ _⟩
 case round=>
 obtain ⟨j,Ax,cx,ks,rfl,rfl,hj,b6,a7,ao,hf⟩:=hrel;have a5:Fr Non w wr:=f0.trans hf zr
 by_cases hlt:j<4
 ·
  have i1:decide ((j:Int)<4)=true:=decide_eq_true (by omega);have dr:=Am6 b5 hf.size;have bs:=ao.row;clear af kA kH kC kS kL kO a8 aa ap al ax ad g0 g1 bg br
  as_aux_lemma=>
  go_upto_if 17 with (fail)
  go_cut [7] from 17 to 22 (fun s wc=>∃q:Nat,s=.int .i64 (q:Int)∧q<1000000∧Own wc w0.heap.size 3 1 Ax j cx (ks.map Qv)∧Fr Non w0 wc)
  case first=>
   by_cases hjn:j<n
   ·
    obtain ⟨b,ai,u,rfl,dq,hu,c0⟩:=hr.at hjn;obtain ⟨x,hx⟩:∃x,l0[j]? =some x:=⟨_,An1 (by rw [hn.out];exact hjn)⟩;rw [An5,hx] at hu;injection hu with hu
    subst hu;replace c0:w.cell? ⟨b,ai+j,none⟩=some (.int .i64 x):=c0;have c1:=a5.cell c0 zq;have kx:=Lib.hid (bp.out x (An6 hx));obtain ⟨dd,cn⟩:=Hb (n:=x) (m:=1000000) (by decide);obtain ⟨p,hp⟩:∃p:Nat,Cy x 1000000=(p:Int):=⟨(Cy x 1000000).toNat,by omega⟩;rw [hp] at kx cn;have j1:(0:Int)≤j:=by omega
    have j2:(j:Int)<n:=by omega
    have j3:(j:Int).toNat=j:=by omega
    have t:decide ((j:Int)<(n:Int))=true:=decide_eq_true (by omega);have db:Hid (p<1000000):=by show p<1000000;omega
    clear bp hx hok hp dd cn;go_wp2_with (go_at_call 26;(with_reducible refine (kx.out _).mono ?_);rintro _ v ⟨rfl,ew⟩;have fq:Fr Non wr v:=ew▸Fr.refl _ _;clear ew);go_meet;exact ⟨p,rfl,db.out,ao.fr fq zr,hf.trans fq zr⟩
   ·
    have t:decide ((j:Int)<(n:Int))=false:=decide_eq_false (by omega);go_wp2_with (fail);go_meet;exact ⟨0,rfl,by omega,ao,hf⟩
  case rest=>
   obtain ⟨q,rfl,hq,bu,fc⟩:=hcut;have bm:=Am6 b5 fc.size;have au:=Blk.new wc 3 #[.int .i64 (q:Int)];have ay:=bu.alloc (.cells #[.int .i64 (q:Int)] 3);go_wp2_with (at_builtin;go_loud (refine Az (base:=w0.heap.size) (.tmp 23) (.tmp 25) 22 rfl rfl rfl rfl Ju ay (Rd.blk (n:=1) (size:=1) au rfl) (by simp [Value.oneCell']) (by omega) (by omega) (by rw [Am9];have h8:=fc.size;omega) ?_);intro A2 c2 w4 b4 dg de);have fz:Fr Non w0 w4:=(fc.alloc _).trans dg (fun k hk e=>by have h9:=(bs k e).1;have h8:=hf.size;omega)
   have ar:Own w4 w0.heap.size 3 1 A2 (j+1) c2 ((ks++[q]).map Qv):=by
    rw [List.map_append];exact b4
   go_roundw
   case rel=>exact ⟨j+1,A2,c2,ks++[q],by go_num,rfl,by omega,(by show _=_;rw [Ao3,b6.out];rfl),(fun x hx=>by rcases List.mem_append.1 hx with h1|h1;exact a7.out x h1;obtain rfl:=List.mem_singleton.1 h1;exact hq),ar,fz⟩
   case measure=>simp [intOf];omega
 ·
  obtain rfl:j=4:=by omega
  have i1:decide ((4:Int)<4)=false:=rfl
  obtain ⟨k0,k1,k2,k3,rfl⟩:∃a b c d,ks=[a,b,c,d]:=by
   match ks,b6.out with
   |[a,b,c,d],_=>exact ⟨a,b,c,d,rfl⟩
  have q0:k0<1000000:=a7.out k0 (by simp);have q1:k1<1000000:=a7.out k1 (by simp);have q2:k2<1000000:=a7.out k2 (by simp);have q3:k3<1000000:=a7.out k3 (by simp);obtain ⟨_,h4|⟨b,ai,rfl,dm,hc⟩⟩:=ao.rd
  · exact absurd h4 (by decide)
  have L0:wr.cell? ⟨b,ai,none⟩=some (.int .i64 (k0:Int)):=hc 0 _ rfl;have L1:wr.cell? ⟨b,ai+1,none⟩=some (.int .i64 (k1:Int)):=hc 1 _ rfl;have L2:wr.cell? ⟨b,ai+2,none⟩=some (.int .i64 (k2:Int)):=hc 2 _ rfl;have L3:wr.cell? ⟨b,ai+3,none⟩=some (.int .i64 (k3:Int)):=hc 3 _ rfl;replace bg:=bg.fr hf zq;replace br:=br.fr hf zq;have e0:((k0:Nat):Int).tmod 4=(k0:Int)%4:=An2 (by omega);have e1:((k1:Nat):Int).tmod 3=(k1:Int)%3:=An2 (by omega);have e2:((k2:Nat):Int).tmod 5=(k2:Int)%5:=An2 (by omega);have e3:((k3:Nat):Int).tmod 5=(k3:Int)%5:=An2 (by omega);have e4:((k2:Nat):Int).tmod 3=(k2:Int)%3:=An2 (by omega);have e5:((k1:Nat):Int).tdiv 3=(k1:Int)/3:=Ao5 (by omega);have e6:((k1:Nat):Int).tdiv 100=(k1:Int)/100:=Ao5 (by omega);have e7:IntKind.i64.wrap (1+(k0:Int)%4)=1+(k0:Int)%4:=IntWalk.i64_in _ (by omega);have e8:IntKind.i64.wrap ((k1:Int)/3)=(k1:Int)/3:=IntWalk.i64_in _ (by omega);have e9:IntKind.i64.wrap ((k1:Int)/100)=(k1:Int)/100:=IntWalk.i64_in _ (by omega);have bl:=Am6 b5 hf.size;have d0:=(bg.cell 0).trans g0.out;have d1:=(bg.cell 1).trans g1.out;clear hc a7 b6 ao hf f0 bp hr hn hok hlt hj g0 g1 dm;generalize wr=w1 at*;go_upto_region 9 with (fail)
  go_cut [8] from 27 to 39 (fun s wc=>∃(y0:OpL) (gO:Nat),s=.pointer (some ⟨gO,0,none⟩)∧Blk wc gO 44 y0.cells∧y0.by_=1+(k0:Int)%4∧y0.op.ok∧y0.own wc (w.heap.size+2)∧w1.heap.size≤gO∧Fr Non w1 wc)
  case first=>
   clear af kA kH kC kS kL a8 aa ap al ax ad
   as_aux_lemma=>
   have G0:=d0;have F0:Fr Non w1 w1.drew:=(Fr.refl Non w1).drew;have kq:=Lib.hid (fun (w':World)=>kO.out (1+(k0:Int)%4) k3 w' ⟨by omega,by omega⟩ (by omega));have M0:=L0;have K0:=L3;refine Cq (S:=fun w'=>w'.cell? ⟨w.heap.size,0,none⟩=some (.slice CA 4 CC)∧w'.cell? ⟨b,ai,none⟩=some (.int .i64 (k0:Int))∧w'.cell? ⟨b,ai+3,none⟩=some (.int .i64 (k3:Int))) 14 (by kernel_rfl) ?_;refine tkG 0 ⟨G0,M0,K0⟩ (h:=tkG 1 ⟨G0,M0,K0⟩ (h:=tkG 2 ⟨G0,M0,K0⟩ (h:=tkG 3 ⟨G0,M0,K0⟩ (h:=tkG 4 ⟨G0,M0,K0⟩ (h:=tkG 5 ⟨G0,M0,K0⟩ (h:=tkG 6 ⟨G0,M0,K0⟩ (h:=tkG 7 ⟨G0,M0,K0⟩ (h:=tkG 8 ⟨G0,M0,K0⟩ (h:=tkG 9 ⟨G0,M0,K0⟩ (h:=tkG 10 ⟨G0,M0,K0⟩ (h:=tkG 11 ⟨G0,M0,K0⟩ (h:=?_))))))))))));simp only [List.set];refine Sn 12 13 (by kernel_rfl) rfl rfl (fun K' hK=> ?_) (fun K' hK=> ?_)
   ·
    skip
    go_simp;go_wp2_with (go_at_call 27;(with_reducible refine (kq.out _).mono ?_);rintro _ v1 ⟨y0,rfl,aq,ah,ag,ab⟩;have F1:=F0.trans ab zr;have ay:=ag.lower (base':=w.heap.size+2) bl);have G1:=F1.cell G0 zq;have M1:=F1.cell M0 zq;have K1:=F1.cell K0 zq;refine hK.out _ _ ⟨G1,M1,K1⟩ (fun hZ=> ?_);clear hZ hK K';try simp only [Ab,List.set]
    refine Bc 13 (by kernel_rfl) rfl (fun K' hK=> ?_);go_simp;have au:=Blk.new v1 44 zO;have a3:=ay.non ((Fr.refl Non v1).alloc (.cells zO 44));have F2:Fr Non w1 (v1.alloc (.cells zO 44)):=F1.alloc _;have bc:=F1.size;obtain ⟨ga,bk⟩:=Aa v1.heap.size;rw [bk.out] at au bc ⊢;generalize v1.alloc (.cells zO 44)=v2 at*;have G2:=F2.cell G0 zq;have M2:=F2.cell M0 zq;have K2:=F2.cell K0 zq;refine hK.out _ _ ⟨G2,M2,K2⟩ (fun hZ=> ?_);clear hZ hK K';try simp only [Ab,List.set]
    have a4:=Bm y0;have bb:=Bf (P:=Tryz.prog) ga 44 (cs:=y0.cells) hi (old:=zO) rfl a4;refine Co (by kernel_rfl) ?_;refine oG 14 (fun K' hK=> ?_);go_simp;have av:=a3.opBlk au (Bp y0.cells);have b3:=au.setRow (cs:=y0.cells);have F3:Fr Non w1 (v2.setRow ga y0.cells):=F2.setRow (fun hh=>absurd hh (by omega)) _;refine hK.out _ _ trivial (fun hZ=> ?_);clear hZ hK K';try simp only [Ab,List.set]
    refine oD ?_;go_simp;go_wp2_with (fail);go_meet;exact ⟨y0,ga,rfl,b3,aq,ah,av,bc,F3⟩
   ·
    skip
    go_simp;have bf:=(Blk.new w1 44 zO).drew;have F1:Fr Non w1 (w1.alloc (.cells zO 44)).drew:=((Fr.refl Non w1).alloc _).drew;have c6:w.heap.size+2≤(w1.alloc (.cells zO 44)).drew.heap.size:=Am6 bl F1.size;have bc:w1.heap.size≤w1.heap.size:=An0 _;obtain ⟨ga,bk⟩:∃x,Hid (w1.heap.size=x):=Aa _;rw [bk.out] at bf ⊢;have bc:w1.heap.size≤ga:=by rw [bk.out];exact An0 _
    generalize (w1.alloc (.cells zO 44)).drew=v1 at*;have G1:=F1.cell G0 zq;have M1:=F1.cell M0 zq;have K1:=F1.cell K0 zq;refine hK.out _ _ ⟨G1,M1,K1⟩ (fun hZ=> ?_);clear hZ hK K';try simp only [Ab,List.set]
    refine Bc 12 (by kernel_rfl) rfl (fun K' hK=> ?_);go_simp;go_wp2_with (go_at_call 27;(with_reducible refine (kq.out _).mono ?_);rintro _ v2 ⟨y0,rfl,aq,ah,ag,ab⟩;have F2:=F1.trans ab zr;have a3:=ag.lower (base':=w.heap.size+2) c6;have au:=bf.fr ab zq);have G2:=F2.cell G0 zq;have M2:=F2.cell M0 zq;have K2:=F2.cell K0 zq;refine hK.out _ _ ⟨G2,M2,K2⟩ (fun hZ=> ?_);clear hZ hK K';try simp only [Ab,List.set]
    have a4:=Bm y0;have bb:=Bf (P:=Tryz.prog) ga 44 (cs:=y0.cells) hi (old:=zO) rfl a4;refine Co (by kernel_rfl) ?_;refine oG 14 (fun K' hK=> ?_);go_simp;have av:=a3.opBlk au (Bp y0.cells);have b3:=au.setRow (cs:=y0.cells);have F3:Fr Non w1 (v2.setRow ga y0.cells):=F2.setRow (fun hh=>absurd hh (by omega)) _;refine hK.out _ _ trivial (fun hZ=> ?_);clear hZ hK K';try simp only [Ab,List.set]
    refine oD ?_;go_simp;go_wp2_with (fail);go_meet;exact ⟨y0,ga,rfl,b3,aq,ah,av,bc,F3⟩
  case rest=>
  obtain ⟨y0,gO,rfl,bO,aq,ah,ag,bq,f2⟩:=hcut;generalize wc=wb at*;have hD:1≤1+(k0:Int)%4∧1+(k0:Int)%4≤4:=by omega
  obtain ⟨D,cf⟩:∃D:Nat,1+(k0:Int)%4=(D:Int):=⟨(1+(k0:Int)%4).toNat,by omega⟩;rw [cf] at aq hD;have du:1≤D∧D≤4:=by omega
  clear cf hD kO L0 d0 q0;have di:=f2.cell d1 zq
  by_cases hz:N=0
  ·
   have t:((N:Int)==0)=true:=by simp [hz]
   clear kA kH kC kS kL a8 aa ap L1;have dv:=ax.out hz
   as_aux_lemma=>
   go_upto_region 11 with (fail)
   have F0:Fr Non w1 wb.drew:=f2.drew;have Y0:wb.cell? ⟨gO,0,none⟩=some (.int .i64 (D:Int)):=by rw [bO.cell 0];show some (Value.int .i64 y0.by_)=_;rw [aq]
   have M0:=f2.cell L2 zq;have K0:=f2.cell L3 zq;refine Cq (S:=fun w'=>w'.cell? ⟨gO,0,none⟩=some (.int .i64 (D:Int))∧w'.cell? ⟨b,ai+2,none⟩=some (.int .i64 (k2:Int))∧w'.cell? ⟨b,ai+3,none⟩=some (.int .i64 (k3:Int))) 13 (by kernel_rfl) ?_;refine tkG 0 ⟨Y0,M0,K0⟩ (h:=tkG 1 ⟨Y0,M0,K0⟩ (h:=tkG 2 ⟨Y0,M0,K0⟩ (h:=tkG 3 ⟨Y0,M0,K0⟩ (h:=tkG 4 ⟨Y0,M0,K0⟩ (h:=tkG 5 ⟨Y0,M0,K0⟩ (h:=tkG 6 ⟨Y0,M0,K0⟩ (h:=tkG 7 ⟨Y0,M0,K0⟩ (h:=tkG 8 ⟨Y0,M0,K0⟩ (h:=tkG 9 ⟨Y0,M0,K0⟩ (h:=tkG 10 ⟨Y0,M0,K0⟩ (h:=?_)))))))))));simp only [List.set];refine Bc 11 (by kernel_rfl) rfl (fun K' hK=> ?_);go_simp;have nP:=(Blk.new wb 71 #[.int .u64 5,.slice none 0 0]).drew;have ab:Fr Non wb (wb.alloc (.cells #[.int .u64 5,.slice none 0 0] 71)).drew:=((Fr.refl Non wb).alloc _).drew;have cb:=Am6 bl f2.size;obtain ⟨gp,bx⟩:=Aa wb.heap.size;rw [bx.out] at nP cb ⊢;generalize (wb.alloc (.cells #[.int .u64 5,.slice none 0 0] 71)).drew=v1 at*;have Y1:=ab.cell Y0 zq;have M1:=ab.cell M0 zq;have K1:=ab.cell K0 zq;refine hK.out _ _ ⟨Y1,M1,K1⟩ (fun hZ=> ?_);clear hZ hK K';try simp only [Ab,List.set]
   refine Et (i:=12) (v:=?_) rfl (by kernel_rfl) (by kernel_rfl) (by kernel_rfl) (by kernel_rfl) (fun _ _ _ h=>h) (Or.inl ⟨by kernel_rfl,?_⟩) ⟨Y1,M1,K1⟩ ?_;rotate_left
   focus (intro w' dw;refine Ak0 (D:=(D:Int)) (a:=(k2:Int)%5) (v:=(k3:Int)%5) (A:=some ⟨gp,0,none⟩) ?_ ?_ ?_ ?_ ?_;rfl;rfl;rfl;rfl;exact fun _=>rfl)
   simp only [List.set];have bv:=bO.fr ab zq;have bb:=Bf (P:=Tryz.prog) gO 44 (cs:=(fsL (D:Int) ((k2:Int)%5) ((k3:Int)%5) (some ⟨gp,0,none⟩)).cells) hi (old:=y0.cells) rfl (Bm _);refine Co (by kernel_rfl) ?_;refine oG 13 (fun K' hK=> ?_);go_simp;have dn:=bv.setRow (cs:=(fsL (D:Int) ((k2:Int)%5) ((k3:Int)%5) (some ⟨gp,0,none⟩)).cells)
   have oP:Own v1 (w.heap.size+2) 71 2 (some ⟨gp,0,none⟩) 1 1 (([⟨5,none,0,[]⟩]:List NdL).flatMap NdL.cells):=by
    have h5:=Own.blk (base:=w.heap.size+2) (n:=1) (size:=2) nP cb (by omega) rfl (by omega);simpa [NdL.cells] using h5
   have a9:(fsL (D:Int) ((k2:Int)%5) ((k3:Int)%5) (some ⟨gp,0,none⟩)).own (v1.setRow gO (fsL (D:Int) ((k2:Int)%5) ((k3:Int)%5) (some ⟨gp,0,none⟩)).cells) (w.heap.size+2):=(Ai9 (RowAt.of_own oP)).opBlk bv (Bp _);have fv:Fr Non w1 (v1.setRow gO (fsL (D:Int) ((k2:Int)%5) ((k3:Int)%5) (some ⟨gp,0,none⟩)).cells):=(f2.trans ab zr).setRow (fun hh=>absurd hh (by omega)) _;have ae:(fsL (D:Int) ((k2:Int)%5) ((k3:Int)%5) (some ⟨gp,0,none⟩)).op.ok:=Ai8 ⟨by omega,by omega⟩ ⟨by omega,by omega⟩ ⟨by omega,by omega⟩;have dc:Ag CD [] (sgn (fsL (D:Int) ((k2:Int)%5) ((k3:Int)%5) (some ⟨gp,0,none⟩)).op)=0:=al.out (D:Int) ((k2:Int)%5) ((k3:Int)%5) (by omega) (by omega) (by omega);have ac:FewN (fsL (D:Int) ((k2:Int)%5) ((k3:Int)%5) (some ⟨gp,0,none⟩)).op:=⟨Am8 _,(by show (1:Int)≤(D:Int);omega),(by show (D:Int)≤4;omega)⟩;have aj:(fsL (D:Int) ((k2:Int)%5) ((k3:Int)%5) (some ⟨gp,0,none⟩)).by_=(D:Int):=rfl;generalize fsL (D:Int) ((k2:Int)%5) ((k3:Int)%5) (some ⟨gp,0,none⟩)=X at*;refine hK.out _ _ trivial (fun hZ=> ?_);clear hZ hK K';try simp only [Ab,List.set]
   refine oD ?_;go_simp;generalize v1.setRow gO X.cells=v2 at*;clear bv nP oP Y0 Y1 M0 M1 K0 K1 bb ab;have dl:=Aq (P:=Tryz.prog) gO 44 Tryz.underlying44 rfl (cs:=X.cells) hi;have fw:Fr Non w v2:=a5.trans fv zr;have b8:=br.fr fv zq;have a2:=Lib.hid (Sv X D (w.heap.size+2) v2 aj (by omega) a9 ae)
   have ak:Hid (∀y:OpL,y.op=sgn X.op→y.op.ok∧((l=[]→Ag CD [] y.op=0)∧FewN y.op)):=fun y e=>by
    rw [e];exact ⟨Fm ae,fun _=>dc,FewN.sgn ac⟩
   have da:(Tryz.prog.info? 44).map (·.size)=some X.cells.size:=hi;clear al ax ad a9 ae aj ac;unfold Ly at a2;generalize sgn X.op=SO at*;generalize X.cells=XC at*;go_wp2_with (go_at_call 28;(with_reducible refine (a2.out).mono ?_);rintro _ w5 ⟨y,rfl,be,bj,f5⟩;go_loud (have bi:=b8.fr f5 zq;have aw:=Lib.hid (ak.out y be);have hd:=Lib.hid (fun wz hz=>af.out y w5 wz aw.out.1 bj (fw.trans f5 zr) bi hz aw.out.2);have bb:=Bf (P:=Tryz.prog) (w.heap.size+1) 44 (cs:=y.cells) hi (old:=zO) rfl (Bm y);have b0:(Tryz.prog.info? 44).map (·.size)=some y.cells.size:=hi;clear af aw be bj ak a2;generalize y.cells=YC at*));have bw:=bi.setRow (cs:=YC);have b9:=Lib.hid (hd.out _ (Bp YC))
   (try simp only [Exit.inBlock,Exit.then])
   refine Cu (t:=44) rfl rfl bw rfl Tryz.underlying44 b0 rfl ?_;exact b9.out
  ·
   have t:((N:Int)==0)=false:=by simp [hz]
   clear L3 q3 al;have ca:=bg.fr f2 zq;have cg:=f2.cell L1 zq;have bm:=Am6 bl f2.size;have cr:Fr Non w wb:=a5.trans f2 zr;rw [← aa.out.2] at kA;go_upto_region 14 with (go_at_call 21;(with_reducible refine (kA.out _ cr).mono ?_);rintro _ v0 ⟨A9,c9,rfl,o9,f9⟩)
   have ch:=f9.cell cg zq;have B0:=ca.fr f9 zq;have cm:Fr Non w v0:=cr.trans f9 zr;have cl:=Am6 bm f9.size;replace o9:=o9.lower bm
   go_upto_if 65 with (fail)
   go_cut [9] from 65 to 76 (fun s wd=>∃(ids:List Id) (A9:Option Addr) (c9:Nat),s=.slice A9 ids.length c9∧Own wd (w.heap.size+2) 36 3 A9 ids.length c9 (ids.flatMap Id.cells)∧Hid (∀id∈ids,(plc l id).isSome=true)∧Hid (ids.length≤200)∧Fr Non wb wd)
   case first=>
    clear af kH kS kL a8 ax ad ah ag bO
    as_aux_lemma=>
    by_cases ht:k1%3=1
    ·
     have t2:((k1:Int)%3==1)=true:=by simp;omega
     go_upto_region 15 with (fail)
     have Q0:=ch;refine wp_region_held_drew (S:=fun w'=>Blk w' w.heap.size 29 CS∧w'.cell? ⟨b,ai+1,none⟩=some (.int .i64 (k1:Int))) (by kernel_rfl) ⟨B0,Q0⟩ (fun hHeld=> ?_);clear hHeld;refine tkH 0 ⟨B0,Q0⟩ (h:=tkH 1 ⟨B0,Q0⟩ (h:=tkH 2 ⟨B0,Q0⟩ (h:=tkH 3 ⟨B0,Q0⟩ (h:=tkH 4 ⟨B0,Q0⟩ (h:=tkH 5 ⟨B0,Q0⟩ (h:=tkH 6 ⟨B0,Q0⟩ (h:=tkH 7 ⟨B0,Q0⟩ (h:=tkH 8 ⟨B0,Q0⟩ (h:=?_)))))))));simp only [List.set];refine oG 9 (fun K' hK=> ?_);go_simp;have nP:=(Blk.new v0 3 #[.int .i64 ((k1:Int)/3),.int .i64 ((k1:Int)/100)]).drew;have ab:Fr Non v0 (v0.alloc (.cells #[.int .i64 ((k1:Int)/3),.int .i64 ((k1:Int)/100)] 3)).drew:=((Fr.refl Non v0).alloc _).drew;obtain ⟨gp,bx⟩:=Aa v0.heap.size;rw [bx.out] at nP ⊢;generalize (v0.alloc (.cells #[.int .i64 ((k1:Int)/3),.int .i64 ((k1:Int)/100)] 3)).drew=v1 at*;have B1:=B0.fr ab zq;have Q1:=ab.cell Q0 zq;refine hK.out _ _ ⟨B1,Q1⟩ (fun hZ=> ?_);clear hZ hK K';try simp only [Ab,List.set]
     have co:=Lib.hid (kC.out _ 2 2 (some ⟨gp,0,none⟩) [(k1:Int)/3,(k1:Int)/100] v1 (cm.trans ab zr) rfl (Rd.blk (n:=2) (size:=1) nP rfl) (fun x hx=>by
      rcases List.mem_cons.1 hx with rfl|hx
      · exact ⟨by omega,by omega⟩
      ·
       obtain rfl:=List.mem_singleton.1 hx;exact ⟨by omega,by omega⟩))
     unfold Jb at co;refine oG 10 (fun K' hK=> ?_);go_simp;go_wp2_with (go_at_call 29;(with_reducible refine (co.out).mono ?_);rintro _ v2 ⟨cs,⟨A8,c8,rfl,o8,bt⟩,c7,ds⟩;have B2:=B1.fr bt zq;have Q2:=bt.cell Q1 zq);refine hK.out _ _ ⟨B2,Q2⟩ (fun hZ=> ?_);clear hZ hK K';try simp only [Ab,List.set]
     refine tkH 11 ⟨B2,Q2⟩ (h:=?_);simp only [List.set];refine oD ?_;go_simp;have cc:=ap.out cs c7;go_wp2_with (fail);go_meet;exact ⟨cs,A8,c8,rfl,o8.lower (Am6 cl ab.size),cc.1,cc.2,(f9.trans ab zr).trans bt zr⟩
    ·
     have t2:((k1:Int)%3==1)=false:=by simp;omega
     go_wp2_with (fail);go_meet;exact ⟨SI,A9,c9,rfl,o9,aa.out.1,by show _≤_;rw [aa.out.2];exact az,f9⟩
   case rest=>
   clear o9 ch B0 cm cl f9;obtain ⟨ids,A8,c8,rfl,o9,cp,cq,f3⟩:=hcut;generalize wc=wd at*;obtain ⟨p1,p2,p3,p4,p5⟩:=a8.out ids cp.out cq.out;have cv:=cq.out;have dp:=p4 (D:Int) ids.length;have bn:Fr Non w1 wd:=f2.trans f3 zr;have cj:=bO.fr f3 zq;have ba:=ag.non f3;have kh:=Lib.hid (kH.out _ ids.length c8 A8 ids wd (a5.trans bn zr) rfl o9.rd (by omega));have ks:=Lib.hid (fun (w':World) (ho:Own w' (w.heap.size+2) 36 3 A8 ids.length c8 (ids.flatMap Id.cells))=>kS.out _ ids.length c8 A8 ids (D:Int) w' rfl ho.rd (by omega) p3);have kl:=Lib.hid (fun (w':World) (hf:Fr Non w w') (ho:Own w' (w.heap.size+2) 36 3 A8 ids.length c8 (ids.flatMap Id.cells))=>kL.out _ ids.length c8 A8 ids w' hf rfl ho.rd (by omega));have bo:=Lib.hid (And.intro p1 p2);clear kA kH kC kS kL a8 aa ap L1 cg q1 p4 cp ag bO ca d1 di p1 p2 p3;unfold Cg at kh;generalize E8 l ids=HL at*;generalize Cf ids (D:Int) ids.length=SQ at*;generalize late l ids=LT at*;have df:=bg.fr bn zq;have YC:y0.cells.size=27:=rfl;have dh:Hid (y0.cells[0]? =some (.int .i64 (D:Int))):=by show some (Value.int .i64 y0.by_)=_;rw [aq]
   have dj:Hid (y0.cells[1]? =some (.int .i64 y0.sq)):=rfl;have cw:Hid (y0.cells[3]? =some (.int .i64 y0.at_)):=rfl;have cy:Hid (y0.cells[4]? =some (.slice y0.pastA y0.past.length y0.pastC)):=rfl;have dk:=Am6 bm f3.size;generalize wd=w3 at*;go_upto_region 17 with (go_at_call 30;(with_reducible refine (kh.out).mono ?_);rintro _ v3 ⟨A4,c4,rfl,o4,f4⟩;have a1:=cj.fr f4 zq;have m4:=(a1.cell 4).trans cy.out;have z4:=a1.frozen 4)
   have bz:Fr Non w1 (v3.setCell ⟨gO,4,none⟩ (.slice A4 HL.length c4)):=(bn.trans f4 zr).setNew bq 4 _;have b1:=a1.set 4 (.slice A4 HL.length c4);have b7:=Own.setFar (i:=4) (o9.fr f4 zr) a1 (by decide) (.slice A4 HL.length c4);have ct:=Own.setFar (i:=4) (o4.lower dk) a1 (by decide) (.slice A4 HL.length c4);have ar:=(ba.non f4).opBlk a1 (Lx (i:=4) (.slice A4 HL.length c4));generalize v3.setCell ⟨gO,4,none⟩ (.slice A4 HL.length c4)=w4 at*;clear kh m4 z4 a1 cj f4 o4 o9 ba bn df;have c3:=bg.fr bz zq;have Y4:w4.cell? ⟨gO,0,none⟩=some (.int .i64 (D:Int)):=(b1.cell 0).trans dh.out;go_upto_region 18 with (go_at_call 31;(with_reducible refine (ks.out _ b7).mono ?_);rintro _ v4 ⟨rfl,f5⟩;have a0:=b1.fr f5 zq;have m5:v4.cell? ⟨gO,1,none⟩=some (.int .i64 y0.sq):=(a0.cell 1).trans dj.out;have z5:=a0.frozen 1)
   have b2:Fr Non w1 (v4.setCell ⟨gO,1,none⟩ (.int .i64 (SQ+1))):=(bz.trans f5 zr).setNew bq 1 _;have ce:=a0.set 1 (.int .i64 (SQ+1));have cu:=Own.setFar (i:=1) (b7.fr f5 zr) a0 (by decide) (.int .i64 (SQ+1));have cd:=Own.setFar (i:=1) (ct.fr f5 zr) a0 (by decide) (.int .i64 (SQ+1));have bh:=(ar.non f5).opBlk a0 (Lx (i:=1) (.int .i64 (SQ+1)));generalize v4.setCell ⟨gO,1,none⟩ (.int .i64 (SQ+1))=w5 at*;clear ks m5 z5 a0 b1 f5 b7 ct ar bz Y4 c3;have B0:=(bg.fr b2 zq).drew;have M0:w5.drew.cell? ⟨b,ai+2,none⟩=some (.int .i64 (k2:Int)):=b2.cell L2 zq;have F0:Fr Non w1 w5.drew:=b2.drew;have dt:IntKind.i64.wrap (LT+(k2:Int)%3)=LT+(k2:Int)%3:=IntWalk.i64_in _ (by omega);refine Cq (S:=fun w'=>Blk w' w.heap.size 29 CS∧w'.cell? ⟨b,ai+2,none⟩=some (.int .i64 (k2:Int))) 9 (by kernel_rfl) ?_;refine tkG 0 ⟨B0,M0⟩ (h:=tkG 1 ⟨B0,M0⟩ (h:=tkG 3 ⟨B0,M0⟩ (h:=tkG 4 ⟨B0,M0⟩ (h:=tkG 5 ⟨B0,M0⟩ (h:=tkG 6 ⟨B0,M0⟩ (h:=?_))))));simp only [List.set];refine Bc 2 (by kernel_rfl) rfl (fun K' hK=> ?_);go_simp;go_wp2_with (go_at_call 32;(with_reducible refine (kl.out _ (a5.trans F0 zr) cu.drew).mono ?_);rintro _ v1 ⟨rfl,ab⟩;go_loud (have B1:=B0.fr ab zq;have M1:=ab.cell M0 zq));refine hK.out _ _ ⟨B1,M1⟩ (fun hZ=> ?_);clear hZ hK K';try simp only [Ab,List.set]
   refine tkG 7 ⟨B1,M1⟩ (h:=tkG 8 ⟨B1,M1⟩ (h:=?_));simp only [List.set];have fq:Fr Non w5 v1:=((Fr.refl Non w5).drew).trans ab zr;have a6:=ce.fr fq zq;have m8:v1.cell? ⟨gO,3,none⟩=some (.int .i64 y0.at_):=(a6.cell 3).trans cw.out;have z8:=a6.frozen 3;refine Co (by kernel_rfl) ?_;refine oG 9 (fun K' hK=> ?_);go_simp;have AT:(Value.int .i64 (LT+(k2:Int)%3))=.int .i64 (LT+(k2:Int)%3):=rfl;have fv:Fr Non w1 (v1.setCell ⟨gO,3,none⟩ (.int .i64 (LT+(k2:Int)%3))):=(F0.trans ab zr).setNew bq 3 _;have dn:Blk (v1.setCell ⟨gO,3,none⟩ (.int .i64 (LT+(k2:Int)%3))) gO 44 (nxL y0 A4 c4 HL (SQ+1) (LT+(k2:Int)%3)).cells:=a6.set 3 (.int .i64 (LT+(k2:Int)%3));have ci:=Own.setFar (i:=3) (cd.fr fq zr) a6 (by decide) (.int .i64 (LT+(k2:Int)%3));have bd:=(bh.non fq).opBlk a6 (Lx (i:=3) (.int .i64 (LT+(k2:Int)%3)));have a9:=Ai7 (s:=SQ+1) (a:=LT+(k2:Int)%3) bd (RowAt.of_own ci);have ae:(nxL y0 A4 c4 HL (SQ+1) (LT+(k2:Int)%3)).op.ok:=Ai6 ah ⟨Am6 bo.out.1 (by decide),bo.out.2⟩ ⟨by omega,by omega⟩ ⟨by omega,by omega⟩;have ac:FewN (nxL y0 A4 c4 HL (SQ+1) (LT+(k2:Int)%3)).op:=⟨bo.out.1,(by show (1:Int)≤y0.by_;rw [aq];omega),(by show y0.by_≤4;rw [aq];omega)⟩;have aj:(nxL y0 A4 c4 HL (SQ+1) (LT+(k2:Int)%3)).by_=(D:Int):=aq;have c5:l≠[]:=fun e=>hz (ad.out e);generalize nxL y0 A4 c4 HL (SQ+1) (LT+(k2:Int)%3)=X at*;refine hK.out _ _ trivial (fun hZ=> ?_);clear hZ hK K';try simp only [Ab,List.set]
   refine oD ?_;go_simp;generalize v1.setCell ⟨gO,3,none⟩ (.int .i64 (LT+(k2:Int)%3))=v2 at*;clear ce a6 m8 z8 ci bd cd bh cu M0 M1 B0 B1 F0 fq ab kl bo ah AT;have dl:=Aq (P:=Tryz.prog) gO 44 Tryz.underlying44 rfl (cs:=X.cells) hi;have fw:Fr Non w v2:=a5.trans fv zr;have b8:=br.fr fv zq;have a2:=Lib.hid (Sv X D (w.heap.size+2) v2 aj (by omega) a9 ae)
   have ak:Hid (∀y:OpL,y.op=sgn X.op→y.op.ok∧((l=[]→Ag CD [] y.op=0)∧FewN y.op)):=fun y e=>by
    rw [e];exact ⟨Fm ae,fun e=>absurd e c5,FewN.sgn ac⟩
   have da:(Tryz.prog.info? 44).map (·.size)=some X.cells.size:=hi;clear ax ad a9 ae aj ac;unfold Ly at a2;generalize sgn X.op=SO at*;generalize X.cells=XC at*;go_wp2_with (go_at_call 28;(with_reducible refine (a2.out).mono ?_);rintro _ w5 ⟨y,rfl,be,bj,f5⟩;go_loud (have bi:=b8.fr f5 zq;have aw:=Lib.hid (ak.out y be);have hd:=Lib.hid (fun wz hz=>af.out y w5 wz aw.out.1 bj (fw.trans f5 zr) bi hz aw.out.2);have bb:=Bf (P:=Tryz.prog) (w.heap.size+1) 44 (cs:=y.cells) hi (old:=zO) rfl (Bm y);have b0:(Tryz.prog.info? 44).map (·.size)=some y.cells.size:=hi;clear af aw be bj ak a2;generalize y.cells=YC at*));have bw:=bi.setRow (cs:=YC);have b9:=Lib.hid (hd.out _ (Bp YC))
   (try simp only [Exit.inBlock,Exit.then])
   refine Cu (t:=44) rfl rfl bw rfl Tryz.underlying44 b0 rfl ?_;exact b9.out
end Oq
namespace Oq
attribute [local go_sem] An3 An4
attribute [local go_sem ↓] Ei Lv
def rg0 (A:Option Addr) (c:Nat) (cs:List Cd):RG:=⟨A,c,cs,none,0,[],none,0,none,0,[],none,0,[],[]⟩
theorem Ak1 {A:Option Addr} {c:Nat} {cs:List Cd} {w:World} {base:Nat} (h:RowAt w base 95 5 A cs.length c (cs.flatMap Cd.cells)) (hf:cs.length≤1000) (hk:∀c∈cs,c.s<18446744073709551616):(rg0 A c cs).own w base where
 cards:=h
 ops:=RowAt.nil _ _ _ _
 each _ hx:=absurd hx Am7
 same:=rfl
 ok _ hx:=absurd hx Am7
 ids:=RowAt.nil _ _ _ _
 ups:=RowAt.nil _ _ _ _
 eachU _ hx:=absurd hx Am7
 sameU:=rfl
 ins:=RowAt.nil _ _ _ _
 eachN _ hx:=absurd hx Am7
 sameN:=rfl
 rows:=Rows.nil
 cfew:=hf
 cok:=hk
theorem Ak2 (n c:Nat) (A:Option Addr) (w:World):
  Calls Tryz.prog 23 #[.slice A n c] w fun e w'=>e=.returned (.agg #[.slice A n c,.slice none 0 0,.slice none 0 0,.slice none 0 0,.slice none 0 0])∧Fr Non w w':=by
 have hG:(Tryz.prog.info? 29).map (·.size)=some (#[.slice A n c,.slice none 0 0,.slice none 0 0,.slice none 0 0,.slice none 0 0]:Array Value).size:=Cc;have br:=Blk.new w 29 zG;have f0:Fr Non w (w.alloc (.cells zG 29)):=(Fr.refl Non w).alloc _;have hst:=Bf (P:=Tryz.prog) w.heap.size 29 (cs:=#[.slice A n c,.slice none 0 0,.slice none 0 0,.slice none 0 0,.slice none 0 0]) hG (old:=zG) rfl (by simp [Value.oneCell']);go_enter Tryz.func23,Tryz.ntmps23;go_upto_region 1 with (fail)
 have hz2:=br.setRow (cs:=#[.slice A n c,.slice none 0 0,.slice none 0 0,.slice none 0 0,.slice none 0 0]);have fz:=f0.setRow (g:=w.heap.size) (fun hh=>absurd hh (by omega)) #[.slice A n c,.slice none 0 0,.slice none 0 0,.slice none 0 0,.slice none 0 0];go_wp2_with (fail)
 (try simp only [Exit.inBlock,Exit.then])
 refine Cu (t:=29) rfl rfl hz2 rfl Tryz.underlying29 hG rfl ?_;exact ⟨rfl,fz⟩
theorem Fq {P:Program} {Q:Exit→Act→World→Prop} {l:List Oper} {md:Region.Mode} {S:World→Prop} {fuel:Nat} {listed:Array Bool} {a:Act} {w:World} (i j:Nat) {d:Option Tmp} {op:Go.Op} {ty:TypeId} {pos:String} {after:Array Edge} {g:Option (Nat × Bool)} {d':Option Tmp} {op':Go.Op} {ty':TypeId} {pos':String} {after':Array Edge} {g':Option (Nat × Bool)}
  (hr:Region.ready md l.toArray listed=[i,j]) (ho:l[i]? =some ⟨d,op,ty,pos,after,g⟩) (ho':l[j]? =some ⟨d',op',ty',pos',after',g'⟩)
  (hw:Region.wanted ⟨d,op,ty,pos,after,g⟩ (yielded l.toArray a.tmps)=true) (hw':Region.wanted ⟨d',op',ty',pos',after',g'⟩ (yielded l.toArray a.tmps)=true)
  (h:∀K':Act→World→Prop,Shut (∀a w,S w→(S w→wpAnyH P md l.toArray Q S fuel (listed.setIfInBounds i true) a w)→K' a w)→Oper.wp P ⟨d,op,ty,pos,after,g⟩ a w K' Q)
  (h':∀K':Act→World→Prop,Shut (∀a w,S w→(S w→wpAnyH P md l.toArray Q S fuel (listed.setIfInBounds j true) a w)→K' a w)→Oper.wp P ⟨d',op',ty',pos',after',g'⟩ a w K' Q):
  wpAnyH P md l.toArray Q S (fuel+1) listed a w:=
 wpAnyH_ready hr (by simp) (AllReadyH.cons (by rw [Ao6];exact ho) (fun K' hK=>by rw [if_pos hw];exact h K' hK) (AllReadyH.cons (by rw [Ao6];exact ho') (fun K' hK=>by rw [if_pos hw'];exact h' K' hK) AllReadyH.nil))
theorem Ak3 {w:World} {B n c m:Nat} {A:Option Addr} {xs:List Value} (h:Rd w B 1 A n xs) (hm:m≤n) (hc:n≤c):Rd w B 1 (if c=m then A else A.map (fun x=>x.add m)) (n-m) (xs.drop m):=by
 have hl:=h.1;refine ⟨by rw [Ao7];omega,?_⟩
 by_cases hz:n-m=0
 · exact .inl hz
 ·
  have hcm:¬c=m:=by omega
  rw [if_neg hcm]
  rcases h.2 with h0|⟨b,off,rfl,hb,hx⟩
  · exact absurd h0 (by omega)
  ·
   refine .inr ⟨b,off+m,by simp [Addr.add],hb,fun j u hu=> ?_⟩;rw [List.getElem?_drop] at hu;have h5:=hx (m+j) u hu;rw [← Nat.add_assoc] at h5;exact h5
def Ak4 (w:World) (e:Ending) (w':World):Prop:=
 ∃r:RG,e=.returned (.agg r.cells)∧Fr Non w w'∧r.own w' w.heap.size∧r.cards=Ba 0 [1,2,3,1]∧r.l≠[]
def Mb (w:World) (e:Ending) (w':World):Prop:=
 ∃r:RG,e=.returned (.agg r.cells)∧Fr Non w w'∧r.own w' w.heap.size∧r.cards=Ba 0 [1,2,3,1]∧r.l≠[]∧r.l.length≤14
theorem Ak5:∀c∈Ba 0 [1,2,3,1],c.s<18446744073709551616:=fun c hc=>by
 obtain ⟨xs,h1,_,_,h4⟩:=Lj [1,2,3,1] 0 (by decide);rw [← h1] at hc;obtain ⟨x,hx,rfl⟩:=List.mem_map.1 hc;exact h4 x hx
theorem Ak6 (B n c:Nat) (A:Option Addr) (l0:List Int) (w:World) (hn:Hid (l0.length=n)) (hr:Rd w B 1 A n (l0.map Iv)) (hnc:n≤c) (_hnm:c≤9223372036854775807) (hok:∀x∈l0,I64 x):
  Calls Tryz.prog 4 #[.slice A n c] w (Mb w):=by
 have hG:∀r:RG,(Tryz.prog.info? 29).map (·.size)=some r.cells.size:=fun r=>Cc;have kc:=Lib.hid (fun (w':World) (hr:Rd w' w'.heap.size 1 (some ⟨w.heap.size+1,0,none⟩) 4 (([1,2,3,1]:List Int).map Iv))=>O9 4 4 (some ⟨w.heap.size+1,0,none⟩) [1,2,3,1] w' rfl (by decide) hr);have kn:=Lib.hid (fun (n' c':Nat) (A':Option Addr) (w':World)=>Ak2 n' c' A' w');have kx:=Lib.hid (fun (r:RG) (B' n' c':Nat) (A':Option Addr) (l1:List Int) (w':World) h hcs hn hr hok=>Sy w.heap.size B' n' c' r A' l1 w' h hcs hn hr hok);have ka:=Lib.hid (fun (r:RG) (x:OpL) (w':World) h (hx:x.own w' w.heap.size) hb hok=>Sr w.heap.size r x w' h hx.lies hb hok);have br:=(Blk.new w 29 zG).alloc (.cells #[.int .i64 1,.int .i64 2,.int .i64 3,.int .i64 1] 3);have bi:=Blk.new (w.alloc (.cells zG 29)) 3 #[.int .i64 1,.int .i64 2,.int .i64 3,.int .i64 1];rw [Am9] at bi;have f0:Fr Non w ((w.alloc (.cells zG 29)).alloc (.cells #[.int .i64 1,.int .i64 2,.int .i64 3,.int .i64 1] 3)):=((Fr.refl Non w).alloc _).alloc _
 have bq:w.heap.size+2≤((w.alloc (.cells zG 29)).alloc (.cells #[.int .i64 1,.int .i64 2,.int .i64 3,.int .i64 1] 3)).heap.size:=by
  rw [Am9,Am9];exact An0 _
 go_enter Tryz.func4,Tryz.ntmps4;go_upto_region 1 with (fail)
 generalize hw0:(w.alloc (.cells zG 29)).alloc (.cells #[.int .i64 1,.int .i64 2,.int .i64 3,.int .i64 1] 3)=w0 at*;unfold O8 at kc
 have bc:Rd w0 w0.heap.size 1 (some ⟨w.heap.size+1,0,none⟩) 4 (([1,2,3,1]:List Int).map Iv):=by
  rw [← hw0] at bi ⊢;exact Rd.blk (n:=4) (size:=1) bi rfl
 go_upto_region 2 with (first
  |(go_at_call 24;(with_reducible refine (kc.out _ bc).mono ?_);rintro _ w1 ⟨A1,c1,rfl,o1,f1⟩;have bf:=f0.trans f1 zr;have bd:=br.fr f1 zq)
  |(go_at_call 23;(with_reducible refine (kn.out _ _ _ _).mono ?_);rintro _ w2 ⟨rfl,f2⟩;have bk:=bf.trans f2 zr;have av:=bd.fr f2 zq;have o2:=o1.fr f2 zr;have bn:=Blk.new w2 29 zG;have ad:=Bf (P:=Tryz.prog) w2.heap.size 29 (cs:=#[.slice A1 4 c1,.slice none 0 0,.slice none 0 0,.slice none 0 0,.slice none 0 0]) (hG (rg0 A1 c1 (Ba 0 [1,2,3,1]))) (old:=zG) rfl (by simp [Value.oneCell'])))
 have a9:=(av.alloc (.cells zG 29)).setRow_far (g':=w2.heap.size) (by have:=av.lt;omega) (cs:=#[.slice A1 4 c1,.slice none 0 0,.slice none 0 0,.slice none 0 0,.slice none 0 0]);have a8:Blk ((w2.alloc (.cells zG 29)).setRow w2.heap.size #[.slice A1 4 c1,.slice none 0 0,.slice none 0 0,.slice none 0 0,.slice none 0 0]) w2.heap.size 29 (rg0 A1 c1 (Ba 0 [1,2,3,1])).cells:=bn.setRow (cs:=#[.slice A1 4 c1,.slice none 0 0,.slice none 0 0,.slice none 0 0,.slice none 0 0]);have fG:Fr Non w2 ((w2.alloc (.cells zG 29)).setRow w2.heap.size #[.slice A1 4 c1,.slice none 0 0,.slice none 0 0,.slice none 0 0,.slice none 0 0]):=((Fr.refl Non w2).alloc _).setRow (fun hh=>absurd hh (by omega)) _;have b2:w.heap.size<w2.heap.size:=av.lt;have f3:=bk.trans fG zr;have aq:(rg0 A1 c1 (Ba 0 [1,2,3,1])).own ((w2.alloc (.cells zG 29)).setRow w2.heap.size #[.slice A1 4 c1,.slice none 0 0,.slice none 0 0,.slice none 0 0,.slice none 0 0]) w.heap.size:=Ak1 ((RowAt.of_own (o2.fr fG zr)).lower (by omega)) (by decide) Ak5;clear ad bn av bd br o1 o2 fG bf bk bc;obtain ⟨gv,bv⟩:=Aa w2.heap.size;rw [bv.out] at a8 aq a9 f3 b2 ⊢;generalize (w2.alloc (.cells zG 29)).setRow gv #[.slice A1 4 c1,.slice none 0 0,.slice none 0 0,.slice none 0 0,.slice none 0 0]=w3 at*;have ay:(rg0 A1 c1 (Ba 0 [1,2,3,1])).cards=Ba 0 [1,2,3,1]:=rfl;have a5:(rg0 A1 c1 (Ba 0 [1,2,3,1])).l=[]:=rfl;generalize rg0 A1 c1 (Ba 0 [1,2,3,1])=r0 at*;clear bi kc kn hw0 f0 bq;go_wp2_with (fail)
 go_loopw [4] (fun v wr=>∃(j:Nat) (r:RG),v=.int .i64 (j:Int)∧j≤14∧Blk wr gv 29 r.cells∧r.own wr w.heap.size∧r.cards=Ba 0 [1,2,3,1]∧Hid (((j=0∧r.l=[])∨(0<j∧r.l≠[]))∧r.l.length≤j)∧Blk wr w.heap.size 29 zG∧Fr Non w wr) (fun v _=>14-(intOf v).toNat)
 case atStart=>exact ⟨0,r0,rfl,by omega,a8,aq,ay,⟨.inl ⟨rfl,a5⟩,by rw [a5];exact An0 _⟩,a9,f3⟩
 case round=>
 clear a8 aq ay a5 a9 f3 r0;obtain ⟨j,r,rfl,hj,bn,ro,aw,au,br,hf⟩:=hrel
 by_cases hgo:j<14∧(j=0∨4*j<n)
 ·
  have t1:decide ((j:Int)<14)=true:=decide_eq_true (by omega)
  have ht:((j:Int)==0)=true∨(((j:Int)==0)=false∧decide (4*(j:Int)<(n:Int))=true):=by
   by_cases h1:j=0
   · exact .inl (by simp [h1])
   · exact .inr ⟨by simp;omega,decide_eq_true (by omega)⟩
  have e1:IntKind.i64.wrap (4*(j:Int))=4*(j:Int):=IntWalk.i64_in _ (by omega);obtain ⟨m,hm⟩:∃m:Nat,min n (4*j)=m:=⟨_,rfl⟩;have e2:min (n:Int) (4*(j:Int))=(m:Int):=by omega
  have e3:min (4*(j:Int)) (n:Int)=(m:Int):=by omega
  have bs:m≤n:=by omega
  go_upto_region 3 with (fail)
  go_cut [22] from 10 to 22 (fun s wc=>wr=wc∧s=.bool true)
  case first=>
   rcases ht with t2|⟨t2,t3⟩
   all_goals
    go_wp2_with (fail);go_meet;exact ⟨rfl,rfl⟩
  case rest=>
  obtain ⟨rfl,rfl⟩:=hcut;clear ht;go_upto_region 5 with (fail)
  go_cut [5,6] from 25 to 38 (fun s5 s6 wc=>∃(gN:Nat) (r2:RG) (E:Int),s5=.pointer (some ⟨gN,0,none⟩)∧s6=.int .i64 E∧Blk wc gN 29 r2.cells∧r2.own wc w.heap.size∧r2.cards=Ba 0 [1,2,3,1]∧Hid ((E=0→r2.l≠[])∧r2.l.length≤j+1)∧Hid (j=0→E=0)∧Fr Non wr wc∧wr.heap.size≤gN)
  case first=>
   have V0:=bn;have F0:Fr Non wr wr.drew:=(Fr.refl Non wr).drew;have a0:w.heap.size≤wr.heap.size:=hf.size
   have be:Rd w B 1 (if c=m then A else A.map (fun x=>x.add m)) (n-m) ((l0.drop m).map Iv):=by
    rw [List.map_drop];exact Ak3 hr bs hnc
   have kq:=Lib.hid (fun (w':World) (h':Fr Non wr w')=>kx.out r B (n-m) (c-m) (if c=m then A else A.map (fun x=>x.add m)) (l0.drop m) w' (ro.non h') aw (by show (l0.drop m).length=n-m;rw [Ao7,hn.out]) (be.fr (hf.trans h' zr) zr) (fun x hx=>hok x (List.mem_of_mem_drop hx)))
   have ar:Hid (∀(E:Int) (r2:RG) (o:Op),E=Ag r.cards r.l o→r2.l=(if Ag r.cards r.l o=0 then r.l++[As r.l o] else r.l)→(r.l=[]→Ag r.cards [] o=0)→((E=0→r2.l≠[])∧r2.l.length≤j+1)∧(j=0→E=0)):=by
    intro E r2 o h1 h2 h3
    have a7:r2.l.length≤j+1:=by
     have:=au.out.2;rw [h2]
     split
     ·
      rw [Ao3,Ao8];omega
     · omega
    refine ⟨⟨fun h4=> ?_,a7⟩,fun h4=> ?_⟩
    ·
     rw [← h1,if_pos h4] at h2;rw [h2];simp
    ·
     rcases au.out.1 with ⟨_,h5⟩|⟨h5,_⟩
     ·
      rw [h1,h5];exact h3 h5
     · omega
   have hl:=Aq (P:=Tryz.prog) gv 29 Tryz.underlying29 rfl (hG r);refine wp_region_held_drew (S:=fun w'=>Blk w' gv 29 r.cells) (by kernel_rfl) V0 (fun hHeld=> ?_);clear hHeld;refine tkH 0 V0 (h:=tkH 1 V0 (h:=tkH 2 V0 (h:=tkH 3 V0 (h:=tkH 4 V0 (h:=tkH 5 V0 (h:=tkH 6 V0 (h:=tkH 7 V0 (h:=tkH 8 V0 (h:=?_)))))))));simp only [List.set];obtain ⟨AP,bh⟩:=Aa (if c=m then A else A.map (fun x=>x.add m));rw [bh.out] at kq ⊢;have ab:=Lib.hid aw;clear aw be bh;refine Fq 9 14 (by kernel_rfl) rfl rfl (by kernel_rfl) (by kernel_rfl) (fun K' hK=> ?_) (fun K' hK=> ?_)
   ·
    skip
    go_simp;go_wp2_with (go_at_call 6;(with_reducible refine (kq.out _ F0).mono ?_);rintro _ v1 ⟨y,rfl,ak,ba,bm,ap,_⟩;go_loud (have F1:=F0.trans bm zr;have bg:=ba.lower (base':=w.heap.size) (Am6 a0 F0.size)));have V1:=V0.fr F1 zq;refine hK.out _ _ V1 (fun hZ=> ?_);clear hZ hK K';try simp only [Ab,List.set]
    refine Fq 10 14 (by kernel_rfl) rfl rfl (by kernel_rfl) (by kernel_rfl) (fun K' hK=> ?_) (fun K' hK=> ?_)
    ·
     skip
     go_simp;have ao:=Lib.hid (ka.out r y _ (ro.non F1) bg (Am6 a0 F1.size) ak);unfold Ex at ao;go_wp2_with (go_at_call 8;(with_reducible refine (ao.out).mono ?_);rintro _ v2 ⟨r2,rfl,a4,a2,al,aj⟩;go_loud (have F2:=F1.trans a4 zr));have V2:=V0.fr F2 zq;refine hK.out _ _ V2 (fun hZ=> ?_);clear hZ hK K';try simp only [Ab,List.set]
     refine tkH 11 V2 (h:=tkH 12 V2 (h:=?_));simp only [List.set];refine Fq 13 14 (by kernel_rfl) rfl rfl (by kernel_rfl) (by kernel_rfl) (fun K' hK=> ?_) (fun K' hK=> ?_)
     ·
      skip
      go_simp;refine hK.out _ _ V2 (fun hZ=> ?_);clear hZ hK K';try simp only [Ab,List.set]
      refine oG 14 (fun K' hK=> ?_);go_simp;have ac:=Blk.new (v2) 29 zG;have F3:Fr Non wr ((v2).alloc (.cells zG 29)):=F2.alloc _;obtain ⟨ga,ag⟩:=Aa (v2).heap.size;have ai:wr.heap.size≤ga:=by rw [← ag.out];exact F2.size
      rw [ag.out] at ac ⊢;have ah:=a2.non ((Fr.refl Non (v2)).alloc (.cells zG 29));generalize (v2).alloc (.cells zG 29)=v3 at*;have V3:=V0.fr F3 zq;refine hK.out _ _ V3 (fun hZ=> ?_);clear hZ hK K';try simp only [Ab,List.set]
      refine oG 15 (fun K' hK=> ?_);have ad:=Bf (P:=Tryz.prog) ga 29 (hG r2) (old:=zG) rfl (Dn r2);go_simp;have ae:=ac.setRow (cs:=r2.cells);have af:=ah.keepP (Bp r2.cells) (Types.one ac) (by decide) (by decide) (by decide) (by decide) (by decide) (by decide) (by decide) (by decide) (by decide) (by decide) (by decide) (by decide);have F4:Fr Non wr (v3.setRow ga r2.cells):=F3.setRow (fun hh=>absurd hh (by omega)) _;clear ad;generalize v3.setRow ga r2.cells=v4 at*;have V4:=V0.fr F4 zq;refine hK.out _ _ V4 (fun hZ=> ?_);clear hZ hK K';try simp only [Ab,List.set]
      refine tkH 16 V4 (h:=?_);simp only [List.set];refine oD ?_;go_simp;have aa:=ar.out _ r2 _ rfl aj ap;go_wp2_with (fail);go_meet;exact ⟨ga,r2,_,rfl,rfl,ae,af,by rw [al];exact ab.out,aa.1,aa.2,F4,ai⟩
     ·
      skip
      go_simp;have ac:=Blk.new (v2) 29 zG;have F3:Fr Non wr ((v2).alloc (.cells zG 29)):=F2.alloc _;obtain ⟨ga,ag⟩:=Aa (v2).heap.size;have ai:wr.heap.size≤ga:=by rw [← ag.out];exact F2.size
      rw [ag.out] at ac ⊢;have ah:=a2.non ((Fr.refl Non (v2)).alloc (.cells zG 29));generalize (v2).alloc (.cells zG 29)=v3 at*;have V3:=V0.fr F3 zq;refine hK.out _ _ V3 (fun hZ=> ?_);clear hZ hK K';try simp only [Ab,List.set]
      refine Fq 13 15 (by kernel_rfl) rfl rfl (by kernel_rfl) (by kernel_rfl) (fun K' hK=> ?_) (fun K' hK=> ?_)
      ·
       skip
       go_simp;refine hK.out _ _ V3 (fun hZ=> ?_);clear hZ hK K';try simp only [Ab,List.set]
       refine oG 15 (fun K' hK=> ?_);have ad:=Bf (P:=Tryz.prog) ga 29 (hG r2) (old:=zG) rfl (Dn r2);go_simp;have ae:=ac.setRow (cs:=r2.cells);have af:=ah.keepP (Bp r2.cells) (Types.one ac) (by decide) (by decide) (by decide) (by decide) (by decide) (by decide) (by decide) (by decide) (by decide) (by decide) (by decide) (by decide);have F4:Fr Non wr (v3.setRow ga r2.cells):=F3.setRow (fun hh=>absurd hh (by omega)) _;clear ad;generalize v3.setRow ga r2.cells=v4 at*;have V4:=V0.fr F4 zq;refine hK.out _ _ V4 (fun hZ=> ?_);clear hZ hK K';try simp only [Ab,List.set]
       refine tkH 16 V4 (h:=?_);simp only [List.set];refine oD ?_;go_simp;have aa:=ar.out _ r2 _ rfl aj ap;go_wp2_with (fail);go_meet;exact ⟨ga,r2,_,rfl,rfl,ae,af,by rw [al];exact ab.out,aa.1,aa.2,F4,ai⟩
      ·
       skip
       have ad:=Bf (P:=Tryz.prog) ga 29 (hG r2) (old:=zG) rfl (Dn r2);go_simp;have ae:=ac.setRow (cs:=r2.cells);have af:=ah.keepP (Bp r2.cells) (Types.one ac) (by decide) (by decide) (by decide) (by decide) (by decide) (by decide) (by decide) (by decide) (by decide) (by decide) (by decide) (by decide);have F4:Fr Non wr (v3.setRow ga r2.cells):=F3.setRow (fun hh=>absurd hh (by omega)) _;clear ad;generalize v3.setRow ga r2.cells=v4 at*;have V4:=V0.fr F4 zq;refine hK.out _ _ V4 (fun hZ=> ?_);clear hZ hK K';try simp only [Ab,List.set]
       refine oG 13 (fun K' hK=> ?_);go_simp;refine hK.out _ _ V4 (fun hZ=> ?_);clear hZ hK K';try simp only [Ab,List.set]
       refine tkH 16 V4 (h:=?_);simp only [List.set];refine oD ?_;go_simp;have aa:=ar.out _ r2 _ rfl aj ap;go_wp2_with (fail);go_meet;exact ⟨ga,r2,_,rfl,rfl,ae,af,by rw [al];exact ab.out,aa.1,aa.2,F4,ai⟩
    ·
     skip
     go_simp;have a3:=Blk.new (v1) 29 zG;have F2:Fr Non wr ((v1).alloc (.cells zG 29)):=F1.alloc _;obtain ⟨ga,ag⟩:=Aa (v1).heap.size;have ai:wr.heap.size≤ga:=by rw [← ag.out];exact F1.size
     rw [ag.out] at a3 ⊢;have a6:=bg.non ((Fr.refl Non (v1)).alloc (.cells zG 29));generalize (v1).alloc (.cells zG 29)=v2 at*;have V2:=V0.fr F2 zq;refine hK.out _ _ V2 (fun hZ=> ?_);clear hZ hK K';try simp only [Ab,List.set]
     refine oG 10 (fun K' hK=> ?_);go_simp;have ao:=Lib.hid (ka.out r y _ (ro.non F2) a6 (Am6 a0 F2.size) ak);unfold Ex at ao;go_wp2_with (go_at_call 8;(with_reducible refine (ao.out).mono ?_);rintro _ v3 ⟨r2,rfl,az,ah,al,aj⟩;go_loud (have F3:=F2.trans az zr;have ac:=a3.fr az zq));have V3:=V0.fr F3 zq;refine hK.out _ _ V3 (fun hZ=> ?_);clear hZ hK K';try simp only [Ab,List.set]
     refine tkH 11 V3 (h:=tkH 12 V3 (h:=?_));simp only [List.set];refine Fq 13 15 (by kernel_rfl) rfl rfl (by kernel_rfl) (by kernel_rfl) (fun K' hK=> ?_) (fun K' hK=> ?_)
     ·
      skip
      go_simp;refine hK.out _ _ V3 (fun hZ=> ?_);clear hZ hK K';try simp only [Ab,List.set]
      refine oG 15 (fun K' hK=> ?_);have ad:=Bf (P:=Tryz.prog) ga 29 (hG r2) (old:=zG) rfl (Dn r2);go_simp;have ae:=ac.setRow (cs:=r2.cells);have af:=ah.keepP (Bp r2.cells) (Types.one ac) (by decide) (by decide) (by decide) (by decide) (by decide) (by decide) (by decide) (by decide) (by decide) (by decide) (by decide) (by decide);have F4:Fr Non wr (v3.setRow ga r2.cells):=F3.setRow (fun hh=>absurd hh (by omega)) _;clear ad;generalize v3.setRow ga r2.cells=v4 at*;have V4:=V0.fr F4 zq;refine hK.out _ _ V4 (fun hZ=> ?_);clear hZ hK K';try simp only [Ab,List.set]
      refine tkH 16 V4 (h:=?_);simp only [List.set];refine oD ?_;go_simp;have aa:=ar.out _ r2 _ rfl aj ap;go_wp2_with (fail);go_meet;exact ⟨ga,r2,_,rfl,rfl,ae,af,by rw [al];exact ab.out,aa.1,aa.2,F4,ai⟩
     ·
      skip
      have ad:=Bf (P:=Tryz.prog) ga 29 (hG r2) (old:=zG) rfl (Dn r2);go_simp;have ae:=ac.setRow (cs:=r2.cells);have af:=ah.keepP (Bp r2.cells) (Types.one ac) (by decide) (by decide) (by decide) (by decide) (by decide) (by decide) (by decide) (by decide) (by decide) (by decide) (by decide) (by decide);have F4:Fr Non wr (v3.setRow ga r2.cells):=F3.setRow (fun hh=>absurd hh (by omega)) _;clear ad;generalize v3.setRow ga r2.cells=v4 at*;have V4:=V0.fr F4 zq;refine hK.out _ _ V4 (fun hZ=> ?_);clear hZ hK K';try simp only [Ab,List.set]
      refine oG 13 (fun K' hK=> ?_);go_simp;refine hK.out _ _ V4 (fun hZ=> ?_);clear hZ hK K';try simp only [Ab,List.set]
      refine tkH 16 V4 (h:=?_);simp only [List.set];refine oD ?_;go_simp;have aa:=ar.out _ r2 _ rfl aj ap;go_wp2_with (fail);go_meet;exact ⟨ga,r2,_,rfl,rfl,ae,af,by rw [al];exact ab.out,aa.1,aa.2,F4,ai⟩
   ·
    skip
    go_simp;have a1:=Blk.new (wr) 29 zG;have F1:Fr Non wr ((wr).alloc (.cells zG 29)):=(Fr.refl Non wr).alloc _;obtain ⟨ga,ag⟩:=Aa (wr).heap.size;have ai:wr.heap.size≤ga:=by rw [← ag.out];exact An0 _
    rw [ag.out] at a1 ⊢;replace a1:=a1.drew;replace F1:=F1.drew;generalize ((wr).alloc (.cells zG 29)).drew=v1 at*;have V1:=V0.fr F1 zq;refine hK.out _ _ V1 (fun hZ=> ?_);clear hZ hK K';try simp only [Ab,List.set]
    refine oG 9 (fun K' hK=> ?_);go_simp;go_wp2_with (go_at_call 6;(with_reducible refine (kq.out _ F1).mono ?_);rintro _ v2 ⟨y,rfl,ak,ba,a4,ap,_⟩;go_loud (have F2:=F1.trans a4 zr;have a6:=ba.lower (base':=w.heap.size) (Am6 a0 F1.size);have a3:=a1.fr a4 zq));have V2:=V0.fr F2 zq;refine hK.out _ _ V2 (fun hZ=> ?_);clear hZ hK K';try simp only [Ab,List.set]
    refine oG 10 (fun K' hK=> ?_);go_simp;have ao:=Lib.hid (ka.out r y _ (ro.non F2) a6 (Am6 a0 F2.size) ak);unfold Ex at ao;go_wp2_with (go_at_call 8;(with_reducible refine (ao.out).mono ?_);rintro _ v3 ⟨r2,rfl,az,ah,al,aj⟩;go_loud (have F3:=F2.trans az zr;have ac:=a3.fr az zq));have V3:=V0.fr F3 zq;refine hK.out _ _ V3 (fun hZ=> ?_);clear hZ hK K';try simp only [Ab,List.set]
    refine tkH 11 V3 (h:=tkH 12 V3 (h:=?_));simp only [List.set];refine Fq 13 15 (by kernel_rfl) rfl rfl (by kernel_rfl) (by kernel_rfl) (fun K' hK=> ?_) (fun K' hK=> ?_)
    ·
     skip
     go_simp;refine hK.out _ _ V3 (fun hZ=> ?_);clear hZ hK K';try simp only [Ab,List.set]
     refine oG 15 (fun K' hK=> ?_);have ad:=Bf (P:=Tryz.prog) ga 29 (hG r2) (old:=zG) rfl (Dn r2);go_simp;have ae:=ac.setRow (cs:=r2.cells);have af:=ah.keepP (Bp r2.cells) (Types.one ac) (by decide) (by decide) (by decide) (by decide) (by decide) (by decide) (by decide) (by decide) (by decide) (by decide) (by decide) (by decide);have F4:Fr Non wr (v3.setRow ga r2.cells):=F3.setRow (fun hh=>absurd hh (by omega)) _;clear ad;generalize v3.setRow ga r2.cells=v4 at*;have V4:=V0.fr F4 zq;refine hK.out _ _ V4 (fun hZ=> ?_);clear hZ hK K';try simp only [Ab,List.set]
     refine tkH 16 V4 (h:=?_);simp only [List.set];refine oD ?_;go_simp;have aa:=ar.out _ r2 _ rfl aj ap;go_wp2_with (fail);go_meet;exact ⟨ga,r2,_,rfl,rfl,ae,af,by rw [al];exact ab.out,aa.1,aa.2,F4,ai⟩
    ·
     skip
     have ad:=Bf (P:=Tryz.prog) ga 29 (hG r2) (old:=zG) rfl (Dn r2);go_simp;have ae:=ac.setRow (cs:=r2.cells);have af:=ah.keepP (Bp r2.cells) (Types.one ac) (by decide) (by decide) (by decide) (by decide) (by decide) (by decide) (by decide) (by decide) (by decide) (by decide) (by decide) (by decide);have F4:Fr Non wr (v3.setRow ga r2.cells):=F3.setRow (fun hh=>absurd hh (by omega)) _;clear ad;generalize v3.setRow ga r2.cells=v4 at*;have V4:=V0.fr F4 zq;refine hK.out _ _ V4 (fun hZ=> ?_);clear hZ hK K';try simp only [Ab,List.set]
     refine oG 13 (fun K' hK=> ?_);go_simp;refine hK.out _ _ V4 (fun hZ=> ?_);clear hZ hK K';try simp only [Ab,List.set]
     refine tkH 16 V4 (h:=?_);simp only [List.set];refine oD ?_;go_simp;have aa:=ar.out _ r2 _ rfl aj ap;go_wp2_with (fail);go_meet;exact ⟨ga,r2,_,rfl,rfl,ae,af,by rw [al];exact ab.out,aa.1,aa.2,F4,ai⟩
  case rest=>
  obtain ⟨gN,r2,E,rfl,rfl,bN,a2,ab,bj,bo,f2,b3⟩:=hcut;have bb:=bn.fr f2 zq;have av:=br.fr f2 zq;have bl:=hf.trans f2 zr;have b1:=ro.non f2;clear bn br ro f2 hf kx ka
  by_cases hE:E=0
  ·
   have tE:(E==0)=true:=by simp [hE]
   have aj:=Aq (P:=Tryz.prog) gN 29 Tryz.underlying29 rfl (hG r2);have bp:=Bf (P:=Tryz.prog) gv 29 (hG r2) (old:=r.cells) rfl (Dn r2);have bz:=bb.setRow (cs:=r2.cells);have bu:=av.setRow_far (g':=gv) (by omega) (cs:=r2.cells);have fz:=bl.setRow (g:=gv) (fun hh=>absurd hh (by omega)) r2.cells;have bx:=a2.keepP (Bp r2.cells) (Types.one bb) (by decide) (by decide) (by decide) (by decide) (by decide) (by decide) (by decide) (by decide) (by decide) (by decide) (by decide) (by decide);have ax:=bj.out.1 hE;go_wp2_with (fail);go_roundw
   case rel=>exact ⟨j+1,r2,by go_num,by omega,bz,bx,ab,⟨.inr ⟨by omega,ax⟩,bj.out.2⟩,bu,fz⟩
   case measure=>simp [intOf];omega
  ·
   have tE:(E==0)=false:=by simp [hE]
   have bt:¬j=0:=fun e=>hE (bo.out e)
   have ax:r.l≠[]:=by
    rcases au.out.1 with ⟨h1,_⟩|⟨_,h1⟩
    · exact absurd h1 bt
    · exact h1
   go_wp2_with (fail);go_roundw
   case rel=>exact ⟨j+1,r,by go_num,by omega,bb,b1,aw,⟨.inr ⟨by omega,ax⟩,Nat.le_succ_of_le au.out.2⟩,av,bl⟩
   case measure=>simp [intOf];omega
 ·
  have ax:r.l≠[]:=by
   rcases au.out.1 with ⟨h1,_⟩|⟨_,h1⟩
   · exact absurd ⟨by omega,.inl h1⟩ hgo
   · exact h1
  have hd:Hid (Mb w (.returned (.agg r.cells)) (wr.setRow w.heap.size r.cells)):=
   ⟨r,rfl,hf.setRow (g:=w.heap.size) (fun hh=>absurd hh (by omega)) r.cells,ro.keepP (Bp r.cells) (Types.one br) (by decide) (by decide) (by decide) (by decide) (by decide) (by decide) (by decide) (by decide) (by decide) (by decide) (by decide) (by decide),aw,ax,Am6 au.out.2 (by omega)⟩
  have ht:decide ((j:Int)<14)=false∨(decide ((j:Int)<14)=true∧((j:Int)==0)=false∧decide (4*(j:Int)<(n:Int))=false):=by
   by_cases h1:j<14
   · exact .inr ⟨decide_eq_true (by omega),by simp;omega,decide_eq_false (by omega)⟩
   · exact .inl (decide_eq_false (by omega))
  have hl:=Aq (P:=Tryz.prog) gv 29 Tryz.underlying29 rfl (hG r);have ad:=Bf (P:=Tryz.prog) w.heap.size 29 (hG r) (old:=zG) rfl (Dn r);have b0:=hG r;have bw:=br.setRow (cs:=r.cells);clear au ax ro aw hgo kx ka hok hr hn;generalize Mb w=POST at*;generalize r.cells=CS at*
  rcases ht with t1|⟨t1,t2,t3⟩
  all_goals
   go_wp2_with (fail)
   (try simp only [Exit.inBlock,Exit.then])
   refine Cu (t:=29) rfl rfl bw rfl Tryz.underlying29 b0 rfl ?_;exact hd.out
theorem Ak7 (B n c:Nat) (A:Option Addr) (l0:List Int) (w:World) (hn:Hid (l0.length=n)) (hr:Rd w B 1 A n (l0.map Iv)) (hnc:n≤c) (hnm:c≤9223372036854775807) (hok:∀x∈l0,I64 x):
  Calls Tryz.prog 4 #[.slice A n c] w (Ak4 w):=
 (Ak6 B n c A l0 w hn hr hnc hnm hok).mono fun _ _ ⟨r,h1,h2,h3,h4,h5,_⟩=>⟨r,h1,h2,h3,h4,h5⟩
end Oq
end
section
open Go.RowKit
namespace Oq
end Oq
end
section
open Go.RowKit
attribute [local go_sem ↓] Go.wp_at_zero Go.wp_at_succ
namespace Oq
attribute [local go_sem] An3 An4
attribute [local go_sem ↓] Ei
theorem Rows.levs {cards:List Cd} {l:List Pn} (h:Rows cards l):∀n∈l,n.lev≤l.length:=by
 induction h with
 |nil=>intro n hn;cases hn
 |snoc l o _ _ ih=>
  intro n hn;rw [Ao3,Ao8]
  rcases List.mem_append.1 hn with h|h
  ·
   have:=ih n h;omega
  ·
   obtain rfl:=List.mem_singleton.1 h;exact Pt l l.length ih o.past
def Fb (l:List Pn) (q:Nat):Nat:=(l[q]?.map Pn.lev).getD 0
theorem Mc {l:List Pn} {q:Nat} {n:Pn} (h:l[q]? =some n):Fb l q=n.lev:=by unfold Fb;rw [h];rfl
def Ek (n:Nat) (f:Nat→Nat):List Value:=(List.range n).map (fun q=>Value.int .i64 (f q:Int))
theorem Md {n i:Nat} (f:Nat→Nat) (h:i<n):(Ek n f)[i]? =some (.int .i64 (f i:Int)):=by simp [Ek,h]
theorem Ak8 {n i:Nat} (f:Nat→Nat) (v:Nat):(Ek n f).set i (.int .i64 (v:Int))=Ek n (fun q=>if q=i then v else f q):=by
 apply List.ext_getElem?;intro j
 by_cases hj:j<n
 ·
  rw [Md _ hj,List.getElem?_set]
  split
  ·
   rename_i e;subst e;rw [if_pos (by simp [Ek];exact hj),if_pos rfl]
  ·
   rename_i e;rw [Md _ hj,if_neg (fun h=>e h.symm)]
 · rw [Ao9 (by simp [Ek];omega),Ao9 (by simp [Ek];omega)]
theorem Ak9 (n:Nat):Ek n (fun _=>0)=(madeCells (Value.int .i64 0).cells (n*1)).toList:=by
 rw [Sa (Value.int .i64 0).cells (.int .i64 0) (n*1) (by decide) (fun i hi=>by have:i=0:=by {have:(Value.int .i64 0).cells.size=1:=rfl;omega};subst this;rfl),Nat.mul_one];unfold Ek;rw [List.eq_replicate_iff];exact ⟨by simp,fun b hb=>by obtain ⟨x,_,rfl⟩:=List.mem_map.1 hb;rfl⟩
theorem Al0:SlT Tryz.prog 22 3 (.int .i64 0) 1 8:=⟨Tryz.underlying22,by kernel_rfl,rfl,by decide⟩
structure Fc (w wr:World) (CS:Array Value) (g n:Nat) (f:Nat→Nat):Prop where
 bg:Blk wr w.heap.size 29 CS
 own:Own wr (w.heap.size+1) 3 1 (some ⟨g,0,none⟩) n n (Ek n f)
 fr:Fr Non w wr
theorem Fc.set {w wr:World} {CS:Array Value} {g n:Nat} {f:Nat→Nat} (h:Fc w wr CS g n f) {i:Nat} (hi:i<n) (v:Nat):
  w.heap.size+1≤g∧g<wr.heap.size∧wr.cell? ⟨g,i,none⟩=some (.int .i64 (f i:Int))∧wr.frozen? ⟨g,i,none⟩=false∧Fc w (wr.setCell ⟨g,i,none⟩ (.int .i64 (v:Int))) CS g n (fun q=>if q=i then v else f q):=by
 obtain ⟨g',e,h1,h2,h3,h4,h5⟩:=h.own.setAt (j:=i) (by omega) (.int .i64 (v:Int));injection e with e
 injection e with e
 subst e;exact ⟨h1,h2,h3 _ (Md f hi),h4,h.bg.far (p:=⟨_,_,_⟩) (fun e=>by have e':w.heap.size=g:=e;omega) _,by rw [Ak8] at h5;exact h5,h.fr.setNew (by omega) _ _⟩
theorem RG.own.levBd {w:World} {base:Nat} {r:RG} (h:r.own w base):∀q,Fb r.l q≤200:=by
 have hfew:=h.few;intro q;unfold Fb
 cases hq:r.l[q]? with
 |none=>exact Am8 _
 |some n=>
  have:=h.rows.levs n (An6 hq);show n.lev≤200;omega
theorem RG.own.levRow {w:World} {base:Nat} {r:RG} (h:r.own w base):∀i,i<r.l.length→∃(us:List Nat) (A2:Option Addr) (c2 b off:Nat) (V:Nat→Nat),r.uA=some ⟨b,off,none⟩∧w.cell? ⟨b,off+i,none⟩=some (.slice A2 us.length c2)∧us.length≤1000∧Rd w w.heap.size 1 A2 us.length (us.map Qv)∧
  V 0=1∧V us.length=Fb r.l i∧∀k p,us[k]? =some p→p<i∧V (k+1)=max (V k) (1+Fb r.l p):=by
 intro i hi;obtain ⟨x,b,off,h1,h2,h3,_,h4⟩:=h.uAt (An1 hi);have hok:=h.rows.ok i _ (An1 hi);have hn:=An1 hi;generalize r.l[i]=n at*;have hxl:x.xs.length=n.o.past.length:=by rw [h1,Gi]
 refine ⟨x.xs,x.A,x.c,b,off,fun k=>lvl r.l (n.o.past.take k),h3,h4,?_,h2.sl.rd,rfl,?_,?_⟩
 ·
  rw [hxl];exact (h.ok n (An6 hn)).1.past.1
 ·
  dsimp only;rw [hxl,List.take_length,Mc hn,hok.lev]
 ·
  intro k p hk;rw [h1] at hk;unfold Aj at hk;rw [An5] at hk;obtain ⟨y,hy,hp⟩:=Option.map_eq_some_iff.1 hk;obtain ⟨p2,hp2,hq⟩:=hok.par y (An6 hy);rw [hq] at hp;have e:p2=p:=hp;subst e;obtain ⟨m,hm,_⟩:=Dj hq;refine ⟨hp2,?_⟩;dsimp only;rw [Ps r.l n.o.past k hy,Rl hq hm,Mc hm,Nat.add_comm 1]
theorem Al1 (base:Nat) (r:RG) (id:Id) (w:World) (h:r.own w base):
  Calls Tryz.prog 18 #[.agg r.cells,.agg id.V] w fun e w'=>e=.returned (.int .i64 (Bn r.l id:Int))∧Fr Non w w':=by
 have ba:=h.few;have bg:=(Blk.new w 29 r.cells).alloc (.cells id.V 36);have bi:=Blk.new (w.alloc (.cells r.cells 29)) 36 id.V;rw [Am9] at bi;have f0:Fr Non w ((w.alloc (.cells r.cells 29)).alloc (.cells id.V 36)):=((Fr.refl Non w).alloc _).alloc _;have hl:=Aq (P:=Tryz.prog) w.heap.size 29 Tryz.underlying29 rfl (cs:=r.cells) Cc;have g1:Hid (r.cells[1]? =some (.slice r.lA r.l.length r.lC)):=rfl;have g3:Hid (r.cells[3]? =some (.slice r.uA r.l.length r.uC)):=rfl;have kp:=Lib.hid (fun (w':World) (hf:Fr Non w w')=>E7 base r id w' (h.non hf));have bj:=Lib.hid h.levBd;have ae:=Lib.hid h.levRow
 have aa:(Ao r.l id<0∧Bn r.l id=0)∨∃p:Nat,Ao r.l id=(p:Int)∧p<r.l.length∧Bn r.l id=Fb r.l p:=by
  cases hp:plc r.l id with
  |none=>exact .inl ⟨by rw [Ln hp];omega,by unfold Bn;rw [hp]⟩
  |some p=>
   obtain ⟨m,hm,_⟩:=Dj hp;exact .inr ⟨p,Lm hp,Dk hp,by rw [Rl hp hm,Mc hm]⟩
 obtain ⟨LV,a2⟩:=Aa (Bn r.l id);obtain ⟨P,hP⟩:=Aa (Ao r.l id);rw [a2.out] at aa ⊢;rw [hP.out] at kp aa;clear h a2 hP;generalize Fb r.l=lv at*;generalize r.l.length=N at*;generalize r.uA=UA at*;generalize r.uC=UC at*;generalize r.lA=LA at*;generalize r.lC=LC at*;generalize r.cells=CS at*;go_enter Tryz.func18,Tryz.ntmps18;go_upto_region 1 with (fail)
 have i0:=bi.cell 0;have i1:=bi.cell 1;have i2:=bi.cell 2;clear bi;generalize (w.alloc (.cells CS 29)).alloc (.cells id.V 36)=w0 at*;go_upto_region 2 with (go_at_call 15;(with_reducible refine (kp.out _ f0).mono ?_);rintro _ w1 ⟨rfl,f1⟩)
 have aj:=bg.fr f1 zq;have ap:=f0.trans f1 zr;clear bg i0 i1 i2 kp f0 f1 hl w0
 rcases aa with ⟨h1,rfl⟩|⟨p,rfl,hp,rfl⟩
 ·
  have t1:decide (P<0)=true:=decide_eq_true h1;go_wp2_with (fail)
  go_ret
  exact ⟨rfl,ap⟩
 ·
  have t1:decide ((p:Int)<0)=false:=decide_eq_false (by omega);have c1:w1.cell? ⟨w.heap.size,1,none⟩=some (.slice LA N LC):=(aj.cell 1).trans g1.out;have ar:w.heap.size+1≤w1.heap.size:=aj.lt;go_wp2_with (first|(refine Sb rfl (.tmp 16) 22 rfl Al0 (n:=N) rfl rfl (by omega) (by omega) ?_;intro w2 ac f2;have ax:=aj.fr f2 zq;have aw:=ap.trans f2 zr));obtain ⟨g,hg⟩:=Aa w1.heap.size;rw [hg.out] at ac ⊢;have a6:Fc w w2 CS g N (fun _=>0):=⟨ax,by rw [Ak9];exact ac.lower (by rw [← hg.out];exact ar),aw⟩;clear ac f2 ax aw aj ap c1 ar hg
  go_loopw [7] (fun v wr=>∃(i:Nat) (f:Nat→Nat),v=.int .i64 (i:Int)∧i≤N∧Hid (∀q,q<i→f q=lv q)∧Fc w wr CS g N f) (fun v _=>N-(intOf v).toNat)
  case atStart=>exact ⟨0,_,rfl,Am8 _,fun q hq=>absurd hq (Nat.not_lt_zero q),a6⟩
  case round=>
   obtain ⟨i,f,rfl,hi,hf,st⟩:=hrel;clear a6;have c1:wr.cell? ⟨w.heap.size,1,none⟩=some (.slice LA N LC):=(st.bg.cell 1).trans g1.out
   by_cases hlt:i<N
   ·
    obtain ⟨us,A2,c2,b,al,V,rfl,cu,bh,ak,au,a0,ay⟩:=ae.out i hlt;obtain ⟨M,hM⟩:=Aa us.length;rw [hM.out] at ak cu bh a0;have i1:(0:Int)≤i:=by omega
    have i2:(i:Int)<N:=by omega
    have i3:(i:Int).toNat=i:=by omega
    obtain ⟨be,bf,ci,fz,a4⟩:=st.set hlt 1;have aq:Hid (∀q,q<i→(fun q=>if q=i then 1 else f q) q=lv q):=fun q hq=>by dsimp only;rw [if_neg (by omega)];exact hf.out q hq
    have az:Hid ((fun q=>if q=i then 1 else f q) i=V 0):=by show _=_;dsimp only;rw [if_pos rfl,au]
    have af:=Lib.hid ay;clear ay au ae hf st;go_upto_region 9 with (fail)
    clear ci fz c1;generalize (fun q=>if q=i then 1 else f q)=f3 at*;have ag:Fc w (wr.setCell ⟨g,i,none⟩ (.int .i64 1)) CS g N f3:=a4;clear a4;generalize wr.setCell ⟨g,i,none⟩ (.int .i64 1)=wr3 at*;go_wp2_with (fail)
    go_loopw [8] (fun v wi=>∃(k:Nat) (f:Nat→Nat),v=.int .i64 (k:Int)∧k≤M∧Hid (∀q,q<i→f q=lv q)∧Hid (f i=V k)∧Fc w wi CS g N f) (fun v _=>M-(intOf v).toNat)
    case atStart=>exact ⟨0,f3,rfl,Am8 _,aq,az,ag⟩
    case round=>
     obtain ⟨k,f4,rfl,hk,ah,ao,ab⟩:=hrel;clear ag aq az;have d3:wr.cell? ⟨w.heap.size,3,none⟩=some (.slice (some ⟨b,al,none⟩) N UC):=(ab.bg.cell 3).trans g3.out;have a5:=ab.fr.cell cu zq
     by_cases hkm:k<M
     ·
      obtain ⟨y,hy⟩:∃y,us[k]? =some y:=⟨_,An1 (by rw [hM.out];exact hkm)⟩;obtain ⟨a1,a3⟩:=af.out k y hy;obtain ⟨b2,ad,u,rfl,bk,hu,cy⟩:=ak.at hkm;rw [An5,hy] at hu;injection hu with hu
      subst hu;have av:wr.cell? ⟨b2,ad+k,none⟩=some (.int .i64 (y:Int)):=ab.fr.cell cy zq;obtain ⟨_,_,P0,_,_⟩:=ab.set (i:=y) (by omega) 0;obtain ⟨be,bf,L0,fz,ai⟩:=ab.set hlt (max (f4 i) (1+f4 y));have bd:=bj.out y;rw [← ah.out y a1] at bd;have bc:Hid (∀q,q<i→(fun q=>if q=i then max (f4 i) (1+f4 y) else f4 q) q=lv q):=fun q hq=>by dsimp only;rw [if_neg (by omega)];exact ah.out q hq
      have bb:Hid ((fun q=>if q=i then max (f4 i) (1+f4 y) else f4 q) i=V (k+1)):=by show _=_;dsimp only;rw [if_pos rfl,a3,ao.out,ah.out y a1]
      generalize (fun q=>if q=i then max (f4 i) (1+f4 y) else f4 q)=f5 at*;generalize f4 i=fi at*;generalize f4 y=fy at*;have k1:(0:Int)≤k:=by omega
      have k2:(k:Int)<M:=by omega
      have k3:(k:Int).toNat=k:=by omega
      have y1:(0:Int)≤y:=by omega
      have y2:(y:Int)<N:=by omega
      have y3:(y:Int).toNat=y:=by omega
      have e1:IntKind.i64.wrap (1+(fy:Int))=1+(fy:Int):=IntWalk.i64_in _ (by omega);have e2:max (fi:Int) (1+(fy:Int))=((max fi (1+fy):Nat):Int):=by omega
      have D0:=d3;have U0:=a5;have V0:=av;clear ah ao af a3 hy cy ak;go_upto_region 12 with (fail)
      refine Cq (S:=fun w'=>w'.cell? ⟨w.heap.size,3,none⟩=some (.slice (some ⟨b,al,none⟩) N UC)∧w'.cell? ⟨b,al+i,none⟩=some (.slice (some ⟨b2,ad,none⟩) M c2)∧w'.cell? ⟨b2,ad+k,none⟩=some (.int .i64 (y:Int))∧w'.cell? ⟨g,y,none⟩=some (.int .i64 (fy:Int))∧w'.cell? ⟨g,i,none⟩=some (.int .i64 (fi:Int))) 20 (by kernel_rfl) ?_;refine tkG 0 ⟨D0,U0,V0,P0,L0⟩ (h:=tkG 1 ⟨D0,U0,V0,P0,L0⟩ (h:=tkG 2 ⟨D0,U0,V0,P0,L0⟩ (h:=tkG 3 ⟨D0,U0,V0,P0,L0⟩ (h:=tkG 4 ⟨D0,U0,V0,P0,L0⟩ (h:=tkG 5 ⟨D0,U0,V0,P0,L0⟩ (h:=tkG 6 ⟨D0,U0,V0,P0,L0⟩ (h:=tkG 7 ⟨D0,U0,V0,P0,L0⟩ (h:=tkG 8 ⟨D0,U0,V0,P0,L0⟩ (h:=tkG 9 ⟨D0,U0,V0,P0,L0⟩ (h:=tkG 10 ⟨D0,U0,V0,P0,L0⟩ (h:=tkG 11 ⟨D0,U0,V0,P0,L0⟩ (h:=?_))))))))))));simp only [List.set];refine tkG 12 ⟨D0,U0,V0,P0,L0⟩ (h:=tkG 13 ⟨D0,U0,V0,P0,L0⟩ (h:=tkG 14 ⟨D0,U0,V0,P0,L0⟩ (h:=tkG 15 ⟨D0,U0,V0,P0,L0⟩ (h:=tkG 16 ⟨D0,U0,V0,P0,L0⟩ (h:=tkG 17 ⟨D0,U0,V0,P0,L0⟩ (h:=tkG 18 ⟨D0,U0,V0,P0,L0⟩ (h:=tkG 19 ⟨D0,U0,V0,P0,L0⟩ (h:=?_))))))));simp only [List.set];refine Co (by kernel_rfl) ?_;refine oG 20 (fun K hK=> ?_);have a8:wr.drew.frozen? ⟨g,i,none⟩=false:=fz;go_simp;refine hK.out _ _ trivial (fun hZ=> ?_);clear hZ hK K;try simp only [Ab,List.set]
      refine oD ?_;go_simp;have a7:Fc w (wr.setCell ⟨g,i,none⟩ (.int .i64 ((max fi (1+fy):Nat):Int))).drew CS g N f5:=⟨ai.bg,ai.own,ai.fr.drew⟩;have e3:(if (fi:Int)<1+(fy:Int) then 1+(fy:Int) else (fi:Int))=((max fi (1+fy):Nat):Int):=by split<;>omega
      clear D0 U0 V0 P0 L0 fz a8 ai d3 a5 av ab;go_wp2_with (fail);go_roundw
      case rel=>exact ⟨k+1,f5,by go_num,by omega,bc,bb,a7⟩
      case measure=>simp [intOf];omega
     ·
      obtain rfl:k=M:=by omega
      have t2:decide ((k:Int)<(k:Int))=false:=decide_eq_false (by omega);go_wp2_with (fail);go_roundw
      case rel=>
       refine ⟨i+1,f4,by go_num,by omega,fun q hq=> ?_,ab⟩
       rcases Nat.lt_or_ge q i with h|h
       · exact ah.out q h
       ·
        obtain rfl:q=i:=by omega
        rw [ao.out,a0]
      case measure=>simp [intOf];omega
   ·
    obtain rfl:i=N:=by omega
    have t2:decide ((i:Int)<(i:Int))=false:=decide_eq_false (by omega);obtain ⟨_,_,P0,_,_⟩:=st.set (i:=p) (by omega) 0;rw [hf.out p (by omega)] at P0;have p1:(0:Int)≤p:=by omega
    have p2:(p:Int)<i:=by omega
    have p3:(p:Int).toNat=p:=by omega
    have a9:=st.fr;go_wp2_with (fail)
    go_ret
    exact ⟨rfl,a9⟩
end Oq
end
section
open Go.RowKit
namespace Oq
end Oq
end
section
open Go.RowKit
attribute [local go_sem ↓] Go.wp_at_zero Go.wp_at_succ
namespace Oq
attribute [local go_sem ↓] Ch Ea
attribute [local go_sem] An3 An4
def crL (b:Int):OpL:={OpL.zero with by_:=b,sq:=1,kind:=1}
theorem Sz (b:Int):(crL b).op=G5 b:=rfl
theorem S3 (b:Int) (w:World) (base:Nat):(crL b).own w base:=
 ⟨RowAt.nil _ _ _ _,RowAt.nil _ _ _ _,(fun _ h=>absurd h Am7),RowAt.nil _ _ _ _,RowAt.nil _ _ _ _,RowAt.nil _ _ _ _,RowAt.nil _ _ _ _,RowAt.nil _ _ _ _,(fun _ h=>absurd h Am7)⟩
theorem Ji (b : Int) (hb : 1 ≤ b ∧ b ≤ 12) : (G5 b).ok :=
  ⟨⟨by show _ ≤ b; omega, by show b ≤ _; omega⟩, I2, I2, Ck, ⟨Am8 _, fun _ h => absurd h Am7⟩, Ck, Ck, Ck, Ck,
   ⟨Am8 _, fun _ h => absurd h Am7⟩, ⟨Ck, Ck, Ef⟩, Ck, Am8 _, ⟨Am8 _, fun _ h => absurd h Am7⟩, ⟨Ck, Ck, Ef⟩,
   ⟨Am8 _, fun _ h => absurd h Am7⟩, Ck, Ck, ⟨Am8 _, fun _ h => absurd h Am7⟩, Ef, ⟨Am8 _, fun _ h => absurd h Am7⟩, Ef, Ef⟩
def Al2 (w:World) (r:Ending) (w':World):Prop:=∃y:OpL,r=.returned (.agg y.cells)∧y.op=sgn (G5 1)∧(∀wz base,y.own wz base)∧Fr Non w w'
theorem Al3 (w:World):Calls Tryz.prog 28 #[.agg #[.int .i64 1,.int .i64 1,.int .i64 1,.int .i64 0,.slice none 0 0,.int .i64 0,.int .i64 0,.int .i64 0,.int .i64 0,.slice none 0 0,.int .i64 0,.int .i64 0,.int .u64 0,.int .i64 0,.slice none 0 0,.slice none 0 0,.int .i64 0,.int .i64 0,.int .u64 0,.slice none 0 0,.int .i64 0,.int .i64 0,.slice none 0 0,.int .u64 0,.slice none 0 0,.int .u64 0,.int .u64 0]] w (Al2 w):=by
 have h:=Ic (crL 1) 1 w (by rw [show (crL 1).by_=1 from rfl,IntKind.wrap_u64];rfl) (by decide) (S3 1 w 0).at (by rw [Sz];exact Ji 1 (by decide));refine Calls.mono h ?_;rintro r w' ⟨h1,h2⟩;exact ⟨_,h1,I1 _ _ (Sz 1) 1 rfl _ rfl,(fun wz base=>Lf (S3 1 wz base) _ _),h2⟩
theorem Jj {g:Gph} {l:List Pn} (hl:g.pns=l) {i:Nat} {p:Pn} (h:l[i]? =some p):∃n,g.nodes[i]? =some n∧n.pn=p:=by
 subst hl;unfold Gph.pns at h;rw [An5] at h;exact Option.map_eq_some_iff.1 h
theorem Fs (y:OpL) (nm:Id) (hn:y.op.name=nm) (w:World) (hat:y.at w w.heap.size) (hok:y.op.ok):Calls Tryz.prog 13 #[.agg y.cells] w fun e w'=>e=.returned (.agg nm.V)∧Fr Non w w':=by
 have k:=Ou y w hat hok;obtain ⟨b,s,u⟩:=nm;unfold Op.name at hn;injection hn with h1 h2 h3
 rw [h3,show y.by_=b from h1,show y.sq=s from h2] at k;exact k
theorem S4 (x:Id):Am [x]=[x]:=rfl
end Oq
end
section
open Go.RowKit
namespace Oq
def lA:Op:=G5 1
def lB:Op:=Dx 1 2 0 [lA.name]
def lC:Op:=Dx 2 1 3 [lA.name]
def lD:Op:=Dx 2 2 3 [lB.name,lC.name]
def pA:Pn:=⟨sgn lA,lA.name,fun _=>false,1⟩
def pB:Pn:=⟨sgn lB,lB.name,fun q=>q==0,2⟩
def pC:Pn:=⟨sgn lC,lC.name,fun q=>q==0,2⟩
def pD:Pn:=⟨sgn lD,lD.name,fun q=>decide (q<3),3⟩
theorem Gl {o p:Op} (h:o.by_≠p.by_∨o.sq≠p.sq):o.name≠p.name:=by
 intro e;have h1:o.name.b=p.name.b:=by rw [e]
 have h2:o.name.s=p.name.s:=by rw [e]
 rcases h with h|h
 · exact h h1
 · exact h h2
theorem neAB:lA.name≠lB.name:=Gl (.inr (by decide))
theorem neAC:lA.name≠lC.name:=Gl (.inl (by decide))
theorem Me:lA.name≠lD.name:=Gl (.inl (by decide))
theorem neBC:lB.name≠lC.name:=Gl (.inl (by decide))
theorem Mf:lB.name≠lD.name:=Gl (.inl (by decide))
theorem neCD:lC.name≠lD.name:=Gl (.inr (by decide))
theorem Al4:lA.chk=0:=Aa3 (by decide)
theorem S5:lA.name.named=true:=Ld (by decide) (by decide)
theorem Al5:lB.chk=0:=Lc (by decide) (by decide) (by decide) ⟨by simp,by simpa using S5,An7 _ _,by simp⟩
theorem Al6:lC.chk=0:=Lc (by decide) (by decide) (by decide) ⟨by simp,by simpa using S5,An7 _ _,by simp⟩
theorem Al7:lB.name.named=true:=Ld (by decide) (by decide)
theorem Al8:lC.name.named=true:=Ld (by decide) (by decide)
theorem S6:Id.less lB.name lC.name=true:=by
 unfold Id.less;rw [if_neg (by show ¬(1:Int)=2;decide)];rfl
theorem Mg:lD.chk=0:=Lc (by decide) (by decide) (by decide) ⟨by simp,by simpa using ⟨Al7,Al8⟩,by
 refine List.pairwise_cons.2 ⟨fun x hx=> ?_,An7 _ _⟩;obtain rfl:=List.mem_singleton.1 hx;exact S6,by simp⟩
theorem Al9:Am [lB.name,lC.name]=[lB.name,lC.name]:=by
 refine (Nn ?_ (List.Perm.refl _)).symm;refine List.pairwise_cons.2 ⟨fun x hx=> ?_,An7 _ _⟩;obtain rfl:=List.mem_singleton.1 hx;exact Id.less_as S6
theorem Df {p:Pn} {l:List Pn} {id:Id} (h:p.id≠id):plc (p::l) id=(plc l id).map (· +1):=by
 unfold plc;rw [Ap0];simp [h]
theorem Jk {p:Pn} {l:List Pn} {id:Id} (h:p.id=id):plc (p::l) id=some 0:=by
 unfold plc;rw [Ap0];simp [h]
theorem plA (l:List Pn):plc (pA::l) lA.name=some 0:=Jk rfl
theorem plB (l:List Pn):plc (pA::pB::l) lB.name=some 1:=by rw [Df neAB,Jk (p:=pB) (id:=lB.name) rfl];rfl
theorem plC (l:List Pn):plc (pA::pB::pC::l) lC.name=some 2:=by rw [Df neAC,Df neBC,Jk (p:=pC) (id:=lC.name) rfl];rfl
theorem plD (l:List Pn):plc (pA::pB::pC::pD::l) lD.name=some 3:=by rw [Df Me,Df Mf,Df neCD,Jk (p:=pD) (id:=lD.name) rfl];rfl
theorem nlB:plc [pA] lB.name=none:=by rw [Df neAB];rfl
theorem nlC:plc [pA,pB] lC.name=none:=by rw [Df neAC,Df neBC];rfl
theorem nlD2:plc [pA,pB] lD.name=none:=by rw [Df Me,Df Mf];rfl
theorem nlD3:plc [pA,pB,pC] lD.name=none:=by rw [Df Me,Df Mf,Df neCD];rfl
theorem Mh:pA.o.by_=1:=I0 _
theorem S7:pB.o.by_=1:=I0 _
theorem pC_by:pC.o.by_=2:=I0 _
theorem pA_sq:pA.o.sq=1:=Ra _
theorem pC_sq:pC.o.sq=1:=Ra _
theorem pA_at:pA.o.at_=0:=Lb _
theorem pB_at:pB.o.at_=0:=Lb _
theorem pC_at:pC.o.at_=3:=Lb _
theorem upA (l:List Pn) (q:Nat):upB (pA::l) lA.name q=false:=by unfold upB;rw [plA];rfl
theorem atA (l:List Pn):Cb (pA::l) lA.name=0:=by unfold Cb;rw [plA];exact pA_at
theorem lvA (l:List Pn):Bn (pA::l) lA.name=1:=by unfold Bn;rw [plA];rfl
theorem parA (l:List Pn) (q:Nat):Bw (pA::l) [lA.name] q=(q==0):=by
 unfold Bw;simp only [An8,An9,Ao0,plA]
 cases q<;>rfl
theorem abvA (l:List Pn) (q:Nat):Av (pA::l) [lA.name] q=false:=by
 unfold Av;simp only [An8,An9,Ao0,upA]
theorem psA (l:List Pn):Ai (pA::l) [lA.name]=fun q=>q==0:=by
 funext q;unfold Ai;rw [parA,abvA]
 cases q with
 |zero=>rfl
 |succ q=>simp
theorem clA (l:List Pn):clash (pA::l) [lA.name]=false:=by
 unfold clash;rw [Ap1];intro q _;rw [abvA];simp
theorem ltA (l:List Pn):late (pA::l) [lA.name]=0:=by
 unfold late;simp only [Ao1,Ao2,atA];rfl
theorem llA (l:List Pn):lvl (pA::l) [lA.name]=2:=by
 unfold lvl;simp only [Ao1,Ao2,lvA];rfl
theorem parD (q:Nat):Bw [pA,pB,pC] [lB.name,lC.name] q=(q==1||q==2):=by
 unfold Bw;simp only [An8,An9,Ao0,plB,plC]
 match q with
 |0=>rfl
 |1=>rfl
 |2=>rfl
 |q+3=>rfl
theorem abvD (q:Nat):Av [pA,pB,pC] [lB.name,lC.name] q=(q==0):=by
 unfold Av upB;simp only [An8,An9,Ao0,plB,plC];show ((q==0)||(q==0))=_;simp
theorem psD:Ai [pA,pB,pC] [lB.name,lC.name]=fun q=>decide (q<3):=by
 funext q;unfold Ai;rw [parD,abvD]
 match q with
 |0=>rfl
 |1=>rfl
 |2=>rfl
 |q+3=>simp
theorem clD:clash [pA,pB,pC] [lB.name,lC.name]=false:=by
 unfold clash;rw [Ap1];intro q _;rw [parD,abvD]
 match q with
 |0=>simp
 |1=>simp
 |2=>simp
 |q+3=>simp
theorem ltD:late [pA,pB,pC] [lB.name,lC.name]=3:=by
 have e1:Cb [pA,pB,pC] lB.name=0:=by unfold Cb;rw [plB];exact pB_at
 have e2:Cb [pA,pB,pC] lC.name=3:=by unfold Cb;rw [plC];exact pC_at
 unfold late;simp only [Ao1,Ao2,e1,e2];rfl
theorem llD:lvl [pA,pB,pC] [lB.name,lC.name]=3:=by
 have e1:Bn [pA,pB,pC] lB.name=2:=by unfold Bn;rw [plB];rfl
 have e2:Bn [pA,pB,pC] lC.name=2:=by unfold Bn;rw [plC];rfl
 unfold lvl;simp only [Ao1,Ao2,e1,e2];rfl
theorem Mi (p:Nat→Bool) (d:Int) (n:Pn) (l:List Pn):Bi (n::l) p d 1=if (n.o.by_==d&&p 0)=true then max 0 n.o.sq else 0:=rfl
theorem S8 (p:Nat→Bool) (d:Int) (n m:Pn) (l:List Pn):Bi (n::m::l) p d 2=if (m.o.by_==d&&p 1)=true then max (Bi (n::m::l) p d 1) m.o.sq else Bi (n::m::l) p d 1:=rfl
theorem last3 (p:Nat→Bool) (d:Int) (n m k:Pn) (l:List Pn):Bi (n::m::k::l) p d 3=if (k.o.by_==d&&p 2)=true then max (Bi (n::m::k::l) p d 2) k.o.sq else Bi (n::m::k::l) p d 2:=rfl
theorem ah1 (p:Nat→Bool) (d s:Int) (n:Pn) (l:List Pn):Bu (n::l) p d s 1=(false||(n.o.by_==d&&p 0&&n.o.sq==s-1)):=rfl
theorem ah3 (p:Nat→Bool) (d s:Int) (n m k:Pn) (l:List Pn):Bu (n::m::k::l) p d s 3=(Bu (n::m::k::l) p d s 2||(k.o.by_==d&&p 2&&k.o.sq==s-1)):=rfl
theorem sqbB:Ay [pA] (fun q=>q==0) lB=false:=by
 unfold Ay;rw [show lB.by_=1 from rfl,show lB.sq=2 from rfl,show [pA].length=1 from rfl,Mi,ah1,Mh,pA_sq];rfl
theorem sqbC:Ay [pA,pB] (fun q=>q==0) lC=false:=by
 unfold Ay;rw [show lC.by_=2 from rfl,show lC.sq=1 from rfl,show [pA,pB].length=2 from rfl,S8,Mi,Mh,S7];rfl
theorem sqbD:Ay [pA,pB,pC] (fun q=>decide (q<3)) lD=false:=by
 unfold Ay;rw [show lD.by_=2 from rfl,show lD.sq=2 from rfl,show [pA,pB,pC].length=3 from rfl,last3,S8,Mi,ah3,Mh,S7,pC_by,pC_sq];simp
 decide
section
variable {cs : List Cd} {c1 c2 : Cd}
theorem addA0 (h1:Bj cs 1=some c1) (s1:c1.s=Sg.pub (sec Bb 1)):Ag cs [] (sgn lA)=0:=
 Gz (c:=c1) Al4 rfl (by simp) h1 s1 (.inr rfl) rfl (by show clash [] []=false;unfold clash Bw;simp) (Ao4 _) rfl
theorem addB0 (h1:Bj cs 1=some c1) (s1:c1.s=Sg.pub (sec Bb 1)):Ag cs [pA] (sgn lB)=0:=
 Gz (c:=c1) Al5 nlB (by simp) h1 s1 (.inl (by show (8:Int)≠1;decide)) (by show [lA.name].any _=false;simp [plA]) (clA []) (by show late [pA] [lA.name]≤0;rw [ltA];exact Ao4 _) (by show Ay [pA] (Ai [pA] [lA.name]) lB=false;rw [psA];exact sqbB)
theorem addC0 (h2:Bj cs 2=some c2) (s2:c2.s=Sg.pub (sec Bb 2)):Ag cs [pA,pB] (sgn lC)=0:=
 Gz (c:=c2) Al6 nlC (by simp) h2 s2 (.inl (by show (8:Int)≠1;decide)) (by show [lA.name].any _=false;simp [plA]) (clA [pB]) (by show late [pA,pB] [lA.name]≤3;rw [ltA];decide) (by show Ay [pA,pB] (Ai [pA,pB] [lA.name]) lC=false;rw [psA];exact sqbC)
theorem Am0 (h2:Bj cs 2=some c2) (s2:c2.s=Sg.pub (sec Bb 2)):Ag cs [pA,pB] (sgn lD)=10:=
 Aa1 (c:=c2) Mg nlD2 (by simp) h2 s2 (.inl (by show (8:Int)≠1;decide)) (by show [lB.name,lC.name].any _=true;simp [nlC])
theorem addD0 (h2:Bj cs 2=some c2) (s2:c2.s=Sg.pub (sec Bb 2)):Ag cs [pA,pB,pC] (sgn lD)=0:=
 Gz (c:=c2) Mg nlD3 (by simp) h2 s2 (.inl (by show (8:Int)≠1;decide)) (by show [lB.name,lC.name].any _=false;simp [plB,plC]) clD (by show late [pA,pB,pC] [lB.name,lC.name]≤3;rw [ltD];exact Ao4 _) (by show Ay [pA,pB,pC] (Ai [pA,pB,pC] [lB.name,lC.name]) lD=false;rw [psD];exact sqbD)
theorem addD5:Ag cs [pA,pB,pC,pD] (sgn lD)=5:=Aa2 (by rw [Aa0];exact Mg) (by rw [Gf,plD];rfl)
end
theorem Jl (l:List Pn) (o:Op):As l (sgn o)=⟨sgn o,o.name,Ai l o.past,lvl l o.past⟩:=by
 unfold As;rw [Gf,Rb]
theorem pnA:As [] (sgn lA)=pA:=by
 rw [Jl]
 have e:Ai [] lA.past=fun _=>false:=by
  funext q;show Ai [] [] q=false;unfold Ai Av Bw;simp
 rw [e];rfl
theorem pnB:As [pA] (sgn lB)=pB:=by
 have e1:Ai [pA] lB.past=fun q=>q==0:=psA [];have e2:lvl [pA] lB.past=2:=llA [];rw [Jl,e1,e2];rfl
theorem pnC:As [pA,pB] (sgn lC)=pC:=by
 have e1:Ai [pA,pB] lC.past=fun q=>q==0:=psA [pB];have e2:lvl [pA,pB] lC.past=2:=llA [pB];rw [Jl,e1,e2];rfl
theorem pnD:As [pA,pB,pC] (sgn lD)=pD:=by
 have e1:Ai [pA,pB,pC] lD.past=fun q=>decide (q<3):=psD;have e2:lvl [pA,pB,pC] lD.past=3:=llD;rw [Jl,e1,e2];rfl
end Oq
end
end Go.Proofs.YthpkjfliibdnjaaGreatDoor
