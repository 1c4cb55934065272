/-
  Contracts of the functions that the claim's statement reaches, walked one by one (part 16).
  Conditions: as each theorem says.
-/
import Derived.Great.BuildSlice
import Derived.Test.YtafonabghnogaaaGreatDoorGwM12
import Derived.Test.YtafonabghnogaaaGreatDoorGwM14
import Derived.Test.YtafonabghnogaaaGreatDoorGwM15
set_option maxRecDepth 100000
set_option maxHeartbeats 16000000
open Bool renaming and_eq_true→Al5
open Int renaming lt_or_le→Al8
open List renaming map_append→Ak6,mem_singleton→Al0,getElem?_eq_getElem→Al2,nil_append→Al3,length_append→Al4,map_cons→Al6,map_nil→Al7,take_of_length_le→Al9,mem_of_getElem?→Am2,flatMap_append→Am3,flatMap_cons→Am4,flatMap_nil→Am5,getElem?_toArray→Am6,not_mem_nil→Am7
open Nat renaming le_trans→Ak7,zero_add→Ak9,le_refl→Al1,not_lt_zero→Am0,lt_or_ge→Am1
open Go.World renaming size_alloc→Ak8
namespace Go.Proofs.YtafonabghnogaaaGreatDoor
section
open Go.RowKit
attribute [local go_sem ↓] Go.wp_at_zero Go.wp_at_succ
namespace Oq
attribute [local go_sem] Bool.not_false Bool.not_true
attribute [local go_sem ↓] E6 Ch
theorem Rr (y:OpL) (nm:Id) (hn:y.op.name=nm) (w:World) (hat:y.at w w.heap.size) (hok:y.op.ok):Calls Tryz.prog 35 #[.agg y.cells] w fun e w'=>e=.returned (.agg nm.V)∧Fr Non w w':=by
 have k:=Oi y w hat hok;obtain ⟨b,s,u⟩:=nm;unfold Op.name at hn;injection hn with h1 h2 h3
 rw [h3,show y.by_=b from h1,show y.sq=s from h2] at k;exact k
theorem Rs {o:Op} (h:o.chk=0):1≤o.sq∧o.sq≤2147483647∧0≤o.at_:=by
 have h1:=(chk_ok.1 h).2.2.1;unfold Op.numsB at h1;simp only [Al5] at h1;have h2:=h1.1.1.2;have h3:=h1.1.2;unfold inR at h2 h3;simp only [Al5,decide_eq_true_eq] at h2 h3;exact ⟨h2.1,h2.2,h3.1⟩
theorem Af3 {l:List Pn} {ids:List Id} {k p:Nat} {y:Id} (hy:ids[k]? =some y) (hp:plc l y=some p):Aj l (ids.take (k+1))=Aj l (ids.take k)++[p]:=by
 unfold Aj;rw [Dz hy,Ak6,Al6,Al7,hp];rfl
def Hc (cards:List Cd) (l:List Pn) (o:Op) (w:World) (e:Ending) (w':World):Prop:=
 ∃A n c,e=.returned (.tuple #[.int .i64 (Ai cards l o),.slice A n c])∧(Ai cards l o=0→n=o.past.length∧Own w' w.heap.size 3 1 A n c ((Aj l o.past).map Qv))∧Fr Non w w'
theorem Af4 (base:Nat) (r:RG) (x:OpL) (w:World) (h:r.own w base) (hat:x.at w w.heap.size) (hok:x.op.ok):
  Calls Tryz.prog 16 #[.agg r.cells,.agg x.cells] w (Hc r.cards r.l x.op w):=by
 have b1:=h.few;have ec:x.past.length≤1000:=hok.past.1;have bg:=(Blk.new w 32 r.cells).alloc (.cells x.cells 44);have bx:=Blk.new (w.alloc (.cells r.cells 32)) 44 x.cells;rw [Ak8] at bx;have f0:Fr Non w ((w.alloc (.cells r.cells 32)).alloc (.cells x.cells 44)):=((Fr.refl Non w).alloc _).alloc _;have g1:Hid (r.cells[1]? =some (.slice r.lA r.l.length r.lC)):=rfl;have g4:Hid (r.cells[4]? =some (.slice r.nA r.l.length r.nC)):=rfl;have x0:Hid (x.cells[0]? =some (.int .i64 x.by_)):=rfl;have x2:Hid (x.cells[2]? =some (.int .i64 x.kind)):=rfl;have x3:Hid (x.cells[3]? =some (.int .i64 x.at_)):=rfl;have x4:Hid (x.cells[4]? =some (.slice x.pastA x.past.length x.pastC)):=rfl;have d0:Hid (x.cells[25]? =some (.int .u64 (x.r:Int))):=rfl;have dw:Hid (x.cells[26]? =some (.int .u64 (x.s:Int))):=rfl;have b8:(Tryz.prog.info? 44).map (·.size)=some x.cells.size:=by rw [show x.cells.size=27 from rfl];kernel_rfl
 have hl:=Az (P:=Tryz.prog) w.heap.size 32 Tryz.underlying32 rfl (cs:=r.cells) Dl;have es:=Az (P:=Tryz.prog) (w.heap.size+1) 44 Tryz.underlying44 rfl b8;have c3:=Lib.hid (fun (w':World) (hf:Fr Non w w')=>Af2 x w' (OpL.frame hat hf) hok);obtain ⟨nm,c5⟩:∃nm,x.op.name=nm:=⟨_,rfl⟩;have c7:=Lib.hid (fun (w':World) (hf:Fr Non w w')=>Rr x nm c5 w' (OpL.frame hat hf) hok);have cd:=Lib.hid (fun (id:Id) (w':World) (hf:Fr Non w w')=>Hb base r id w' (h.non hf));have cz:=Lib.hid (fun (w':World) (hf:Fr Non w w')=>Ae6 base r x.by_ w' (h.non hf));have cx:=Lib.hid (fun (w':World) (hf:Fr Non w w')=>Hr x w' (OpL.frame hat hf) hok);have lb:=Op.bare_len x.op hok;have ct:=Lib.hid (fun (c:Cd) (hc:c.s<18446744073709551616) (A:Option Addr) (cc:Nat) (w':World) (B:Nat) (ho:Own w' B 5 1 A x.op.bare.length cc (x.op.bare.map Bv))=>Ae9 c.s x.r x.s w'.heap.size x.op.bare.length cc A x.op.bare w' hc hok.r hok.s rfl ho.cap.1 (by omega) (Al1 _) ho.rd)
 have b5:Hid (∀(A:Option Addr) (n c:Nat) (w':World) (B:Nat),Fr Non w w'→(∀y∈x.past,∃p,plc r.l y=some p)→n=x.past.length→Own w' B 3 1 A n c ((Aj r.l x.past).map Qv)→
   Calls Tryz.prog 67 #[.agg r.cells,.slice A n c] w' (I6 r.l.length (Ag r.l x.past) w')):=by
  intro A n c w' B hf hp hn ho;have k:=Rp base r w'.heap.size n c A (Aj r.l x.past) w' (h.non hf) (by show _=_;rw [Ha,hn]) ho.rd (by omega);rw [Ra h.rows hp] at k;exact k
 have df:=Lib.hid (fun (w':World) (hf:Fr Non w w') (A:Option Addr) (c:Nat) (h1:1≤x.sq) (h2:x.sq≤9223372036854775807) (hr:Rd w' w'.heap.size 1 A r.l.length (Cn r.l.length (Ag r.l x.past)))=>Ae5 base r x w'.heap.size c A (Ag r.l x.past) w' (h.non hf) h1 h2 hr);have bz:=Lib.hid (fun (p:Nat) (hp:p<r.l.length)=>h.inAt hp)
 have af:Hid (∀i,i<r.l.length→∃(m:Pn) (b ao:Nat),r.l[i]? =some m∧r.lA=some ⟨b,ao,none⟩∧w.cell? ⟨b,ao+i*27+3,none⟩=some (.int .i64 m.o.at_)):=by
  intro i hi;obtain ⟨y,b,ao,_,h1,_,h3,_,h4⟩:=h.xAt (Al2 hi);exact ⟨_,b,ao,Al2 hi,h3,by rw [← h1];exact h4 3 (by omega) _ rfl⟩
 have b0:Hid (∀id,-1≤Aq r.l id∧Aq r.l id<r.l.length):=fun id=>Rj r.l id;have b4:=Lib.hid h.cok;have bh:=hat.past.1
 have aa:Hid (∀(E:Int) (w':World),Ai r.cards r.l x.op=E→E≠0→Fr Non w w'→Hc r.cards r.l x.op w (.returned (.tuple #[.int .i64 E,.slice none 0 0])) w'):=by
  intro E w' h1 h2 h3;subst h1;exact ⟨none,0,0,rfl,fun e=>absurd e h2,h3⟩
 have ac:Hid (∀(A:Option Addr) (n c:Nat) (w':World),Ai r.cards r.l x.op=0→n=x.past.length→Own w' w.heap.size 3 1 A n c ((Aj r.l x.past).map Qv)→Fr Non w w'→Hc r.cards r.l x.op w (.returned (.tuple #[.int .i64 0,.slice A n c])) w'):=by
  intro A n c w' h1 h2 h3 h4;exact ⟨A,n,c,by rw [h1],fun _=>⟨h2,h3⟩,h4⟩
 have cq:Hid (x.op.chk≠0→Ai r.cards r.l x.op=x.op.chk):=Qi;have bq:Hid (x.op.chk=0→(plc r.l x.op.name).isSome=true→Ai r.cards r.l x.op=5):=Qj;have aw:Hid (x.op.chk=0→plc r.l x.op.name=none→200≤r.l.length→Ai r.cards r.l x.op=3):=Qk;have aj:Hid (x.op.chk=0→plc r.l x.op.name=none→r.l.length<200→Bi r.cards x.by_=none→Ai r.cards r.l x.op=17):=Ab6;have ae:Hid (∀c,x.op.chk=0→plc r.l x.op.name=none→r.l.length<200→Bi r.cards x.by_=some c→Sg.check c.s x.op.bare x.r x.s=false→Ai r.cards r.l x.op=12):=fun c=>Ab7;have ad:Hid (∀c,x.op.chk=0→plc r.l x.op.name=none→r.l.length<200→Bi r.cards x.by_=some c→Sg.check c.s x.op.bare x.r x.s=true→Ai r.cards r.l x.op=if x.kind=1∧r.l≠[] then 1 else Ev r.l x.op):=fun c=>Ab8;have az:Hid (∀y∈x.past,(plc r.l y).isNone=true→Ev r.l x.op=10):=fun y hy h=>Ab9 hy h;have ay:Hid ((∀y∈x.past,∃p,plc r.l y=some p)→Ev r.l x.op=Dk r.l x.op):=Ac0 (o:=x.op);have ag:Hid ((∀y∈x.past,∃p,plc r.l y=some p)→∀(a b p q:Nat) (m:Pn),(Aj r.l x.past)[a]? =some p→(Aj r.l x.past)[b]? =some q→r.l[p]? =some m→m.ps q=true→Dk r.l x.op=6):=fun hp a b p q m h1 h2 h3 h4=>Ac1 (o:=x.op) b1 hp h1 h2 h3 h4;have ah:Hid ((∀y∈x.past,∃p,plc r.l y=some p)→∀(a p:Nat) (m:Pn),(Aj r.l x.past)[a]? =some p→r.l[p]? =some m→x.at_<m.o.at_→Dk r.l x.op=6):=fun hp a p m h1 h2 h3=>Ac2 (o:=x.op) hp h1 h2 h3;have ab:Hid (0≤x.at_→(∀y∈x.past,∃p,plc r.l y=some p)→(∀(a b p q:Nat) (m:Pn),(Aj r.l x.past)[a]? =some p→(Aj r.l x.past)[b]? =some q→r.l[p]? =some m→m.ps q=false)→(∀(a p:Nat) (m:Pn),(Aj r.l x.past)[a]? =some p→r.l[p]? =some m→m.o.at_≤x.at_)→Dk r.l x.op=if Aw r.l (Ag r.l x.past) x.op=true then 11 else 0):=fun h0 hp h1 h2=>Ac3 (o:=x.op) h0 hp h1 h2;have c6:Hid (x.op.chk=0→1≤x.sq∧x.sq≤2147483647∧0≤x.at_):=Rs;have a3:Hid ((Aj r.l x.past).length=x.past.length):=Ha _ _;rw [c5] at bq aw aj ae ad;clear c5 h hok hat b8;generalize Hc r.cards r.l x.op w=POST at*;generalize Ai r.cards r.l x.op=EE at*;generalize Ev r.l x.op=EK at*;generalize Dk r.l x.op=EP at*;generalize x.op.chk=CK at*;obtain ⟨SB,co⟩:=Aa (Aw r.l (Ag r.l x.past) x.op);rw [co.out] at ab
 have al:Hid (∀(w':World),Fr Non w w'→∀(A:Option Addr) (c:Nat),1≤x.sq→x.sq≤9223372036854775807→Rd w' w'.heap.size 1 A r.l.length (Cn r.l.length (Ag r.l x.past))→Calls Tryz.prog 66 #[.agg r.cells,.agg x.cells,.slice A r.l.length c] w' (Ae (!SB) w')):=by
  rw [← co.out];exact df.out
 clear df co;generalize x.op.bare=BR at*;generalize x.cells=XS at*;generalize r.cells=CS at*;generalize r.cards=CD at*;generalize r.lA=LA at*;generalize r.lC=LC at*;generalize r.nA=NA at*;generalize r.nC=NC at*;generalize r.l=l at*;obtain ⟨N,hN⟩:=Aa l.length
 have bl:Hid (l≠[]↔0<N):=by
  show _↔_;rw [← hN.out];exact List.length_pos_iff.symm
 rw [hN.out] at g1 g4 b1 bz af b0 b5 al aw aj ae ad;generalize x.pastA=PA at*;generalize x.pastC=PC at*;generalize x.past=ids at*;obtain ⟨M,hM⟩:=Aa ids.length;rw [hM.out] at x4 ec bh a3 b5 ac;generalize x.by_=xb at*;generalize x.sq=xsq at*;generalize x.kind=xk at*;generalize x.at_=xat at*;generalize x.r=xr at*;generalize x.s=xs at*;unfold NewB at cx;unfold Dy at ct;unfold Eh at cz;unfold Iq at c3;go_enter Tryz.func16,Tryz.ntmps16;go_upto_region 1 with (fail)
 generalize (w.alloc (.cells CS 32)).alloc (.cells XS 44)=w0 at*;go_upto_region 2 with (go_at_call 63;(with_reducible refine (c3.out _ f0).mono ?_);rintro _ w1 ⟨rfl,f1⟩)
 replace bg:=bg.fr f1 zq;replace bx:=bx.fr f1 zq;replace f0:=f0.trans f1 zr;clear c3 f1 w0
 by_cases hck:CK=0
 case neg=>
  have t:(CK !=0)=true:=by simp [hck]
  have hd:=Lib.hid (aa.out CK w1 (cq.out hck) hck f0);clear aa ac cq bq aw aj ae ad az ay ag ah ab
  as_aux_lemma=>
  go_wp2_with (fail)
  first|exact hd.out|(go_ret2;exact hd.out)
 case pos=>
 obtain ⟨s1,s2,s3⟩:=c6.out hck;replace bq:Hid ((plc l nm).isSome=true→EE=5):=bq.out hck;replace aw:=Lib.hid (aw.out hck);replace aj:=Lib.hid (aj.out hck);replace ae:=Lib.hid (fun c=>ae.out c hck);replace ad:=Lib.hid (fun c=>ad.out c hck);clear cq c6;subst hck;have B0:=bg.drew;have X0:=bx.drew;have ai:=f0.drew;have da:=Lib.hid (fun w' hf=>cd.out nm w' hf);have dr:Hid ((plc l nm).isSome=true↔0≤Aq l nm):=plcI_pos.symm
 have dp:Hid (Aq l nm<0→plc l nm=none):=fun e=>by
  have:=plcI_neg.1 e
  cases hq:plc l nm with
  |none=>rfl
  |some p=>rw [hq] at this;cases this
 generalize Aq l nm=P0 at*;go_upto_region 4 with (fail)
 refine wp_region_held_drew (S:=fun w'=>Blk w' w.heap.size 32 CS∧Blk w' (w.heap.size+1) 44 XS) (by kernel_rfl) ⟨B0,X0⟩ (fun hHeld=> ?_);clear hHeld;refine tkH 0 ⟨B0,X0⟩ (h:=tkH 1 ⟨B0,X0⟩ (h:=?_));simp only [List.set];refine oG 2 (fun K hK=> ?_);go_simp;go_wp2_with (go_at_call 35;(with_reducible refine (c7.out _ ai).mono ?_);rintro _ v1 ⟨rfl,cf⟩;have B1:=B0.fr cf zq;have X1:=X0.fr cf zq;have ap:=ai.trans cf zr);refine hK.out _ _ ⟨B1,X1⟩ (fun hZ=> ?_);clear hZ hK K;try simp only [Ad,List.set]
 refine oG 3 (fun K hK=> ?_);go_simp;go_wp2_with (go_at_call 37;(with_reducible refine (da.out _ ap).mono ?_);rintro _ v2 ⟨rfl,ch⟩;have B2:=B1.fr ch zq;have X2:=X1.fr ch zq;have ak:=ap.trans ch zr);refine hK.out _ _ ⟨B2,X2⟩ (fun hZ=> ?_);clear hZ hK K;try simp only [Ad,List.set]
 refine tkH 4 ⟨B2,X2⟩ (h:=?_);simp only [List.set];refine oD ?_;go_simp;clear c7 da B0 X0 ai B1 X1 ap cf ch v1 bg bx f0 w1
 rcases Al8 P0 0 with hP|hP
 case inr=>
  have t:decide (P0≥0)=true:=decide_eq_true (by omega);have t2:decide (0≤P0)=true:=decide_eq_true (by omega);have hd:=Lib.hid (aa.out 5 v2 (bq.out (dr.out.2 hP)) (by decide) ak);clear aa ac bq aw aj ae ad az ay ag ah ab
  as_aux_lemma=>
  go_wp2_with (fail)
  first|exact hd.out|(go_ret2;exact hd.out)
 case inl=>
 have t:decide (P0≥0)=false:=decide_eq_false (by omega);have t2:decide (0≤P0)=false:=decide_eq_false (by omega);have bv:=dp.out hP;replace aw:=Lib.hid (aw.out bv);replace aj:=Lib.hid (aj.out bv);replace ae:=Lib.hid (fun c=>ae.out c bv);replace ad:=Lib.hid (fun c=>ad.out c bv);clear bq dr dp bv;have c1:=(B2.cell 1).trans g1.out;go_upto_region 6 with (fail)
 clear t t2 hP
 by_cases hfull:200≤N
 case pos=>
  have t:decide ((N:Int)≥200)=true:=decide_eq_true (by omega);have t2:decide ((200:Int)≤(N:Int))=true:=decide_eq_true (by omega);have hd:=Lib.hid (aa.out 3 v2 (aw.out hfull) (by decide) ak);clear aa ac aw aj ae ad az ay ag ah ab
  as_aux_lemma=>
  go_wp2_with (fail)
  first|exact hd.out|(go_ret2;exact hd.out)
 case neg=>
 have t:decide ((N:Int)≥200)=false:=decide_eq_false (by omega);have t2:decide ((200:Int)≤(N:Int))=false:=decide_eq_false (by omega);have ba:N<200:=by omega
 replace aj:=Lib.hid (aj.out ba);replace ae:=Lib.hid (fun c=>ae.out c ba);replace ad:=Lib.hid (fun c=>ad.out c ba);clear aw hfull ba;have dx:=(X2.cell 0).trans x0.out;have bt:=Lib.hid (cz.out v2 ak);clear cz
 cases hcd:Bi CD xb
 case none=>
  rw [hcd] at bt;have hd:=Lib.hid (fun w' hf=>aa.out 17 w' (aj.out hcd) (by decide) hf);have b9:Hid (Calls Tryz.prog 64 #[.agg CS,.int .i64 xb] v2 fun e w'=>e=.returned (.tuple #[.agg zC,.bool false])∧Fr Non v2 w'):=bt.out;clear aa ac aj ae ad az ay ag ah ab bt
  as_aux_lemma=>
  go_upto_region 9 with (go_at_call 64;(with_reducible refine (b9.out).mono ?_);rintro _ v3 ⟨rfl,f3⟩)
  have dh:=Lib.hid (hd.out _ ((ak.trans f3 zr).alloc (.cells zC 81)));go_wp2_with (fail)
  first|exact dh.out|(go_ret2;exact dh.out)
 case some c=>
 have c9:=b4.out c (List.mem_of_find?_eq_some hcd);rw [hcd] at bt;have b9:Hid (Calls Tryz.prog 64 #[.agg CS,.int .i64 xb] v2 fun e w'=>e=.returned (.tuple #[.agg #[.int .i64 c.d,.int .i64 c.m,.int .u64 (c.l:Int),.int .u64 (c.k:Int),.int .u64 (c.s:Int)],.bool true])∧Fr Non v2 w'):=bt.out;replace ae:=Lib.hid (ae.out c hcd);replace ad:=Lib.hid (ad.out c hcd);have cl:=Lib.hid (ct.out c c9);obtain ⟨sb,dj⟩:=Aa (Sg.check c.s BR xr xs);rw [dj.out] at ae ad cl;clear bt aj hcd ct c9 dj b4;go_upto_region 9 with (go_at_call 64;(with_reducible refine (b9.out).mono ?_);rintro _ v3 ⟨rfl,f3⟩)
 have f4:Fr Non v2 (v3.alloc (.cells #[.int .i64 c.d,.int .i64 c.m,.int .u64 (c.l:Int),.int .u64 (c.k:Int),.int .u64 (c.s:Int)] 81)):=f3.alloc _;have bc:=Blk.new v3 81 #[.int .i64 c.d,.int .i64 c.m,.int .u64 (c.l:Int),.int .u64 (c.k:Int),.int .u64 (c.s:Int)];have B3:=B2.fr f4 zq;have X3:=X2.fr f4 zq;have di:=ak.trans f4 zr;obtain ⟨gc,de⟩:=Aa v3.heap.size;rw [de.out] at bc ⊢;generalize v3.alloc (.cells #[.int .i64 c.d,.int .i64 c.m,.int .u64 (c.l:Int),.int .u64 (c.k:Int),.int .u64 (c.s:Int)] 81)=v4 at*;have S0:v4.drew.cell? ⟨gc,4,none⟩=some (.int .u64 (c.s:Int)):=bc.cell 4;replace c1:v4.cell? ⟨w.heap.size,1,none⟩=some (.slice LA N LC):=(B3.cell 1).trans g1.out;clear b9 f3 f4 de B2 X2 ak dx;go_upto_region 11 with (fail)
 clear t t2;have R0:v4.drew.cell? ⟨w.heap.size+1,25,none⟩=some (.int .u64 (xr:Int)):=(X3.cell 25).trans d0.out;have T0:v4.drew.cell? ⟨w.heap.size+1,26,none⟩=some (.int .u64 (xs:Int)):=(X3.cell 26).trans dw.out;have B0:=B3.drew;have X0:=X3.drew;have ai:=di.drew;clear c1 bc B3 X3 di;refine wp_region_held_drew (S:=fun w'=>Blk w' w.heap.size 32 CS∧Blk w' (w.heap.size+1) 44 XS∧w'.cell? ⟨gc,4,none⟩=some (.int .u64 (c.s:Int))∧w'.cell? ⟨w.heap.size+1,25,none⟩=some (.int .u64 (xr:Int))∧w'.cell? ⟨w.heap.size+1,26,none⟩=some (.int .u64 (xs:Int))) (by kernel_rfl) ⟨B0,X0,S0,R0,T0⟩ (fun hHeld=> ?_);clear hHeld;refine tkH 0 ⟨B0,X0,S0,R0,T0⟩ (h:=tkH 1 ⟨B0,X0,S0,R0,T0⟩ (h:=tkH 2 ⟨B0,X0,S0,R0,T0⟩ (h:=tkH 4 ⟨B0,X0,S0,R0,T0⟩ (h:=tkH 5 ⟨B0,X0,S0,R0,T0⟩ (h:=?_)))));simp only [List.set];refine oG 3 (fun K hK=> ?_);go_simp;go_wp2_with (go_at_call 62;(with_reducible refine (cx.out _ ai).mono ?_);rintro _ v1 ⟨A1,c1,rfl,dg,bn⟩;have B1:=B0.fr bn zq;have X1:=X0.fr bn zq;have S1:=bn.cell S0 zq;have R1:=bn.cell R0 zq;have T1:=bn.cell T0 zq;have ap:=ai.trans bn zr);refine hK.out _ _ ⟨B1,X1,S1,R1,T1⟩ (fun hZ=> ?_);clear hZ hK K;try simp only [Ad,List.set]
 refine oG 6 (fun K hK=> ?_);go_simp;go_wp2_with (go_at_call 65;(with_reducible refine (cl.out _ _ _ _ dg).mono ?_);rintro _ v2 ⟨rfl,bs⟩;have B2:=B1.fr bs zq;have X2:=X1.fr bs zq;have S2:=bs.cell S1 zq;have R2:=bs.cell R1 zq;have T2:=bs.cell T1 zq;have ak:=ap.trans bs zr);refine hK.out _ _ ⟨B2,X2,S2,R2,T2⟩ (fun hZ=> ?_);clear hZ hK K;try simp only [Ad,List.set]
 refine tkH 7 ⟨B2,X2,S2,R2,T2⟩ (h:=?_);simp only [List.set];refine oD ?_;go_simp;clear cx cl B0 X0 ai B1 X1 ap S0 S1 S2 R0 R1 R2 T0 T1 T2 dg bn bs v3 v1 v4
 cases sb
 case false=>
  have hd:=Lib.hid (aa.out 12 v2 (ae.out rfl) (by decide) ak);clear aa ac ae ad az ay ag ah ab
  as_aux_lemma=>
  go_wp2_with (fail)
  first|exact hd.out|(go_ret2;exact hd.out)
 case true=>
 replace ad:=Lib.hid (ad.out rfl);clear ae;have c1:=(B2.cell 1).trans g1.out;have eg:=(X2.cell 2).trans x2.out;go_upto_region 14 with (fail)
 obtain ⟨kb,b7⟩:=Aa (xk==1&&decide ((0:Int)<(N:Int)))
 go_cut [55] from 47 to 55 (fun s wc=>v2=wc∧s=.bool kb)
 case first=>
  clear aa ac ad az ay ag ah ab
  as_aux_lemma=>
  rcases zb (xk==1) with t1|t1
  ·
   have hv:Hid (decide ((0:Int)<(N:Int))=kb):=by show _=_;rw [← b7.out,t1];rfl
   go_wp2_with (fail);go_meet;exact ⟨rfl,congrArg Value.bool (by rw [← hv.out];first|rfl|exact decide_eq_decide.2 (by omega))⟩
  ·
   have hv:Hid (false=kb):=by show _=_;rw [← b7.out,t1];rfl
   go_wp2_with (fail);go_meet;exact ⟨rfl,congrArg Value.bool hv.out⟩
 case rest=>
 obtain ⟨rfl,rfl⟩:=hcut;clear c1 eg
 cases kb
 case true=>
  have hd:=Lib.hid (aa.out 1 v2 (by
   have h1:=b7.out;rw [Al5,beq_iff_eq,decide_eq_true_iff] at h1;rw [ad.out,if_pos ⟨h1.1,bl.out.2 (by omega)⟩]) (by decide) ak)
  clear aa ac ad az ay ag ah ab
  as_aux_lemma=>
  go_wp2_with (fail)
  first|exact hd.out|(go_ret2;exact hd.out)
 case false=>
 replace ad:Hid (EE=EK):=by
  show _=_;have h1:=b7.out;rw [Bool.and_eq_false_iff,beq_eq_false_iff_ne,decide_eq_false_iff_not] at h1
  rw [ad.out,if_neg (fun e=>by
   rcases h1 with h1|h1
   · exact h1 e.1
   ·
    have:=bl.out.1 e.2;omega)]
 clear b7 bl;rw [← ad.out] at az ay;clear ad;have db:=ak.size;have ek:=B2.lt;go_upto_region 16 with (fail)
 go_wp2_with (fail);generalize v2=wL at*
 go_loopw [10,11] (fun s v wr=>∃(k:Nat) (A:Option Addr) (cc:Nat),v=.int .i64 (k:Int)∧s=.slice A k cc∧k≤M∧Hid (∀y∈ids.take k,∃p,plc l y=some p)∧Own wr wL.heap.size 3 1 A k cc ((Aj l (ids.take k)).map Qv)∧Fr Non wL wr) (fun _ v _=>M-(intOf v).toNat)
 case atStart=>exact ⟨0,none,0,rfl,rfl,by omega,fun y hy=>absurd hy (by simp),Own.nil _ _ _ _,Fr.refl _ _⟩
 case round=>
  obtain ⟨k,A,cc,rfl,rfl,hk,bj,ar,hf⟩:=hrel;have av:Fr Non w wr:=ak.trans hf zr;have cu:=ar.row;have c4:=((X2.fr hf zq).cell 4).trans x4.out
  by_cases ba:k<M
  ·
   obtain ⟨y,hy⟩:∃y,ids[k]? =some y:=⟨_,Al2 (by rw [hM.out];exact ba)⟩;obtain ⟨b,ao,rfl,ej,k0,k1,k2⟩:=Id.at (bh.fr av zr) hy;have i1:(0:Int)≤k:=by omega
   have i2:(k:Int)<M:=by omega
   have i3:(k:Int).toNat=k:=by omega
   have B0:=(B2.fr hf zq).drew;have ai:Fr Non w wr.drew:=av.drew;have Q0:wr.drew.cell? ⟨w.heap.size+1,4,none⟩=some (.slice (some ⟨b,ao,none⟩) M PC):=c4;have a4:wr.drew.cell? ⟨b,ao+k*3,none⟩=some (.int .i64 y.b):=k0;have bb:wr.drew.cell? ⟨b,ao+k*3+1,none⟩=some (.int .i64 y.s):=k1;have a2:wr.drew.cell? ⟨b,ao+k*3+2,none⟩=some (.int .u64 (y.u:Int)):=k2;have O0:Own wr.drew wL.heap.size 3 1 A k cc ((Aj l (ids.take k)).map Qv):=ar.drew;have H0:Fr Non wL wr.drew:=hf.drew;have c8:=Lib.hid (cd.out y wr.drew ai);have bf:Hid (Aq l y<0→EE=10):=fun e=>az.out y (Am2 hy) (plcI_neg.1 e)
   have bo:Hid (∀p:Nat,Aq l y=(p:Int)→(∀z∈ids.take (k+1),∃p,plc l z=some p)∧(Aj l (ids.take (k+1))).map Qv=(Aj l (ids.take k)).map Qv++[Qv p]):=by
    intro p hp
    have dt:plc l y=some p:=by
     unfold Aq at hp
     cases hq:plc l y with
     |none=>rw [hq] at hp;dsimp only at hp;omega
     |some i=>rw [hq] at hp;dsimp only at hp;exact congrArg some (by omega)
    refine ⟨fun z hz=> ?_,by rw [Af3 hy dt,Ak6];rfl⟩;rw [Dz hy] at hz
    rcases List.mem_append.1 hz with h1|h1
    · exact bj.out z h1
    ·
     rw [Al0] at h1;exact ⟨p,by rw [h1];exact dt⟩
   clear hy k0 k1 k2 ar hf av cd az ay ag ah ab bz af b0 b5 al;generalize Aq l y=P at*;go_upto_region 20 with (fail)
   clear c4;refine wp_region_held_drew (S:=fun w'=>Blk w' w.heap.size 32 CS∧w'.cell? ⟨w.heap.size+1,4,none⟩=some (.slice (some ⟨b,ao,none⟩) M PC)∧w'.cell? ⟨b,ao+k*3,none⟩=some (.int .i64 y.b)∧w'.cell? ⟨b,ao+k*3+1,none⟩=some (.int .i64 y.s)∧w'.cell? ⟨b,ao+k*3+2,none⟩=some (.int .u64 (y.u:Int))) (by kernel_rfl) ⟨B0,Q0,a4,bb,a2⟩ (fun hHeld=> ?_);clear hHeld;refine tkH 0 ⟨B0,Q0,a4,bb,a2⟩ (h:=tkH 1 ⟨B0,Q0,a4,bb,a2⟩ (h:=tkH 2 ⟨B0,Q0,a4,bb,a2⟩ (h:=tkH 3 ⟨B0,Q0,a4,bb,a2⟩ (h:=tkH 4 ⟨B0,Q0,a4,bb,a2⟩ (h:=tkH 5 ⟨B0,Q0,a4,bb,a2⟩ (h:=?_))))));simp only [List.set];refine oG 6 (fun K hK=> ?_);go_simp;go_wp2_with (go_at_call 37;(with_reducible refine (c8.out).mono ?_);rintro _ v1 ⟨rfl,be⟩;have B1:=B0.fr be zq;have Q1:=be.cell Q0 zq;have cv:=be.cell a4 zq;have cr:=be.cell bb zq;have cp:=be.cell a2 zq;have ap:=ai.trans be zr;have O1:=O0.fr be zr;have H1:=H0.trans be zr);refine hK.out _ _ ⟨B1,Q1,cv,cr,cp⟩ (fun hZ=> ?_);clear hZ hK K;try simp only [Ad,List.set]
   refine tkH 7 ⟨B1,Q1,cv,cr,cp⟩ (h:=?_);simp only [List.set];refine oD ?_;go_simp;clear c8 B0 B1 ai Q0 Q1 a4 bb a2 cv cr cp O0 H0 be
   rcases Al8 P 0 with hP|hP
   ·
    have t:decide (P<0)=true:=decide_eq_true hP;have hd:=Lib.hid (aa.out 10 v1 (bf.out hP) (by decide) ap);clear aa ac bf bo;go_wp2_with (fail)
    first|exact hd.out|(go_ret2;exact hd.out)
   ·
    obtain ⟨p,rfl⟩:∃p:Nat,P=(p:Int):=⟨P.toNat,by omega⟩;have t:decide ((p:Int)<0)=false:=decide_eq_false (by omega);obtain ⟨aq,d8⟩:=bo.out p rfl;replace aq:=Lib.hid aq;have ck:=O1.alloc (.cells #[.int .i64 (p:Int)] 3);have d6:=H1.alloc (.cells #[.int .i64 (p:Int)] 3);have ea:=Blk.new v1 3 #[.int .i64 (p:Int)];have er:=H1.size;clear bf bo aa ac;go_wp2_with (at_builtin;go_loud (refine Ay (base:=wL.heap.size) (.tmp 72) (.tmp 74) 22 rfl rfl rfl rfl Jr ck (Rd.blk (n:=1) (size:=1) ea rfl) (by simp [Value.oneCell']) (by omega) (by omega) (by rw [Ak8];omega) ?_);intro A2 eb w4 cy du ef);have dz:Fr Non wL w4:=d6.trans du (fun j hj e=>by have h5:=(cu j e).1;omega);go_roundw
    case rel=>exact ⟨k+1,A2,eb,by go_num,rfl,by omega,aq,by rw [d8];exact cy,dz⟩
    case measure=>simp [intOf];omega
  ·
   obtain rfl:k=M:=by omega
   have aq:∀y∈ids,∃p,plc l y=some p:=by
    have h1:=bj.out;rwa [Al9 (by rw [hM.out];omega)] at h1
   have a0:Own wr wL.heap.size 3 1 A k cc ((Aj l ids).map Qv):=by
    have h1:=ar;rwa [Al9 (by rw [hM.out];omega)] at h1
   have dc:=ay.out aq;replace ag:=ag.out aq;replace ah:=ah.out aq;replace ab:=ab.out s3 aq;rw [← dc] at ag ah ab
   have bd:∀(a p:Nat),(Aj l ids)[a]? =some p→p<N:=fun a p ha=>by
    rw [← hN.out];exact Lm aq p (Am2 ha)
   have a5:=Lib.hid (fun w' (hf':Fr Non w w') ho=>b5.out A k cc w' wL.heap.size hf' aq rfl ho);replace ag:=Lib.hid ag;replace ah:=Lib.hid ah;replace ab:=Lib.hid ab;replace bd:=Lib.hid bd;clear az ay bj ar aq dc cd b5;generalize Aj l ids=US at*;have B3:=B2.fr hf zq;have X3:=X2.fr hf zq;clear B2 X2;go_wp2_with (fail);clear c4;have en:=av.size
   have hU:Hid (∀(a p:Nat),US[a]? =some p→a<k∧∃bU ax,A=some ⟨bU,ax,none⟩∧wr.cell? ⟨bU,ax+a,none⟩=some (.int .i64 (p:Int))):=by
    intro a p ha
    have ba:a<k:=by
     have:=(List.getElem?_eq_some_iff.1 ha).1;rw [a3.out] at this;exact this
    obtain ⟨bU,ax,u,h1,_,h2,h3⟩:=a0.rd.at ba;rw [List.getElem?_map,ha] at h2;injection h2 with h2
    subst h2;exact ⟨ba,bU,ax,h1,h3⟩
   have ce:Hid (∀wz,Fr Non wr wz→wz.cell? ⟨w.heap.size,1,none⟩=some (.slice LA N LC)∧wz.cell? ⟨w.heap.size,4,none⟩=some (.slice NA N NC)∧wz.cell? ⟨w.heap.size+1,3,none⟩=some (.int .i64 xat)):=fun wz hz=>
    ⟨((B3.fr hz zq).cell 1).trans g1.out,((B3.fr hz zq).cell 4).trans g4.out,((X3.fr hz zq).cell 3).trans x3.out⟩
   obtain ⟨wM,d9⟩:∃wM:World,wM=wr:=⟨_,rfl⟩;subst d9
   go_loopw [13] (fun v wr=>∃i:Nat,v=.int .i64 (i:Int)∧i≤k∧Hid (∀(a b p q:Nat) (m:Pn),a<i→US[a]? =some p→US[b]? =some q→l[p]? =some m→m.ps q=false)∧Hid (∀(a p:Nat) (m:Pn),a<i→US[a]? =some p→l[p]? =some m→m.o.at_≤xat)∧Fr Non wM wr) (fun v _=>k-(intOf v).toNat)
   case atStart=>exact ⟨0,rfl,by omega,fun a b p q m h=>absurd h (Am0 _),fun a p m h=>absurd h (Am0 _),Fr.refl _ _⟩
   case round=>
    obtain ⟨i,rfl,ei,ca,a8,bu⟩:=hrel
    by_cases hi:i<k
    ·
     have i1:(0:Int)≤i:=by omega
     have i2:(i:Int)<k:=by omega
     have i3:(i:Int).toNat=i:=by omega
     obtain ⟨pi,bk⟩:∃p,US[i]? =some p:=⟨_,Al2 (by rw [a3.out];exact hi)⟩;have ds:=bd.out i pi bk;obtain ⟨_,bU,ax,rfl,dq⟩:=hU.out i pi bk;obtain ⟨m,A2,c2,b2,d2,hm,rfl,cm,au⟩:=bz.out pi ds;obtain ⟨m',bL,ee,cj,rfl,cn⟩:=af.out pi ds;rw [hm] at cj;injection cj with cj
     subst cj;have p1:(0:Int)≤pi:=by omega
     have p2:(pi:Int)<N:=by omega
     have p3:(pi:Int).toNat=pi:=by omega
     have bi:Hid (∀(b q:Nat),US[b]? =some q→m.ps q=true→EE=6):=fun b q hb hq=>ag.out i b pi q m bk hb hm hq;have a6:Hid (xat<m.o.at_→EE=6):=fun e=>ah.out i pi m bk hm e
     have bm:Hid ((∀(b q:Nat),US[b]? =some q→m.ps q=false)→∀(a b p q:Nat) (m:Pn),a<i+1→US[a]? =some p→US[b]? =some q→l[p]? =some m→m.ps q=false):=by
      intro hh a b p q m2 ha h1 h2 h3
      rcases Am1 a i with h4|h4
      · exact ca.out a b p q m2 h4 h1 h2 h3
      ·
       have e:a=i:=by omega
       subst e;rw [bk] at h1;injection h1 with h1
       subst h1;rw [hm] at h3;injection h3 with h3
       subst h3;exact hh b q h2
     have a7:Hid (m.o.at_≤xat→∀(a p:Nat) (m:Pn),a<i+1→US[a]? =some p→l[p]? =some m→m.o.at_≤xat):=by
      intro hh a p m2 ha h1 h3
      rcases Am1 a i with h4|h4
      · exact a8.out a p m2 h4 h1 h3
      ·
       have e:a=i:=by omega
       subst e;rw [bk] at h1;injection h1 with h1
       subst h1;rw [hm] at h3;injection h3 with h3
       subst h3;exact hh
     obtain ⟨wo,dv⟩:∃wo:World,wo=wr:=⟨_,rfl⟩;subst dv;clear ca a8 hm bk bz af ag ah;go_wp2_with (fail)
     go_loopw [14] (fun v wr=>∃j:Nat,v=.int .i64 (j:Int)∧j≤k∧Hid (∀(b q:Nat),b<j→US[b]? =some q→m.ps q=false)∧Fr Non wo wr) (fun v _=>k-(intOf v).toNat)
     case atStart=>exact ⟨0,rfl,by omega,fun b q h=>absurd h (Am0 _),Fr.refl _ _⟩
     case round=>
      obtain ⟨j,rfl,em,bf,dn⟩:=hrel;have a9:Fr Non wM wr:=bu.trans dn zr;obtain ⟨d1,d4,d3⟩:=ce.out wr a9;have el:=a9.cell dq zq
      by_cases hj:j<k
      ·
       have j1:(0:Int)≤j:=by omega
       have j2:(j:Int)<k:=by omega
       have j3:(j:Int).toNat=j:=by omega
       obtain ⟨qj,b6⟩:∃p,US[j]? =some p:=⟨_,Al2 (by rw [a3.out];exact hj)⟩;have ed:=bd.out j qj b6;obtain ⟨_,et,dd,eU,dk⟩:=hU.out j qj b6;injection eU with eU
       injection eU with e1 e2
       subst e1 e2;obtain ⟨b3,dy,rfl,dl⟩:=au qj ed;have q1:(0:Int)≤qj:=by omega
       have q2:(qj:Int)<N:=by omega
       have q3:(qj:Int).toNat=qj:=by omega
       have eh:=a9.cell dk zq;have eo:=(av.trans a9 zr).cell cm zq;have d5:=(av.trans a9 zr).cell dl zq;have bp:=Lib.hid (bi.out j qj b6)
       have br:Hid (m.ps qj=false→∀(b q:Nat),b<j+1→US[b]? =some q→m.ps q=false):=by
        intro hh b q hb h1
        rcases Am1 b j with h4|h4
        · exact bf.out b q h4 h1
        ·
         have e:b=j:=by omega
         subst e;rw [b6] at h1;injection h1 with h1
         subst h1;exact hh
       clear bf b6 bi a6 bm a7 cm dl dk dq cn au ab a5 al hU ce d1 d3;generalize m.ps qj=mq at*
       cases mq
       case true=>
        have hd:=Lib.hid (fun wz hz=>aa.out 6 wz (bp.out rfl) (by decide) hz);have a1:Fr Non w wr:=av.trans a9 zr;clear aa ac bp br;go_wp2_with (fail)
        go_quiet (fail)
        go_wp2_with (fail)
        first|exact hd.out _ (a1.drewN _)|(go_ret2;exact hd.out _ (a1.drewN _))
       case false=>
        have c0:=Lib.hid (br.out rfl);clear aa ac bp br;go_wp2_with (fail)
        go_quiet (fail)
        go_wp2_with (fail);go_roundw
        case rel=>exact ⟨j+1,by go_num,by omega,c0,dn.drewN _⟩
        case measure=>simp [intOf];omega
      ·
       obtain rfl:j=k:=by omega
       have cw:=Lib.hid (bm.out (fun b q hb=>bf.out b q (hU.out b q hb).1 hb));have d7:=(av.trans a9 zr).cell cn zq;have a1:Fr Non w wr:=av.trans a9 zr;clear bm bf bi cm cn au ab a5 al hU ce d4;generalize m.o.at_=ma at*
       rcases Al8 xat ma with hla|hla
       ·
        have t:decide (xat<ma)=true:=decide_eq_true hla;have hd:=Lib.hid (fun wz hz=>aa.out 6 wz (a6.out hla) (by decide) hz);clear aa ac a6 a7;go_wp2_with (fail)
        go_quiet (fail)
        go_wp2_with (fail)
        first|exact hd.out _ (a1.drewN _)|(go_ret2;exact hd.out _ (a1.drewN _))
       ·
        have t:decide (xat<ma)=false:=decide_eq_false (by omega);have bw:=Lib.hid (a7.out hla);clear aa ac a6 a7;go_wp2_with (fail)
        go_quiet (fail)
        go_wp2_with (fail);go_roundw
        case rel=>exact ⟨i+1,by go_num,by omega,cw,bw,a9.drewN _⟩
        case measure=>simp [intOf];omega
    ·
     obtain rfl:i=k:=by omega
     have ci:Hid (EE=if SB=true then 11 else 0):=ab.out (fun a b p q m h1 h2 h3=>ca.out a b p q m (hU.out a p h1).1 h1 h2 h3) (fun a p m h1 h3=>a8.out a p m (hU.out a p h1).1 h1 h3);have B0:=(B3.fr bu zq).drew;have X0:=(X3.fr bu zq).drew;have ai:Fr Non w wr.drew:=(av.trans bu zr).drew;have O0:Own wr.drew wL.heap.size 3 1 A i cc (US.map Qv):=(a0.fr bu zr).drew;clear ca a8 ag ah ab hU ce bz af B3 X3 a0 bu av hf;go_upto_region 34 with (fail)
     refine wp_region_held_drew (S:=fun w'=>Blk w' w.heap.size 32 CS∧Blk w' (w.heap.size+1) 44 XS) (by kernel_rfl) ⟨B0,X0⟩ (fun hHeld=> ?_);clear hHeld;refine tkH 0 ⟨B0,X0⟩ (h:=tkH 1 ⟨B0,X0⟩ (h:=tkH 2 ⟨B0,X0⟩ (h:=tkH 3 ⟨B0,X0⟩ (h:=?_))));simp only [List.set];refine oG 4 (fun K hK=> ?_);go_simp;go_wp2_with (go_at_call 67;(with_reducible refine (a5.out _ ai O0).mono ?_);rintro _ v1 ⟨A1,c1,rfl,dm,cb⟩;have B1:=B0.fr cb zq;have X1:=X0.fr cb zq;have ap:=ai.trans cb zr;have O1:=O0.fr cb zr);refine hK.out _ _ ⟨B1,X1⟩ (fun hZ=> ?_);clear hZ hK K;try simp only [Ad,List.set]
     refine oG 5 (fun K hK=> ?_);go_simp;go_wp2_with (go_at_call 66;(with_reducible refine (al.out _ ap _ _ s1 (by omega) dm.rd).mono ?_);rintro _ v2 ⟨rfl,cg⟩;have B2:=B1.fr cg zq;have X2:=X1.fr cg zq;have ak:=ap.trans cg zr;have O2:=O1.fr cg zr);refine hK.out _ _ ⟨B2,X2⟩ (fun hZ=> ?_);clear hZ hK K;try simp only [Ad,List.set]
     refine tkH 6 ⟨B2,X2⟩ (h:=?_);simp only [List.set];refine oD ?_;go_simp;clear a5 al B0 B1 B2 X0 X1 X2 ai ap O0 O1 dm;have ep:=db
     cases SB
     case true=>
      have hd:=Lib.hid (aa.out 11 v2 (by rw [ci.out];rfl) (by decide) ak);clear aa ac ci;go_wp2_with (fail)
      first|exact hd.out|(go_ret2;exact hd.out)
     case false=>
      have hd:=Lib.hid (ac.out A i cc v2 (by rw [ci.out];rfl) rfl (O2.lower db) ak);clear aa ac ci;go_wp2_with (fail)
      first|exact hd.out|(go_ret2;exact hd.out)
end Oq
end
section
open Go.RowKit
namespace Oq
theorem Hd:SlT Tryz.prog 27 44 (.agg zO) 27 328:=⟨Tryz.underlying27,by kernel_rfl,rfl,by decide⟩
theorem slIi:SlT Tryz.prog 29 22 (.slice none 0 0) 1 24:=⟨Tryz.underlying29,by kernel_rfl,rfl,by decide⟩
theorem slBb:SlT Tryz.prog 30 112 (.slice none 0 0) 1 24:=⟨Tryz.underlying30,by kernel_rfl,rfl,by decide⟩
structure KA (w wv:World) (nb:Nat) (GS XS ZS cs:Array Value):Prop where
 bg:Blk wv w.heap.size 32 GS
 bx:Blk wv (w.heap.size+1) 44 XS
 br:Blk wv (w.heap.size+2) 32 ZS
 bn:Blk wv nb 32 cs
 nb:w.heap.size+3≤nb
 fr:Fr Non w wv
theorem KA.over {S:Nat→Prop} {w wv w':World} {nb:Nat} {GS XS ZS cs:Array Value} (h:KA w wv nb GS XS ZS cs) (hf:Fr S wv w') (hS:∀k,S k→w.heap.size+3≤k) (hn:¬S nb):KA w w' nb GS XS ZS cs where
 bg:=h.bg.fr hf (fun e=>by have:=hS _ e;omega)
 bx:=h.bx.fr hf (fun e=>by have:=hS _ e;omega)
 br:=h.br.fr hf (fun e=>by have:=hS _ e;omega)
 bn:=h.bn.fr hf hn
 nb:=h.nb
 fr:=h.fr.trans hf (fun k hk e=>by have:=hS _ e;omega)
theorem KA.non {w wv w':World} {nb:Nat} {GS XS ZS cs:Array Value} (h:KA w wv nb GS XS ZS cs) (hf:Fr Non wv w'):KA w w' nb GS XS ZS cs:=h.over hf (fun _ e=>e.elim) zq
theorem KA.set {w wv:World} {nb:Nat} {GS XS ZS cs:Array Value} (h:KA w wv nb GS XS ZS cs) (i:Nat) (v:Value):KA w (wv.setCell ⟨nb,i,none⟩ v) nb GS XS ZS (cs.setIfInBounds i v) where
 bg:=h.bg.far (p:=⟨_,_,_⟩) (by have:=h.nb;show _≠nb;omega) _
 bx:=h.bx.far (p:=⟨_,_,_⟩) (by have:=h.nb;show _≠nb;omega) _
 br:=h.br.far (p:=⟨_,_,_⟩) (by have:=h.nb;show _≠nb;omega) _
 bn:=h.bn.set i v
 nb:=h.nb
 fr:=h.fr.setNew (by have:=h.nb;omega) i v
theorem Own.ne2 {w:World} {b b' size size' n n' c c':Nat} {t t':TypeId} {A A':Option Addr} {xs xs':List Value} (h:Own w b t size A n c xs) (h':Own w b' t' size' A' n' c' xs') (hne:t≠t'):∀k,Ab A=some k→Ab A'≠some k:=by
 intro k hk hk'
 rcases h.2 with ⟨hv,_⟩|⟨g,cap,cur,hv,_,hg,_⟩
 ·
  injection hv with hA
  subst hA
  cases hk
 ·
  injection hv with hA
  subst hA;injection hk with hk
  have hk2:g=k:=hk;subst hk2;exact Own.ne h' (g:=g) (t:=t) (cs:=cur) hg (fun e=>hne e.symm) hk'
theorem Own.setFar {w:World} {b size n c nb i:Nat} {t:TypeId} {A:Option Addr} {xs:List Value} {cs:Array Value} {t':TypeId} (h:Own w b t size A n c xs) (hb:Blk w nb t' cs) (hne:t≠t') (v:Value):Own (w.setCell ⟨nb,i,none⟩ v) b t size A n c xs:=
 h.setOne (h.ne hb hne)
theorem Own.grow2 {w w':World} {b b' size size' n n' c c':Nat} {t t':TypeId} {A A':Option Addr} {xs xs':List Value} (h:Own w b t size A n c xs) (h':Own w b' t' size' A' n' c' xs') (hne:t≠t') (hf:Fr (fun k=>Ab A'=some k) w w'):Own w' b t size A n c xs:=
 h.fr hf (fun k hk e=>Own.ne2 h h' hne k hk e)
theorem Gc {w w':World} (h:Fr (fun k=>Ab none=some k) w w'):Fr Non w w':=h.mono (fun _ _ e=>by cases e)
theorem Af5 (l:List Pn) (o:Op):(Au l o).id=o.name:=rfl
theorem Af6 (l:List Pn) (o:Op):(Au l o).o=o:=rfl
theorem Cx (b s:Int) (u:Nat) (hb:I64 b) (hs:I64 s) (hu:U64 u):(Id.mk b s u).ok:=⟨hb,hs,hu⟩
theorem Af7 (r:RG) (o:Op):(r.l++[Au r.l o]).map Pn.id=r.ids++[o.name]:=by
 unfold RG.ids;rw [Ak6];rfl
def RG.more (r:RG) (x:OpL) (lA:Option Addr) (lC:Nat) (iA:Option Addr) (iC:Nat) (uA:Option Addr) (uC:Nat) (nA:Option Addr) (nC:Nat) (u:UpL) (ns:List InL):RG:=
 {cA:=r.cA,cC:=r.cC,cards:=r.cards,lA:=lA,lC:=lC,xs:=r.xs++[x],iA:=iA,iC:=iC,uA:=uA,uC:=uC,us:=r.us++[u],nA:=nA,nC:=nC,ns:=ns,l:=r.l++[Au r.l x.op]}
theorem Af8 {w wz:World} {base:Nat} {r:RG} {x:OpL} {lA iA uA nA:Option Addr} {lC iC uC nC:Nat} {u:UpL} {ns:List InL} (h:r.own w base) (hx:x.own w base) (hok:x.op.ok) (hf:Fr Non w wz) (hb:base≤w.heap.size+3) (he:Ai r.cards r.l x.op=0)
  (oL:Own wz (w.heap.size+3) 44 27 lA (r.l.length+1) lC (r.xs.flatMap (fun x=>x.cells.toList)++x.cells.toList))
  (oI:Own wz (w.heap.size+3) 38 3 iA (r.l.length+1) iC (r.ids.flatMap Id.cells++x.op.name.cells))
  (oU:Own wz (w.heap.size+3) 22 1 uA (r.l.length+1) uC (r.us.map UpL.cell++[u.cell])) (ou:u.own wz base) (hu:u.xs=Aj r.l x.op.past)
  (oN:Own wz (w.heap.size+3) 112 1 nA (r.l.length+1) nC (ns.map InL.cell)) (on:∀y∈ns,y.own wz base) (hn:ns.map InL.bs=(Da r.l).map (· ++[false])++[Bn r.l.length (Ag r.l x.op.past)++[false]]):
  (r.more x lA lC iA iC uA uC nA nC u ns).own wz base:=by
 have T:=G9 he;have hlen:(r.l++[Au r.l x.op]).length=r.l.length+1:=by rw [Al4];rfl
 refine ⟨h.cards.non hf,?_,?_,?_,?_,?_,?_,?_,?_,?_,?_,?_,Rows.snoc r.l x.op h.rows he,h.cfew,h.cok⟩
 ·
  show RowAt wz base 44 27 lA (r.l++[Au r.l x.op]).length lC ((r.xs++[x]).flatMap (fun x=>x.cells.toList));rw [hlen,Am3,Am4,Am5,List.append_nil];exact (RowAt.of_own oL).lower hb
 ·
  intro y hy
  rcases List.mem_append.1 hy with h1|h1
  · exact (h.each y h1).non hf
  ·
   rw [Al0] at h1;rw [h1];exact hx.non hf
 ·
  show (r.xs++[x]).map OpL.op=(r.l++[Au r.l x.op]).map Pn.o;rw [Ak6,Ak6,h.same];rfl
 ·
  intro n hn'
  rcases List.mem_append.1 hn' with h1|h1
  · exact h.ok n h1
  ·
   rw [Al0] at h1;rw [h1,Af6,Af5];exact ⟨hok,Ea hok⟩
 ·
  show RowAt wz base 38 3 iA (r.l++[Au r.l x.op]).length iC (((r.l++[Au r.l x.op]).map Pn.id).flatMap Id.cells);rw [hlen,Af7,Am3,Am4,Am5,List.append_nil];exact (RowAt.of_own oI).lower hb
 ·
  show RowAt wz base 22 1 uA (r.l++[Au r.l x.op]).length uC ((r.us++[u]).map UpL.cell);rw [hlen,Ak6];exact (RowAt.of_own oU).lower hb
 ·
  intro y hy
  rcases List.mem_append.1 hy with h1|h1
  · exact RowAt.non (h.eachU y h1) hf
  ·
   rw [Al0] at h1;rw [h1];exact ou
 ·
  show (r.us++[u]).map UpL.xs=Fi (r.l++[Au r.l x.op]);rw [Aa0 h.rows T,Ak6,h.sameU,← hu];rfl
 ·
  show RowAt wz base 112 1 nA (r.l++[Au r.l x.op]).length nC (ns.map InL.cell);rw [hlen];exact (RowAt.of_own oN).lower hb
 · exact on
 ·
  show ns.map InL.bs=Da (r.l++[Au r.l x.op]);rw [Aa1 h.rows T,hn]
structure KR (b:Nat) (wv:World) (lA:Option Addr) (nL lC:Nat) (LX:List Value) (iA:Option Addr) (nI iC:Nat) (IX:List Value) (uA:Option Addr) (nU uC:Nat) (UX:List Value) (A1:Option Addr) (M c1:Nat) (UP:List Value) (A2:Option Addr) (N c2:Nat) (BX:List Value):Prop where
 oL:Own wv b 44 27 lA nL lC LX
 oI:Own wv b 38 3 iA nI iC IX
 oU:Own wv b 22 1 uA nU uC UX
 oA:Own wv b 3 1 A1 M c1 UP
 oB:Own wv b 4 1 A2 N c2 BX
section
variable {b : Nat} {wv w' : World} {lA iA uA A1 A2 : Option Addr} {nL lC nI iC nU uC M c1 N c2 : Nat} {LX IX UX UP BX : List Value}
theorem KR.non (h:KR b wv lA nL lC LX iA nI iC IX uA nU uC UX A1 M c1 UP A2 N c2 BX) (hf:Fr Non wv w'):KR b w' lA nL lC LX iA nI iC IX uA nU uC UX A1 M c1 UP A2 N c2 BX:=
 ⟨h.oL.fr hf zr,h.oI.fr hf zr,h.oU.fr hf zr,h.oA.fr hf zr,h.oB.fr hf zr⟩
theorem KR.setFar {nb i:Nat} {cs:Array Value} (h:KR b wv lA nL lC LX iA nI iC IX uA nU uC UX A1 M c1 UP A2 N c2 BX) (hb:Blk wv nb 32 cs) (v:Value):KR b (wv.setCell ⟨nb,i,none⟩ v) lA nL lC LX iA nI iC IX uA nU uC UX A1 M c1 UP A2 N c2 BX:=
 ⟨Own.setFar h.oL hb (by decide) v,Own.setFar h.oI hb (by decide) v,Own.setFar h.oU hb (by decide) v,Own.setFar h.oA hb (by decide) v,Own.setFar h.oB hb (by decide) v⟩
theorem KR.grow {b' n c:Nat} {A:Option Addr} {xs:List Value} (h:KR b wv lA nL lC LX iA nI iC IX uA nU uC UX A1 M c1 UP A2 N c2 BX) (ho:Own wv b' 112 1 A n c xs) (hf:Fr (fun k=>Ab A=some k) wv w'):KR b w' lA nL lC LX iA nI iC IX uA nU uC UX A1 M c1 UP A2 N c2 BX:=
 ⟨Own.grow2 h.oL ho (by decide) hf,Own.grow2 h.oI ho (by decide) hf,Own.grow2 h.oU ho (by decide) hf,Own.grow2 h.oA ho (by decide) hf,Own.grow2 h.oB ho (by decide) hf⟩
end
theorem InL.own.grow {w w':World} {base b' n c:Nat} {A:Option Addr} {xs:List Value} {y:InL} (h:y.own w base) (ho:Own w b' 112 1 A n c xs) (hf:Fr (fun k=>Ab A=some k) w w'):y.own w' base:=by
 refine RowAt.keepT h hf (fun k cs fr hk e=> ?_)
 rcases ho.2 with ⟨hv,_⟩|⟨g,cap,cur,hv,_,hg,_⟩
 ·
  injection hv with hA
  subst hA
  cases e
 ·
  injection hv with hA
  subst hA;injection e with e
  have e2:g=k:=e;subst e2;rw [hg] at hk;injection hk with hk
  injection hk with _ ht
  exact absurd ht (by decide)
theorem InL.own.setFar {w:World} {base nb i:Nat} {cs:Array Value} {y:InL} (h:y.own w base) (hb:Blk w nb 32 cs) (v:Value):y.own (w.setCell ⟨nb,i,none⟩ v) base:=by
 refine RowAt.keepT h ((Fr.refl (One nb) w).setOne i v) (fun k cs' fr hk e=> ?_);have e2:k=nb:=e;subst e2;have hb':w.heap[k]? =some (.cells cs 32 (0,0)):=hb;rw [hb'] at hk;injection hk with hk
 injection hk with _ ht
 exact absurd ht (by decide)
theorem Rt {w:World} {base b N c:Nat} {A:Option Addr} {bs:List Bool} (h:Own w b 4 1 A N c (bs.map Value.bool)) (hb:base≤b) (hN:bs.length=N):(InL.mk A c bs).own w base:=by
 show RowAt w base 4 1 A bs.length c (bs.map Value.bool);rw [hN];exact (RowAt.of_own h).lower hb
theorem Lv {A:Option Addr} {c N:Nat} {bs:List Bool} (hN:bs.length=N):(InL.mk A c bs).cell=.slice A N c:=by
 subst hN;rfl
theorem Ru (bs:List Bool):bs.map Value.bool++[Value.bool false]=(bs++[false]).map Value.bool:=by rw [Ak6];rfl
end Oq
end
section
open Go.RowKit
attribute [local go_sem ↓] Go.wp_at_zero Go.wp_at_succ
namespace Oq
attribute [local go_sem] Bool.not_false Bool.not_true
theorem Lw (p v:Value):Instr.storeAt 32 p v=stS 32 p v:=rfl
def bsO (t:TypeId) (len:Nat) (parts:Array (Nat × Value)):=Instr.buildSlice t len parts
theorem Af9 (n:Nat) (p:Array (Nat × Value)):Instr.buildSlice 27 n p=bsO 27 n p:=rfl
theorem Ag0 (x:OpL) (w:World):(bsO 27 1 #[(0,.agg x.cells)]).run Tryz.prog w=.ok (.slice (some ⟨w.heap.size,0,none⟩) 1 1) (w.alloc (.cells x.cells 44)):=by
 obtain ⟨ht,hinfo,_⟩:=Hd;obtain ⟨i,hi,hz,hs,_⟩:=info_parts hinfo;exact run_buildSlice w 27 44 1 _ _ i _ ht hi hz (by rw [hs];decide) (by rw [hs];decide) (by rw [hs];kernel_rfl)
attribute [local go_sem ↓] E6 Ch Lw Af9
theorem Rv {P:Program} {Q:Exit→Act→World→Prop} {l:List Oper} {md:Region.Mode} {S:World→Prop} {g fuel:Nat} {listed:Array Bool} {a:Act} {w:World} (i j:Nat) {d:Option Tmp} {op:Go.Op} {ty:TypeId} {pos:String} {after:Array Edge} {d':Option Tmp} {op':Go.Op} {ty':TypeId} {pos':String} {after':Array Edge}
  (hr:Region.ready md l.toArray listed=[i,j]) (ho:l[i]? =some ⟨d,op,ty,pos,after,none⟩) (ho':l[j]? =some ⟨d',op',ty',pos',after',none⟩)
  (h:∀K':Act→World→Prop,Shut (∀a w,S w→(S w→Ct P md l.toArray Q S g fuel (listed.setIfInBounds i true) a w)→K' a w)→Oper.wp P ⟨d,op,ty,pos,after,none⟩ a w K' Q)
  (h':∀K':Act→World→Prop,Shut (∀a w,S w→(S w→Ct P md l.toArray Q S g fuel (listed.setIfInBounds j true) a w)→K' a w)→Oper.wp P ⟨d',op',ty',pos',after',none⟩ a w K' Q):
  Ct P md l.toArray Q S g (fuel+1) listed a w:=by
 refine ⟨fun h0=>(by rw [hr] at h0;cases h0),fun k hk=> ?_⟩;rw [hr] at hk
 rcases List.mem_cons.1 hk with rfl|hk
 ·
  refine wpOp_step (o:=⟨d,op,ty,pos,after,none⟩) (by rw [Am6];exact ho) (fun K' hK=> ?_);rw [if_pos (show Region.wanted _ _=true from rfl)];exact h K' (fun a w hS hW=>hK a w ⟨fun _=>hS,hW hS⟩)
 ·
  obtain rfl:=List.mem_singleton.1 hk;refine wpOp_step (o:=⟨d',op',ty',pos',after',none⟩) (by rw [Am6];exact ho') (fun K' hK=> ?_);rw [if_pos (show Region.wanted _ _=true from rfl)];exact h' K' (fun a w hS hW=>hK a w ⟨fun _=>hS,hW hS⟩)
def E8 (base:Nat) (r:RG) (o:Op) (w:World) (e:Ending) (w':World):Prop:=
 ∃r':RG,e=.returned (.tuple #[.agg r'.cells,.int .i64 (Ai r.cards r.l o)])∧Fr Non w w'∧r'.own w' base∧r'.cards=r.cards∧r'.l=(if Ai r.cards r.l o=0 then r.l++[Au r.l o] else r.l)
theorem Ee (r:RG):r.cells.all (·.oneCell')=true:=by unfold RG.cells;simp [Value.oneCell']
theorem Rw (x:OpL):∀u∈x.cells.toList,u.oneCell'=true:=by
 intro u hu;have h:=Cb x;rw [Array.all_eq_true'] at h;exact h u (Array.mem_toList_iff.1 hu)
theorem Ag1 (l:List OpL):∀u∈l.flatMap (fun x=>x.cells.toList),u.oneCell'=true:=by
 intro u hu;obtain ⟨x,_,hx⟩:=List.mem_flatMap.1 hu;exact Rw x u hx
theorem Rx {α:Type} (f:α→Value) (hf:∀x,(f x).oneCell'=true) (l:List α):∀u∈l.map f,u.oneCell'=true:=by
 intro u hu;obtain ⟨x,_,rfl⟩:=List.mem_map.1 hu;exact hf x
theorem Ag2 (base:Nat) (r:RG) (x:OpL) (w:World) (h:r.own w base) (hx:x.own w base) (hb:base≤w.heap.size) (hok:x.op.ok):
  Calls Tryz.prog 33 #[.agg r.cells,.agg x.cells] w (E8 base r x.op w):=by
 have cn:=hx.at;have db:=h.few;have hG:(Tryz.prog.info? 32).map (·.size)=some r.cells.size:=Dl;have dh:(Tryz.prog.info? 44).map (·.size)=some x.cells.size:=by rw [show x.cells.size=27 from rfl];kernel_rfl
 have hl:=Az (P:=Tryz.prog) w.heap.size 32 Tryz.underlying32 rfl (cs:=r.cells) Dl;have e4:=Az (P:=Tryz.prog) (w.heap.size+1) 44 Tryz.underlying44 rfl dh;have bg:=((Blk.new w 32 r.cells).alloc (.cells x.cells 44)).alloc (.cells zG 32);have bx:=(Blk.new (w.alloc (.cells r.cells 32)) 44 x.cells).alloc (.cells zG 32);have br:=Blk.new ((w.alloc (.cells r.cells 32)).alloc (.cells x.cells 44)) 32 zG;rw [Ak8] at bx;rw [Ak8,Ak8] at br;have f0:Fr Non w (((w.alloc (.cells r.cells 32)).alloc (.cells x.cells 44)).alloc (.cells zG 32)):=(((Fr.refl Non w).alloc _).alloc _).alloc _
 have cu:w.heap.size+3≤(((w.alloc (.cells r.cells 32)).alloc (.cells x.cells 44)).alloc (.cells zG 32)).heap.size:=by
  rw [Ak8,Ak8,Ak8];exact Al1 _
 have kw:=Lib.hid (fun (w':World) (hf:Fr Non w w')=>Af4 base r x w' (h.non hf) (OpL.frame cn hf) hok)
 have df:Hid (Ai r.cards r.l x.op≠0→∀w',Fr Non w w'→E8 base r x.op w (.returned (.tuple #[.agg r.cells,.int .i64 (Ai r.cards r.l x.op)])) w'):=by
  intro he w' hf;exact ⟨r,rfl,hf,h.non hf,rfl,by rw [if_neg he]⟩
 have bv:=Ee r;have co:=Ag0 x;have bb:x.cells.size=1*27:=rfl;go_enter Tryz.func33,Tryz.ntmps33;go_upto_region 1 with (fail)
 generalize ((w.alloc (.cells r.cells 32)).alloc (.cells x.cells 44)).alloc (.cells zG 32)=w0 at*;unfold Hc at kw;go_upto_region 2 with (go_at_call 16;(with_reducible refine (kw.out _ f0).mono ?_);rintro _ w1 ⟨A1,n1,c1,rfl,c9,f1⟩)
 replace bg:=bg.fr f1 zq;replace bx:=bx.fr f1 zq;replace br:=br.fr f1 zq;have cm:=f0.trans f1 zr;have cw:=Ak7 cu f1.size;clear kw
 by_cases he:Ai r.cards r.l x.op=0
 case neg=>
  have hd:=Lib.hid (df.out he);obtain ⟨E,hE⟩:=Aa (Ai r.cards r.l x.op);rw [hE.out] at hd he ⊢;have t:(E !=0)=true:=by simp [he]
  have ev:=Cf (P:=Tryz.prog) (w.heap.size+2) 32 hG (old:=zG) rfl bv;generalize E8 base r x.op w=POST at*;clear c9 h hx cn df hok
  as_aux_lemma=>
  go_wp2_with (fail);have c7:=br.setRow (cs:=r.cells);have fz:=cm.setRow (g:=w.heap.size+2) (fun hh=>absurd hh (by omega)) r.cells;have dk:=Lib.hid (hd.out _ fz)
  (try simp only [Exit.inBlock,Exit.then])
  refine Ez (t:=32) rfl rfl c7 rfl Tryz.underlying32 hG rfl ?_;exact dk.out
 case pos=>
 obtain ⟨rfl,au⟩:=c9 he;replace au:=au.lower cu;rw [he];have al:=(G9 he).past;have kp:=Lib.hid (fun (w':World) (hf:Fr Non w w') (ho:Own w' (w.heap.size+3) 3 1 A1 x.op.past.length c1 ((Aj r.l x.op.past).map Qv))=>(Rp base r w'.heap.size x.op.past.length c1 A1 (Aj r.l x.op.past) w' (h.non hf) (by show _=_;rw [Ha]) ho.rd (by have:=hok.past.1;omega)));rw [Ra h.rows al] at kp;have cg:=Lib.hid (fun (w':World) (hf:Fr Non w w')=>Rr x x.op.name rfl w' (OpL.frame cn hf) hok)
 have ad:Hid (∀(lA iA uA nA:Option Addr) (lC iC uC nC:Nat) (ns:List InL) (wz:World),Fr Non w wz→
   Own wz (w.heap.size+3) 44 27 lA (r.l.length+1) lC (r.xs.flatMap (fun x=>x.cells.toList)++x.cells.toList)→
   Own wz (w.heap.size+3) 38 3 iA (r.l.length+1) iC (r.ids.flatMap Id.cells++x.op.name.cells)→
   Own wz (w.heap.size+3) 22 1 uA (r.l.length+1) uC (r.us.map UpL.cell++[.slice A1 x.op.past.length c1])→
   Own wz (w.heap.size+3) 3 1 A1 x.op.past.length c1 ((Aj r.l x.op.past).map Qv)→
   Own wz (w.heap.size+3) 112 1 nA (r.l.length+1) nC (ns.map InL.cell)→(∀y∈ns,y.own wz base)→ns.map InL.bs=(Da r.l).map (· ++[false])++[Bn r.l.length (Ag r.l x.op.past)++[false]]→
   E8 base r x.op w (.returned (.tuple #[.agg #[.slice r.cA r.cards.length r.cC,.slice lA (r.l.length+1) lC,.slice iA (r.l.length+1) iC,.slice uA (r.l.length+1) uC,.slice nA (r.l.length+1) nC],.int .i64 0])) wz):=by
  intro lA iA uA nA lC iC uC nC ns wz hf oL oI oU oa oN on hn;have dl:(Aj r.l x.op.past).length=x.op.past.length:=Ha _ _
  have aj:(UpL.mk A1 c1 (Aj r.l x.op.past)).cell=.slice A1 x.op.past.length c1:=by
   show Value.slice A1 (Aj r.l x.op.past).length c1=_;rw [dl]
  have cv:(r.l++[Au r.l x.op]).length=r.l.length+1:=by rw [Al4];rfl
  have hm:=Af8 (u:=⟨A1,c1,Aj r.l x.op.past⟩) h hx hok hf (by omega) he oL oI (by rw [aj];exact oU) (by
   show RowAt wz base 3 1 A1 (Aj r.l x.op.past).length c1 ((Aj r.l x.op.past).map Qv);rw [dl];exact (RowAt.of_own oa).lower (by omega)) rfl oN on hn
  refine ⟨_,?_,hf,hm,rfl,by rw [if_pos he];rfl⟩;rw [he];show Ending.returned (.tuple #[.agg #[.slice r.cA r.cards.length r.cC,.slice lA (r.l.length+1) lC,.slice iA (r.l.length+1) iC,.slice uA (r.l.length+1) uC,.slice nA (r.l.length+1) nC],.int .i64 0])=Ending.returned (.tuple #[.agg #[.slice r.cA r.cards.length r.cC,.slice lA (r.l++[Au r.l x.op]).length lC,.slice iA (r.l++[Au r.l x.op]).length iC,.slice uA (r.l++[Au r.l x.op]).length uC,.slice nA (r.l++[Au r.l x.op]).length nC],.int .i64 0]);rw [cv]
 have bw:=Lib.hid h.ops.sl.rd;have ba:=Lib.hid h.rdIds;have a5:=Lib.hid h.ups.sl.rd;have a4:Hid (∀(i:Nat) (n:Pn),r.l[i]? =some n→∃(x:InL) (b de:Nat),x.bs=Bn r.l.length n.ps∧x.own w base∧r.nA=some ⟨b,de,none⟩∧b<w.heap.size∧w.cell? ⟨b,de+i,none⟩=some x.cell):=fun i n hi=>h.nAt hi;have g0:Hid (r.cells[0]? =some (.slice r.cA r.cards.length r.cC)):=rfl;have g1:Hid (r.cells[1]? =some (.slice r.lA r.l.length r.lC)):=rfl;have g2:Hid (r.cells[2]? =some (.slice r.iA r.l.length r.iC)):=rfl;have g3:Hid (r.cells[3]? =some (.slice r.uA r.l.length r.uC)):=rfl;have g4:Hid (r.cells[4]? =some (.slice r.nA r.l.length r.nC)):=rfl;have bl:=Lib.hid (Ag1 r.xs);have ds:=Lib.hid (Rw x);have b5:=Lib.hid (Id.cells_one r.ids);have b1:=Lib.hid (Rx UpL.cell (fun _=>rfl) r.us);have ce:=Lib.hid (fun (y:InL)=>Rx Value.bool (fun _=>rfl) y.bs);have ey:Hid (x.cells.toList.length=1*27):=rfl;have bi:Hid ((Da r.l).length=r.l.length):=Z8 r.l;have a6:Hid (∀(i:Nat) (n:Pn),r.l[i]? =some n→(Da r.l)[i]? =some (Bn r.l.length n.ps)):=fun i n hi=>Q7 hi;clear df h hx cn al he hG c9 f1 f0;obtain ⟨NM,dp⟩:∃nm,x.op.name=nm:=⟨_,rfl⟩;rw [dp] at cg ad;clear dp;have e1:x.op.past.length≤1000:=hok.past.1;clear hok;generalize Aj r.l x.op.past=UP at*;generalize Ag r.l x.op.past=PS at*;generalize x.op.past.length=M at*;generalize E8 base r x.op w=POST at*;generalize hXL:x.cells.toList=XL at*;generalize r.xs.flatMap (fun x=>x.cells.toList)=LL at*;generalize x.cells=XS at*;generalize r.ids.flatMap Id.cells=IL at*;generalize r.us.map UpL.cell=UL at*;generalize Da r.l=IR at*;generalize r.cells=CS at*;generalize r.cards.length=nc at*;generalize r.cA=CA at*;generalize r.cC=CC at*;generalize r.lA=LA at*;generalize r.lC=LC at*;generalize r.iA=IA at*;generalize r.iC=IC at*;generalize r.uA=UA at*;generalize r.uC=UC at*;generalize r.nA=NA at*;generalize r.nC=NC at*;generalize r.l=l at*;obtain ⟨N,hN⟩:=Aa l.length;rw [hN.out] at kp ad bw ba a5 a4 g1 g2 g3 g4 db bi a6;unfold I6 at kp;go_upto_region 5 with (go_at_call 67;(with_reducible refine (kp.out _ cm au).mono ?_);rintro _ w2 ⟨A2,c2,rfl,ah,f2⟩)
 have bk:=au.fr f2 zr;replace ah:=ah.lower cw;have d2:=cm.trans f2 zr;have du:=Ak7 cw f2.size;replace bg:=bg.fr f2 zq;replace bx:=bx.fr f2 zq;replace br:=br.fr f2 zq;have K:KA w (w2.alloc (.cells zG 32)) w2.heap.size CS XS zG zG:=⟨bg.alloc _,bx.alloc _,br.alloc _,Blk.new w2 32 zG,du,d2.alloc _⟩;replace bk:=bk.alloc (.cells zG 32);replace ah:=ah.alloc (.cells zG 32);clear bg bx br cm d2 au kp f2;go_upto_region 6 with (fail)
 obtain ⟨nb,bj⟩:=Aa w2.heap.size;rw [bj.out] at K ⊢;generalize w2.alloc (.cells zG 32)=w3 at*;clear bj cu cw du w2 w1 w0;have d0:=(K.bg.cell 0).trans g0.out;have n0:w3.cell? ⟨nb,0,none⟩=some (.slice none 0 0):=K.bn.cell 0;have z0:=K.bn.frozen 0;go_upto_region 7 with (fail)
 have K4:=K.set 0 (.slice CA nc CC);replace bk:=Own.setFar (i:=0) bk K.bn (by decide) (.slice CA nc CC);replace ah:=Own.setFar (i:=0) ah K.bn (by decide) (.slice CA nc CC);generalize w3.setCell ⟨nb,0,none⟩ (.slice CA nc CC)=w4 at*;clear K d0 n0 z0 w3;change KA w w4 nb CS XS zG #[.slice CA nc CC,.slice none 0 0,.slice none 0 0,.slice none 0 0,.slice none 0 0] at K4;have dd:=Lib.hid ((bw.out).fr K4.fr zr);have em:=Lib.hid ((ba.out).fr K4.fr zr);have eo:=Lib.hid ((a5.out).fr K4.fr zr);have cc:w.heap.size+3≤w4.heap.size:=by have h1:=K4.bn.lt;have h2:=K4.nb;omega
 go_cut [8] from 28 to 36 (fun s wc=>s=.slice A2 N c2∧∃lA lC,KA w wc nb CS XS zG #[.slice CA nc CC,.slice lA (N+1) lC,.slice none 0 0,.slice none 0 0,.slice none 0 0]∧Own wc (w.heap.size+3) 44 27 lA (N+1) lC (LL++XL)∧Own wc (w.heap.size+3) 3 1 A1 M c1 (UP.map Qv)∧Own wc (w.heap.size+3) 4 1 A2 N c2 (Cn N PS))
 case first=>
  clear ad cg
  as_aux_lemma=>
  have ag:∀wz,Fr Non w4 wz→KA w wz nb CS XS zG #[.slice CA nc CC,.slice none 0 0,.slice none 0 0,.slice none 0 0,.slice none 0 0]:=fun wz hz=>K4.non hz;have B0:=K4.bg;have X0:=K4.bx;have G0:w4.cell? ⟨w.heap.size,1,none⟩=some (.slice LA N LC):=(K4.bg.cell 1).trans g1.out;have P0:w4.cell? ⟨nb,1,none⟩=some (.slice none 0 0):=K4.bn.cell 1;have F0:Fr Non w4 w4.drew:=(Fr.refl Non w4).drew;have bc:∀u∈XS.toList,u.oneCell'=true:=by rw [hXL];exact ds.out
  refine C3 (S:=fun w'=>Blk w' w.heap.size 32 CS∧Blk w' (w.heap.size+1) 44 XS∧w'.cell? ⟨w.heap.size,1,none⟩=some (.slice LA N LC)∧w'.cell? ⟨nb,1,none⟩=some (.slice none 0 0)) 9 (by kernel_rfl) ?_;refine tkG 0 ⟨B0,X0,G0,P0⟩ (h:=tkG 1 ⟨B0,X0,G0,P0⟩ (h:=tkG 2 ⟨B0,X0,G0,P0⟩ (h:=tkG 3 ⟨B0,X0,G0,P0⟩ (h:=tkG 5 ⟨B0,X0,G0,P0⟩ (h:=?_)))));simp only [List.set];refine Rv 4 6 (by kernel_rfl) rfl rfl (fun K hK=> ?_) (fun K hK=> ?_)
  ·
   skip
   refine Ec (base:=w.heap.size+3) (.tmp 29) (.tmp 31) 27 rfl rfl rfl Hd (Own.nil _ _ _ _) (dd.out.fr F0 zr) bl.out (by omega) (by omega) cc ?_;intro lA lC v1 oL fL aa;rw [Ak9,Al3] at oL;have F1:Fr Non w4 v1:=F0.trans (Gc fL) zr;have a9:∀k,Ab lA=some k→w4.heap.size≤k:=fun k hk=>by rcases aa with e|e;(rw [e] at hk;cases hk);(rw [e] at hk;injection hk with hk;have ef:w4.heap.size=k:=hk;omega)
   have B1:=B0.fr F1 zq;have X1:=X0.fr F1 zq;have G1:=F1.cell G0 zq;have P1:=F1.cell P0 zq;refine hK.out _ _ ⟨B1,X1,G1,P1⟩ (fun hZ=> ?_);clear hZ hK K;try simp only [Ak9]
   refine Bh 6 (by kernel_rfl) rfl (fun K hK=> ?_);go_simp;have bj:=Blk.new v1 44 XS;have cx:=oL.alloc (.cells XS 44);have F2:Fr Non w4 (v1.alloc (.cells XS 44)):=F1.alloc _;obtain ⟨ga,a1⟩:=Aa v1.heap.size;rw [a1.out] at bj ⊢;generalize v1.alloc (.cells XS 44)=v2 at*;have B2:=B0.fr F2 zq;have X2:=X0.fr F2 zq;have G2:=F2.cell G0 zq;have P2:=F2.cell P0 zq;refine hK.out _ _ ⟨B2,X2,G2,P2⟩ (fun hZ=> ?_);clear hZ hK K;try simp only [Ad,List.set]
   refine Bh 7 (by kernel_rfl) rfl (fun K hK=> ?_);refine Ec (base:=w.heap.size+3) (.tmp 32) (.tmp 34) 27 rfl rfl rfl Hd cx (Rd.blk (n:=1) (size:=27) bj bb) bc (by omega) (by omega) (Ak7 cc F2.size) ?_;intro aw av v3 cd cr ar;rw [hXL] at cd;have F3:Fr Non w4 v3:=F2.trans cr (fun k hk e=>by have h9:=a9 k e;omega);have B3:=B0.fr F3 zq;have X3:=X0.fr F3 zq;have G3:=F3.cell G0 zq;have P3:=F3.cell P0 zq;refine hK.out _ _ ⟨B3,X3,G3,P3⟩ (fun hZ=> ?_);clear hZ hK K;try simp only [Ad,List.set]
   refine tkG 8 ⟨B3,X3,G3,P3⟩ (h:=?_);simp only [List.set];have nz:=(ag v3 F3).bn.frozen 1;refine Cq (by kernel_rfl) ?_;refine oG 9 (fun K hK=> ?_);go_simp;have K5:=(ag v3 F3).set 1 (.slice aw (N+1) av);have b6:=Own.setFar (i:=1) cd (ag v3 F3).bn (by decide) (.slice aw (N+1) av);have cp:=Own.setFar (i:=1) (bk.fr F3 zr) (ag v3 F3).bn (by decide) (.slice aw (N+1) av);have c4:=Own.setFar (i:=1) (ah.fr F3 zr) (ag v3 F3).bn (by decide) (.slice aw (N+1) av);refine hK.out _ _ trivial (fun hZ=> ?_);clear hZ hK K;try simp only [Ad,List.set]
   refine oD ?_;go_simp;go_wp2_with (fail);go_meet;exact ⟨rfl,aw,av,K5,b6,cp,c4⟩
  ·
   skip
   go_simp;have af:=(Blk.new w4 44 XS).drew;have F1:Fr Non w4 (w4.alloc (.cells XS 44)).drew:=((Fr.refl Non w4).alloc _).drew;have cj:=F1.size;obtain ⟨ga,a1⟩:=Aa w4.heap.size;have d9:w4.heap.size≤w4.heap.size:=Al1 _;rw [a1.out] at af ⊢;generalize (w4.alloc (.cells XS 44)).drew=v1 at*;have B1:=B0.fr F1 zq;have X1:=X0.fr F1 zq;have G1:=F1.cell G0 zq;have P1:=F1.cell P0 zq;refine hK.out _ _ ⟨B1,X1,G1,P1⟩ (fun hZ=> ?_);clear hZ hK K;try simp only [Ad,List.set]
   refine Bh 4 (by kernel_rfl) rfl (fun K hK=> ?_);refine Ec (base:=w.heap.size+3) (.tmp 29) (.tmp 31) 27 rfl rfl rfl Hd (Own.nil _ _ _ _) (dd.out.fr F1 zr) bl.out (by omega) (by omega) (Ak7 cc cj) ?_;intro lA lC v2 oL fL aa;rw [Ak9,Al3] at oL;have F2:Fr Non w4 v2:=F1.trans (Gc fL) zr;have bj:=af.fr (Gc fL) zq;have a9:∀k,Ab lA=some k→w4.heap.size≤k:=fun k hk=>by rcases aa with e|e;(rw [e] at hk;cases hk);(rw [e] at hk;injection hk with hk;omega)
   have B2:=B0.fr F2 zq;have X2:=X0.fr F2 zq;have G2:=F2.cell G0 zq;have P2:=F2.cell P0 zq;refine hK.out _ _ ⟨B2,X2,G2,P2⟩ (fun hZ=> ?_);clear hZ hK K;try simp only [Ak9,Ad,List.set]
   refine Bh 7 (by kernel_rfl) rfl (fun K hK=> ?_);refine Ec (base:=w.heap.size+3) (.tmp 32) (.tmp 34) 27 rfl rfl rfl Hd oL (Rd.blk (n:=1) (size:=27) bj bb) bc (by omega) (by omega) (Ak7 cc F2.size) ?_;intro aw av v3 cd cr ar;rw [hXL] at cd;have F3:Fr Non w4 v3:=F2.trans cr (fun k hk e=>by have h9:=a9 k e;omega);have B3:=B0.fr F3 zq;have X3:=X0.fr F3 zq;have G3:=F3.cell G0 zq;have P3:=F3.cell P0 zq;refine hK.out _ _ ⟨B3,X3,G3,P3⟩ (fun hZ=> ?_);clear hZ hK K;try simp only [Ad,List.set]
   refine tkG 8 ⟨B3,X3,G3,P3⟩ (h:=?_);simp only [List.set];have nz:=(ag v3 F3).bn.frozen 1;refine Cq (by kernel_rfl) ?_;refine oG 9 (fun K hK=> ?_);go_simp;have K5:=(ag v3 F3).set 1 (.slice aw (N+1) av);have b6:=Own.setFar (i:=1) cd (ag v3 F3).bn (by decide) (.slice aw (N+1) av);have cp:=Own.setFar (i:=1) (bk.fr F3 zr) (ag v3 F3).bn (by decide) (.slice aw (N+1) av);have c4:=Own.setFar (i:=1) (ah.fr F3 zr) (ag v3 F3).bn (by decide) (.slice aw (N+1) av);refine hK.out _ _ trivial (fun hZ=> ?_);clear hZ hK K;try simp only [Ad,List.set]
   refine oD ?_;go_simp;go_wp2_with (fail);go_meet;exact ⟨rfl,aw,av,K5,b6,cp,c4⟩
 case rest=>
 obtain ⟨rfl,lA,lC,K5,oL,b2,cb⟩:=hcut;clear bk ah K4 dd cc em eo bl ds;obtain ⟨w5,el⟩:∃w5:World,w5=wc:=⟨_,rfl⟩;subst el;have cj:w.heap.size+3≤w5.heap.size:=by have h1:=K5.bn.lt;have h2:=K5.nb;omega
 have dr:=Lib.hid ((ba.out).fr K5.fr zr);go_upto_region 8 with (fail)
 have ag:∀wz,Fr Non w5 wz→KA w wz nb CS XS zG #[.slice CA nc CC,.slice lA (N+1) lC,.slice none 0 0,.slice none 0 0,.slice none 0 0]:=fun wz hz=>K5.non hz;have B0:=K5.bg;have X0:=K5.bx;have G0:w5.cell? ⟨w.heap.size,2,none⟩=some (.slice IA N IC):=(K5.bg.cell 2).trans g2.out;have P0:w5.cell? ⟨nb,2,none⟩=some (.slice none 0 0):=K5.bn.cell 2;have F0:Fr Non w5 w5.drew:=(Fr.refl Non w5).drew;refine C3 (S:=fun w'=>Blk w' w.heap.size 32 CS∧Blk w' (w.heap.size+1) 44 XS∧w'.cell? ⟨w.heap.size,2,none⟩=some (.slice IA N IC)∧w'.cell? ⟨nb,2,none⟩=some (.slice none 0 0)) 10 (by kernel_rfl) ?_;refine tkG 0 ⟨B0,X0,G0,P0⟩ (h:=tkG 1 ⟨B0,X0,G0,P0⟩ (h:=tkG 2 ⟨B0,X0,G0,P0⟩ (h:=tkG 3 ⟨B0,X0,G0,P0⟩ (h:=tkG 5 ⟨B0,X0,G0,P0⟩ (h:=?_)))));simp only [List.set];refine Bh 4 (by kernel_rfl) rfl (fun K hK=> ?_);refine Ec (base:=w.heap.size+3) (.tmp 38) (.tmp 40) 28 rfl rfl rfl Cz (Own.nil _ _ _ _) (dr.out.fr F0 zr) b5.out (by omega) (by omega) cj ?_;intro iA iC v1 oI fI aa;rw [Ak9,Al3] at oI;have F1:Fr Non w5 v1:=F0.trans (Gc fI) zr;have a9:∀k,Ab iA=some k→w5.heap.size≤k:=fun k hk=>by rcases aa with e|e;(rw [e] at hk;cases hk);(rw [e] at hk;injection hk with hk;have ef:w5.heap.size=k:=hk;omega)
 have B1:=B0.fr F1 zq;have X1:=X0.fr F1 zq;have G1:=F1.cell G0 zq;have P1:=F1.cell P0 zq;refine hK.out _ _ ⟨B1,X1,G1,P1⟩ (fun hZ=> ?_);clear hZ hK K;try simp only [Ak9,Ad,List.set]
 refine Bh 6 (by kernel_rfl) rfl (fun K hK=> ?_);go_simp;go_wp2_with (go_at_call 35;(with_reducible refine (cg.out _ ((ag v1 F1).fr)).mono ?_);rintro _ v2 ⟨rfl,f6⟩;have F2:=F1.trans f6 zr;have ch:=oI.fr f6 zr);have B2:=B0.fr F2 zq;have X2:=X0.fr F2 zq;have G2:=F2.cell G0 zq;have P2:=F2.cell P0 zq;refine hK.out _ _ ⟨B2,X2,G2,P2⟩ (fun hZ=> ?_);clear hZ hK K;try simp only [Ad,List.set]
 refine Bh 7 (by kernel_rfl) rfl (fun K hK=> ?_);go_simp;have af:=Blk.new v2 38 NM.V;have dz:=ch.alloc (.cells NM.V 38);have F3:Fr Non w5 (v2.alloc (.cells NM.V 38)):=F2.alloc _;obtain ⟨ga,a1⟩:=Aa v2.heap.size;rw [a1.out] at af ⊢;generalize v2.alloc (.cells NM.V 38)=v3 at*;have B3:=B0.fr F3 zq;have X3:=X0.fr F3 zq;have G3:=F3.cell G0 zq;have P3:=F3.cell P0 zq;refine hK.out _ _ ⟨B3,X3,G3,P3⟩ (fun hZ=> ?_);clear hZ hK K;try simp only [Ad,List.set]
 refine Bh 8 (by kernel_rfl) rfl (fun K hK=> ?_);refine Ec (base:=w.heap.size+3) (.tmp 41) (.tmp 44) 28 rfl rfl rfl Cz dz (Rd.blk (n:=1) (size:=3) af rfl) (by simp [Value.oneCell']) (by omega) (by omega) (Ak7 cj F3.size) ?_;intro ak ao v4 dq dt dj;have F4:Fr Non w5 v4:=F3.trans dt (fun k hk e=>by have h9:=a9 k e;omega);have B4:=B0.fr F4 zq;have X4:=X0.fr F4 zq;have G4:=F4.cell G0 zq;have P4:=F4.cell P0 zq;refine hK.out _ _ ⟨B4,X4,G4,P4⟩ (fun hZ=> ?_);clear hZ hK K;try simp only [Ad,List.set]
 refine tkG 9 ⟨B4,X4,G4,P4⟩ (h:=?_);simp only [List.set];have nz:=(ag v4 F4).bn.frozen 2;refine Cq (by kernel_rfl) ?_;refine oG 10 (fun K hK=> ?_);go_simp;have K6:=(ag v4 F4).set 2 (.slice ak (N+1) ao);have ci:=Own.setFar (i:=2) dq (ag v4 F4).bn (by decide) (.slice ak (N+1) ao);have cl:=Own.setFar (i:=2) (oL.fr F4 zr) (ag v4 F4).bn (by decide) (.slice ak (N+1) ao);have dx:=Own.setFar (i:=2) (b2.fr F4 zr) (ag v4 F4).bn (by decide) (.slice ak (N+1) ao);have d5:=Own.setFar (i:=2) (cb.fr F4 zr) (ag v4 F4).bn (by decide) (.slice ak (N+1) ao);refine hK.out _ _ trivial (fun hZ=> ?_);clear hZ hK K;try simp only [Ad,List.set]
 refine oD ?_;go_simp;generalize v4.setCell ⟨nb,2,none⟩ (.slice ak (N+1) ao)=w6 at*;change KA w w6 nb CS XS zG #[.slice CA nc CC,.slice lA (N+1) lC,.slice ak (N+1) ao,.slice none 0 0,.slice none 0 0] at K6;clear ag K5 oL b2 cb oI ch dz dq fI dt aa dj a9 F0 F1 F2 F3 F4 B0 B1 B2 B3 B4 X0 X1 X2 X3 X4 G0 G1 G2 G3 G4 P0 P1 P2 P3 P4 f6 af a1 nz dr b5 ba cg;have b0:w.heap.size+3≤w6.heap.size:=by have h1:=K6.bn.lt;have h2:=K6.nb;omega
 have d1:=Lib.hid ((a5.out).fr K6.fr zr);have n3:w6.cell? ⟨nb,3,none⟩=some (.slice none 0 0):=K6.bn.cell 3;have d3:=(K6.bg.cell 3).trans g3.out
 go_upto_region 10 with (first
  |(at_builtin;go_loud (refine Ay (base:=w.heap.size+3) (.tmp 48) (.tmp 50) 29 rfl rfl rfl rfl slIi (Own.nil _ _ _ _) d1.out b1.out (by omega) (by omega) b0 ?_);intro uA uC v1 oU fU aa;rw [Ak9,Al3] at oU;have F1:Fr Non w6 v1:=Gc fU;have a9:∀k,Ab uA=some k→w6.heap.size≤k:=(fun k hk=>by rcases aa with e|e;(rw [e] at hk;cases hk);(rw [e] at hk;injection hk with hk;omega));have af:=Blk.new v1 22 #[.slice A1 M c1];have ck:=oU.alloc (.cells #[.slice A1 M c1] 22);have F2:Fr Non w6 (v1.alloc (.cells #[.slice A1 M c1] 22)):=F1.alloc _;clear aa fU)
  |(at_builtin;go_loud (refine Ay (base:=w.heap.size+3) (.tmp 51) (.tmp 53) 29 rfl rfl rfl rfl slIi ck (Rd.blk (n:=1) (size:=1) af rfl) (by simp [Value.oneCell']) (by omega) (by omega) (Ak7 b0 F2.size) ?_);intro a2 a3 v2 dv dy ar;have F3:Fr Non w6 v2:=F2.trans dy (fun k hk e=>by have h9:=a9 k e;omega);have K7:=K6.non F3;have n3:v2.cell? ⟨nb,3,none⟩=some (.slice none 0 0):=K7.bn.cell 3;have z3:=K7.bn.frozen 3;clear ar a9 F2 F1 ck oU af))
 have K8:=K7.set 3 (.slice a2 (N+1) a3)
 have R8:KR (w.heap.size+3) (v2.setCell ⟨nb,3,none⟩ (.slice a2 (N+1) a3)) lA (N+1) lC (LL++XL) ak (N+1) ao (IL++NM.cells) a2 (N+1) a3 (UL++[.slice A1 M c1]) A1 M c1 (UP.map Qv) A2 N c2 (Cn N PS):=
  ⟨Own.setFar (cl.fr F3 zr) K7.bn (by decide) _,Own.setFar (ci.fr F3 zr) K7.bn (by decide) _,Own.setFar dv K7.bn (by decide) _,Own.setFar (dx.fr F3 zr) K7.bn (by decide) _,Own.setFar (d5.fr F3 zr) K7.bn (by decide) _⟩
 generalize v2.setCell ⟨nb,3,none⟩ (.slice a2 (N+1) a3)=w8 at*;change KA w w8 nb CS XS zG #[.slice CA nc CC,.slice lA (N+1) lC,.slice ak (N+1) ao,.slice a2 (N+1) a3,.slice none 0 0] at K8;clear K6 K7 cl ci dv dx d5 n3 z3 d3 F3 dy d1 a5 b1 b0;have ej:∀k,Ab A2=some k→k<w8.heap.size:=fun k hk=>(R8.oB.row k hk).2;go_wp2_with (fail)
 go_loopw [10] (fun v wr=>∃(j:Nat) (nA:Option Addr) (nC:Nat) (ns:List InL),v=.int .i64 (j:Int)∧j≤N∧KA w wr nb CS XS zG #[.slice CA nc CC,.slice lA (N+1) lC,.slice ak (N+1) ao,.slice a2 (N+1) a3,.slice nA j nC]∧KR (w.heap.size+3) wr lA (N+1) lC (LL++XL) ak (N+1) ao (IL++NM.cells) a2 (N+1) a3 (UL++[.slice A1 M c1]) A1 M c1 (UP.map Qv) A2 N c2 (Cn N PS)∧
  Own wr (w.heap.size+3) 112 1 nA j nC (ns.map InL.cell)∧Hid (∀y∈ns,y.own wr base)∧Hid (ns.map InL.bs=(IR.take j).map (· ++[false]))∧w8.heap.size≤wr.heap.size∧Hid (∀y∈ns,∀k,Ab y.A=some k→w8.heap.size≤k)) (fun v _=>N-(intOf v).toNat)
 case atStart=>exact ⟨0,none,0,[],rfl,by omega,K8,R8,Own.nil _ _ _ _,fun y hy=>absurd hy Am7,rfl,Al1 _,fun y hy=>absurd hy Am7⟩
 case round=>
  obtain ⟨j,nA,nC,ns,rfl,hj,K,R,oN,bu,co,ew,bo⟩:=hrel;clear K8 R8;have d4:=(K.bg.cell 4).trans g4.out;have dm:w.heap.size+3≤wr.heap.size:=by have h1:=K.bn.lt;have h2:=K.nb;omega
  have c8:=oN.row
  by_cases hlt:j<N
  ·
   have j1:(0:Int)≤j:=by omega
   have j2:(j:Int)<N:=by omega
   have j3:(j:Int).toNat=j:=by omega
   obtain ⟨n,hn⟩:∃n,l[j]? =some n:=⟨_,Al2 (by rw [hN.out];exact hlt)⟩;obtain ⟨y,b,de,dg,dw,rfl,e0,cy⟩:=a4.out j n hn;have cz:y.bs.length=N:=by rw [dg,Ga]
   have a0:Hid ((y.bs++[false]).length=N+1):=by show _=_;rw [Al4,cz];rfl
   have dn:y.cell=.slice y.A N y.c:=Lv (bs:=y.bs) cz;rw [dn] at cy;have ez:=K.fr.cell cy zq;have bd:Rd w w.heap.size 1 y.A y.bs.length (y.bs.map Value.bool):=dw.sl.rd;rw [cz] at bd;have ec:=Lib.hid (bd.fr K.fr zr);have b8:=Lib.hid (ce.out y)
   have dc:Hid ((IR.take (j+1)).map (· ++[false])=(IR.take j).map (· ++[false])++[y.bs++[false]]):=by
    show _=_;rw [Dz (a6.out j n hn),Ak6,dg];rfl
   have n4:wr.cell? ⟨nb,4,none⟩=some (.slice nA j nC):=K.bn.cell 4;clear hn dg dw cy bd dn a6 a4 ad;go_upto_region 15 with (at_builtin;go_loud (refine Ay (base:=wr.heap.size) (.tmp 63) (.tmp 68) 112 rfl rfl rfl rfl I5 (Own.nil _ _ _ _) ec.out b8.out (by omega) (by omega) (Al1 _) ?_);intro rA rC v0 oR fR aa;rw [Ak9,Al3] at oR;have F0:Fr Non wr v0:=Gc fR;have eh:=oR.row;clear aa fR)
   have G0:v0.cell? ⟨nb,4,none⟩=some (.slice nA j nC):=F0.cell n4 zq;refine C3 (S:=fun w'=>w'.cell? ⟨nb,4,none⟩=some (.slice nA j nC)) 8 (by kernel_rfl) ?_;refine tkG 0 G0 (h:=tkG 1 G0 (h:=tkG 2 G0 (h:=?_)));simp only [List.set];refine Bh 3 (by kernel_rfl) rfl (fun K' hK=> ?_);go_simp;have ay:=(Blk.new v0 4 #[.bool false]).drew;have ct:=oR.alloc (.cells #[.bool false] 4);have F1:Fr Non wr (v0.alloc (.cells #[.bool false] 4)).drew:=(F0.alloc (.cells #[.bool false] 4)).drew;replace ct:Own (v0.alloc (.cells #[.bool false] 4)).drew wr.heap.size 4 1 rA N rC (y.bs.map Value.bool):=ct;obtain ⟨ga,a1⟩:=Aa v0.heap.size;rw [a1.out] at ay ⊢;generalize (v0.alloc (.cells #[.bool false] 4)).drew=v1 at*;have G1:=F1.cell n4 zq;refine hK.out _ _ G1 (fun hZ=> ?_);clear hZ hK K';try simp only [Ad,List.set]
   refine Bh 4 (by kernel_rfl) rfl (fun K' hK=> ?_);refine Ec (base:=wr.heap.size) (.tmp 72) (.tmp 73) 112 rfl rfl rfl I5 ct (Rd.blk (n:=1) (size:=1) ay rfl) (by simp [Value.oneCell']) (by omega) (by omega) F1.size ?_;intro ae ai v2 ca a8 ar;have F2:Fr Non wr v2:=F1.trans a8 (fun k hk e=>by have h9:=(eh k e).1;omega);have G2:=F2.cell n4 zq;refine hK.out _ _ G2 (fun hZ=> ?_);clear hZ hK K';try simp only [Ad,List.set]
   refine Bh 5 (by kernel_rfl) rfl (fun K' hK=> ?_);go_simp;have aq:=Blk.new v2 112 #[.slice ae (N+1) ai];have es:=ca.alloc (.cells #[.slice ae (N+1) ai] 112);have F3:Fr Non wr (v2.alloc (.cells #[.slice ae (N+1) ai] 112)):=F2.alloc _;obtain ⟨gb,da⟩:=Aa v2.heap.size;rw [da.out] at aq ⊢;generalize v2.alloc (.cells #[.slice ae (N+1) ai] 112)=v3 at*;have G3:=F3.cell n4 zq;refine hK.out _ _ G3 (fun hZ=> ?_);clear hZ hK K';try simp only [Ad,List.set]
   refine Bh 6 (by kernel_rfl) rfl (fun K' hK=> ?_);have b4:=oN.fr F3 zr;refine Ec (base:=w.heap.size+3) (.tmp 71) (.tmp 75) 30 rfl rfl rfl slBb b4 (Rd.blk (n:=1) (size:=1) aq rfl) (by simp [Value.oneCell']) (by omega) (by omega) (Ak7 dm F3.size) ?_;intro ab ac v5 c0 ap c3;have K5:=(K.non F3).over ap (fun k e=>(c8 k e).1) (fun e=>b4.ne (K.non F3).bn (by decide) e);have R5:=(R.non F3).grow b4 ap;have c5:=Own.grow2 es b4 (by decide) ap;have az:Hid (∀y∈ns,y.own v5 base):=fun y hy=>InL.own.grow (RowAt.non (bu.out y hy) F3:y.own _ base) b4 ap;have G4:v5.cell? ⟨nb,4,none⟩=some (.slice nA j nC):=K5.bn.cell 4;have d6:=K5.bn.frozen 4;refine hK.out _ _ G4 (fun hZ=> ?_);clear hZ hK K';try simp only [Ad,List.set]
   refine tkG 7 G4 (h:=?_);simp only [List.set];refine Cq (by kernel_rfl) ?_;refine oG 8 (fun K' hK=> ?_);go_simp;have K6:=K5.set 4 (.slice ab (j+1) ac);have R6:=R5.setFar (i:=4) K5.bn (.slice ab (j+1) ac);have di:=Own.setFar (i:=4) c0 K5.bn (by decide) (.slice ab (j+1) ac);have b3:=Own.setFar (i:=4) c5 K5.bn (by decide) (.slice ab (j+1) ac);rw [Ru] at b3;have be:=Rt (base:=base) b3 (by omega) a0.out;have aj:(InL.mk ae ai (y.bs++[false])).cell=.slice ae (N+1) ai:=Lv a0.out
   have ax:Hid (∀z∈ns++[(⟨ae,ai,y.bs++[false]⟩:InL)],z.own (v5.setCell ⟨nb,4,none⟩ (.slice ab (j+1) ac)) base):=by
    intro z hz
    rcases List.mem_append.1 hz with h1|h1
    · exact (az.out z h1).setFar K5.bn _
    ·
     rw [Al0] at h1;rw [h1];exact be
   have bh:Hid ((ns++[(⟨ae,ai,y.bs++[false]⟩:InL)]).map InL.bs=(IR.take (j+1)).map (· ++[false])):=by
    show _=_;rw [Ak6,co.out,dc.out];rfl
   have b0:w8.heap.size≤(v5.setCell ⟨nb,4,none⟩ (.slice ab (j+1) ac)).heap.size:=by
    have h1:=F3.size;have h2:=ap.size;simp [World.setCell];omega
   have b7:Hid (∀z∈ns++[(⟨ae,ai,y.bs++[false]⟩:InL)],∀k,Ab z.A=some k→w8.heap.size≤k):=by
    intro z hz k hk
    rcases List.mem_append.1 hz with h1|h1
    · exact bo.out z h1 k hk
    ·
     rw [Al0] at h1;rw [h1] at hk;have:=(ca.row k hk).1;omega
   refine hK.out _ _ trivial (fun hZ=> ?_);clear hZ hK K';try simp only [Ad,List.set]
   refine oD ?_;go_simp;go_wp2_with (fail);go_roundw
   case rel=>exact ⟨j+1,ab,ac,ns++[⟨ae,ai,y.bs++[false]⟩],by go_num,by omega,K6,R6,by rw [Ak6,Al6,Al7,aj];exact di,ax,bh,b0,b7⟩
   case measure=>simp [intOf];omega
  ·
   obtain rfl:j=N:=by omega
   have c6:ns.map InL.bs=IR.map (· ++[false]):=by
    have h1:=co.out;rwa [Al9 (by rw [bi.out];exact Al1 _)] at h1
   have er:Hid (Cn j PS=(Bn j PS).map Value.bool):=rfl;have ee:(Bn j PS).length=j:=Ga _ _;have n4:wr.cell? ⟨nb,4,none⟩=some (.slice nA j nC):=K.bn.cell 4;have bp:(Tryz.prog.info? 32).map (·.size)=some 5:=Dl;clear a6 a4 co bi ce;go_upto_region 16 with (fail)
   have F0:Fr Non wr wr:=Fr.refl _ _;have G0:=n4;refine C3 (S:=fun w'=>w'.cell? ⟨nb,4,none⟩=some (.slice nA j nC)) 8 (by kernel_rfl) ?_;refine tkG 0 G0 (h:=tkG 1 G0 (h:=tkG 2 G0 (h:=?_)));simp only [List.set];refine Bh 3 (by kernel_rfl) rfl (fun K' hK=> ?_);go_simp;have ay:=(Blk.new wr 4 #[.bool false]).drew;have F1:Fr Non wr (wr.alloc (.cells #[.bool false] 4)).drew:=(F0.alloc (.cells #[.bool false] 4)).drew;obtain ⟨ga,a1⟩:=Aa wr.heap.size;rw [a1.out] at ay ⊢;generalize (wr.alloc (.cells #[.bool false] 4)).drew=v1 at*;have G1:=F1.cell n4 zq;refine hK.out _ _ G1 (fun hZ=> ?_);clear hZ hK K';try simp only [Ad,List.set]
   refine Bh 4 (by kernel_rfl) rfl (fun K' hK=> ?_);have bf:=R.oB.fr F1 zr;refine Ec (base:=w.heap.size+3) (.tmp 80) (.tmp 81) 112 rfl rfl rfl I5 bf (Rd.blk (n:=1) (size:=1) ay rfl) (by simp [Value.oneCell']) (by omega) (by omega) (Ak7 dm F1.size) ?_;intro ae ai v2 ca a8 ar;have K2:=(K.non F1).over a8 (fun k e=>(R.oB.row k e).1) (fun e=>bf.ne (K.non F1).bn (by decide) e);have cx:=Own.grow2 (R.oL.fr F1 zr) bf (by decide) a8;have ch:=Own.grow2 (R.oI.fr F1 zr) bf (by decide) a8;have ck:=Own.grow2 (R.oU.fr F1 zr) bf (by decide) a8;have eb:=Own.grow2 (R.oA.fr F1 zr) bf (by decide) a8;have et:=Own.grow2 (oN.fr F1 zr) bf (by decide) a8;have b9:Hid (∀y∈ns,y.own v2 base):=fun y hy=>RowAt.fr (RowAt.non (bu.out y hy) F1) a8 (fun _ k hk e=>by have h1:=bo.out y hy k hk;have h2:=ej k e;omega);rw [er.out] at ca;have G2:v2.cell? ⟨nb,4,none⟩=some (.slice nA j nC):=K2.bn.cell 4;refine hK.out _ _ G2 (fun hZ=> ?_);clear hZ hK K';try simp only [Ad,List.set]
   refine Bh 5 (by kernel_rfl) rfl (fun K' hK=> ?_);go_simp;have aq:=Blk.new v2 112 #[.slice ae (j+1) ai];have F3:Fr Non v2 (v2.alloc (.cells #[.slice ae (j+1) ai] 112)):=(Fr.refl _ _).alloc _;obtain ⟨gb,da⟩:=Aa v2.heap.size;rw [da.out] at aq ⊢;generalize v2.alloc (.cells #[.slice ae (j+1) ai] 112)=v3 at*;have K3:=K2.non F3;have a7:=et.fr F3 zr;have G3:v3.cell? ⟨nb,4,none⟩=some (.slice nA j nC):=K3.bn.cell 4;have ek:w.heap.size+3≤v3.heap.size:=by have h1:=K3.bn.lt;have h2:=K3.nb;omega
   refine hK.out _ _ G3 (fun hZ=> ?_);clear hZ hK K';try simp only [Ad,List.set]
   refine Bh 6 (by kernel_rfl) rfl (fun K' hK=> ?_);refine Ec (base:=w.heap.size+3) (.tmp 79) (.tmp 83) 30 rfl rfl rfl slBb a7 (Rd.blk (n:=1) (size:=1) aq rfl) (by simp [Value.oneCell']) (by omega) (by omega) ek ?_;intro ab ac v5 c0 ap c3;have K5:=K3.over ap (fun k e=>(a7.row k e).1) (fun e=>a7.ne K3.bn (by decide) e);have c5:=Own.grow2 (ca.fr F3 zr) a7 (by decide) ap;have b6:=Own.grow2 (cx.fr F3 zr) a7 (by decide) ap;have ed:=Own.grow2 (ch.fr F3 zr) a7 (by decide) ap;have d7:=Own.grow2 (ck.fr F3 zr) a7 (by decide) ap;have eu:=Own.grow2 (eb.fr F3 zr) a7 (by decide) ap;have az:Hid (∀y∈ns,y.own v5 base):=fun y hy=>InL.own.grow (RowAt.non (b9.out y hy) F3:y.own _ base) a7 ap;have G4:v5.cell? ⟨nb,4,none⟩=some (.slice nA j nC):=K5.bn.cell 4;have d6:=K5.bn.frozen 4;refine hK.out _ _ G4 (fun hZ=> ?_);clear hZ hK K';try simp only [Ad,List.set]
   refine tkG 7 G4 (h:=?_);simp only [List.set];refine Cq (by kernel_rfl) ?_;refine oG 8 (fun K' hK=> ?_);go_simp;have K6:=K5.set 4 (.slice ab (j+1) ac);have di:=Own.setFar (i:=4) c0 K5.bn (by decide) (.slice ab (j+1) ac);have b3:=Own.setFar (i:=4) c5 K5.bn (by decide) (.slice ab (j+1) ac);have cl:=Own.setFar (i:=4) b6 K5.bn (by decide) (.slice ab (j+1) ac);have ci:=Own.setFar (i:=4) ed K5.bn (by decide) (.slice ab (j+1) ac);have en:=Own.setFar (i:=4) d7 K5.bn (by decide) (.slice ab (j+1) ac);have ei:=Own.setFar (i:=4) eu K5.bn (by decide) (.slice ab (j+1) ac);rw [Ru] at b3;have a0:(Bn j PS++[false]).length=j+1:=by rw [Al4,ee];rfl
   have be:=Rt (base:=base) b3 (by omega) a0;have aj:(InL.mk ae ai (Bn j PS++[false])).cell=.slice ae (j+1) ai:=Lv a0
   have ax:∀z∈ns++[(⟨ae,ai,Bn j PS++[false]⟩:InL)],z.own (v5.setCell ⟨nb,4,none⟩ (.slice ab (j+1) ac)) base:=by
    intro z hz
    rcases List.mem_append.1 hz with h1|h1
    · exact (az.out z h1).setFar K5.bn _
    ·
     rw [Al0] at h1;rw [h1];exact be
   have bh:(ns++[(⟨ae,ai,Bn j PS++[false]⟩:InL)]).map InL.bs=IR.map (· ++[false])++[Bn j PS++[false]]:=by
    rw [Ak6,c6];rfl
   have eg:Own (v5.setCell ⟨nb,4,none⟩ (.slice ab (j+1) ac)) (w.heap.size+3) 112 1 ab (j+1) ac ((ns++[(⟨ae,ai,Bn j PS++[false]⟩:InL)]).map InL.cell):=by
    rw [Ak6,Al6,Al7,aj];exact di
   refine hK.out _ _ trivial (fun hZ=> ?_);clear hZ hK K';try simp only [Ad,List.set]
   refine oD ?_;go_simp;generalize v5.setCell ⟨nb,4,none⟩ (.slice ab (j+1) ac)=v6 at*;change KA w v6 nb CS XS zG #[.slice CA nc CC,.slice lA (j+1) lC,.slice ak (j+1) ao,.slice a2 (j+1) a3,.slice ab (j+1) ac] at K6;obtain ⟨RR,bm⟩:∃RR:Array Value,RR=#[.slice CA nc CC,.slice lA (j+1) lC,.slice ak (j+1) ao,.slice a2 (j+1) a3,.slice ab (j+1) ac]:=⟨_,rfl⟩;have cq:(Tryz.prog.info? 32).map (·.size)=some RR.size:=by rw [bm];exact bp
   have d8:RR.all (·.oneCell')=true:=by rw [bm];simp [Value.oneCell']
   have ea:(zG:Array Value).size=RR.size:=by rw [bm];rfl
   have cf:Hid (∀wz,Fr (One (w.heap.size+2)) v6 wz→POST (.returned (.tuple #[.agg RR,.int .i64 0])) wz):=by
    intro wz hz;have bt:∀(e:TypeId) (sz n c:Nat) (A:Option Addr) (xs:List Value),Own v6 (w.heap.size+3) e sz A n c xs→Own wz (w.heap.size+3) e sz A n c xs:=fun e sz n c A xs ho=>ho.fr hz (fun k hk e'=>by have h1:=(ho.row k hk).1;have e2:k=w.heap.size+2:=e';omega);rw [bm];refine ad.out lA ak a2 ab lC ao a3 ac _ wz (K6.fr.trans hz (fun k hk e'=>absurd hk (by have e2:k=w.heap.size+2:=e';omega))) (bt _ _ _ _ _ _ cl) (bt _ _ _ _ _ _ ci) (bt _ _ _ _ _ _ en) (bt _ _ _ _ _ _ ei) (bt _ _ _ _ _ _ eg) ?_ bh;intro y hy;refine RowAt.keepT (ax y hy) hz (fun k cs fr hk e'=> ?_);have e2:k=w.heap.size+2:=e';subst e2;have ep:v6.heap[w.heap.size+2]? =some (.cells zG 32 (0,0)):=K6.br;rw [ep] at hk;injection hk with hk
    injection hk with _ ht
    exact absurd ht (by decide)
   rw [← bm] at K6;have e3:=Az (P:=Tryz.prog) nb 32 Tryz.underlying32 rfl (cs:=RR) cq;have ev:=Cf (P:=Tryz.prog) (w.heap.size+2) 32 cq (old:=zG) ea d8;have bz:=K6.bn;have bq:=K6.br;clear ad bm;go_wp2_with (fail);have c7:=bq.setRow (cs:=RR);have dk:=Lib.hid (cf.out _ ((Fr.refl (One (w.heap.size+2)) v6).setRow (g:=w.heap.size+2) (fun _=>rfl) RR))
   (try simp only [Exit.inBlock,Exit.then])
   refine Ez (t:=32) rfl rfl c7 rfl Tryz.underlying32 cq rfl ?_;exact dk.out
end Oq
end
end Go.Proofs.YtafonabghnogaaaGreatDoor
