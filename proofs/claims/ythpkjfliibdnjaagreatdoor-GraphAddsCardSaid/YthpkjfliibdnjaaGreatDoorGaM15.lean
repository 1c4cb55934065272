/-
  Contracts of the functions that the claim's statement reaches, walked one by one (part 15).
  Conditions: as each theorem says.
-/
import Derived.Great.BuildSlice
import Derived.Test.YthpkjfliibdnjaaGreatDoorGaM11
import Derived.Test.YthpkjfliibdnjaaGreatDoorGaM13
import Derived.Test.YthpkjfliibdnjaaGreatDoorGaM14
set_option maxRecDepth 100000
set_option maxHeartbeats 16000000
open Bool renaming and_eq_true→An5
open Int renaming lt_or_le→An8
open List renaming map_append→Am6,mem_singleton→An0,getElem?_eq_getElem→An2,nil_append→An3,length_append→An4,map_cons→An6,map_nil→An7,take_of_length_le→An9,mem_of_getElem?→Ao2,flatMap_append→Ao3,flatMap_cons→Ao4,flatMap_nil→Ao5,getElem?_toArray→Ao6,not_mem_nil→Ao7
open Nat renaming le_trans→Am7,zero_add→Am9,le_refl→An1,not_lt_zero→Ao0,lt_or_ge→Ao1
open Go.World renaming size_alloc→Am8
namespace Go.Proofs.YthpkjfliibdnjaaGreatDoor
section
open Go.RowKit
attribute [local go_sem ↓] Go.wp_at_zero Go.wp_at_succ
namespace Oq
attribute [local go_sem] Bool.not_false Bool.not_true
attribute [local go_sem ↓] Ei Ch
theorem Si (y:OpL) (nm:Id) (hn:y.op.name=nm) (w:World) (hat:y.at w w.heap.size) (hok:y.op.ok):Calls Tryz.prog 13 #[.agg y.cells] w fun e w'=>e=.returned (.agg nm.V)∧Fr Non w w':=by
 have k:=Ou y w hat hok;obtain ⟨b,s,u⟩:=nm;unfold Op.name at hn;injection hn with h1 h2 h3
 rw [h3,show y.by_=b from h1,show y.sq=s from h2] at k;exact k
theorem Sj {o:Op} (h:o.chk=0):1≤o.sq∧o.sq≤2147483647∧0≤o.at_:=by
 have h1:=(chk_ok.1 h).2.2.1;unfold Op.numsB at h1;simp only [An5] at h1;have h2:=h1.1.1.2;have h3:=h1.1.2;unfold inR at h2 h3;simp only [An5,decide_eq_true_eq] at h2 h3;exact ⟨h2.1,h2.2,h3.1⟩
theorem Ag7 {l:List Pn} {ids:List Id} {k p:Nat} {y:Id} (hy:ids[k]? =some y) (hp:plc l y=some p):Aj l (ids.take (k+1))=Aj l (ids.take k)++[p]:=by
 unfold Aj;rw [Dq hy,Am6,An6,An7,hp];rfl
def G8 (cards:List Cd) (l:List Pn) (o:Op) (w:World) (e:Ending) (w':World):Prop:=
 ∃A n c,e=.returned (.tuple #[.int .i64 (Ag cards l o),.slice A n c])∧(Ag cards l o=0→n=o.past.length∧Own w' w.heap.size 3 1 A n c ((Aj l o.past).map Qv))∧Fr Non w w'
theorem Ag8 (base:Nat) (r:RG) (x:OpL) (w:World) (h:r.own w base) (hat:x.at w w.heap.size) (hok:x.op.ok):
  Calls Tryz.prog 35 #[.agg r.cells,.agg x.cells] w (G8 r.cards r.l x.op w):=by
 have b6:=h.few;have du:x.past.length≤1000:=hok.past.1;have bg:=(Blk.new w 29 r.cells).alloc (.cells x.cells 44);have bx:=Blk.new (w.alloc (.cells r.cells 29)) 44 x.cells;rw [Am8] at bx;have f0:Fr Non w ((w.alloc (.cells r.cells 29)).alloc (.cells x.cells 44)):=((Fr.refl Non w).alloc _).alloc _;have g1:Hid (r.cells[1]? =some (.slice r.lA r.l.length r.lC)):=rfl;have g4:Hid (r.cells[4]? =some (.slice r.nA r.l.length r.nC)):=rfl;have x0:Hid (x.cells[0]? =some (.int .i64 x.by_)):=rfl;have x2:Hid (x.cells[2]? =some (.int .i64 x.kind)):=rfl;have x3:Hid (x.cells[3]? =some (.int .i64 x.at_)):=rfl;have x4:Hid (x.cells[4]? =some (.slice x.pastA x.past.length x.pastC)):=rfl;have d0:Hid (x.cells[25]? =some (.int .u64 (x.r:Int))):=rfl;have dz:Hid (x.cells[26]? =some (.int .u64 (x.s:Int))):=rfl;have b0:(Tryz.prog.info? 44).map (·.size)=some x.cells.size:=by rw [show x.cells.size=27 from rfl];kernel_rfl
 have hl:=Aq (P:=Tryz.prog) w.heap.size 29 Tryz.underlying29 rfl (cs:=r.cells) Cc;have es:=Aq (P:=Tryz.prog) (w.heap.size+1) 44 Tryz.underlying44 rfl b0;have cw:=Lib.hid (fun (w':World) (hf:Fr Non w w')=>Ag6 x w' (OpL.frame hat hf) hok);obtain ⟨nm,cx⟩:∃nm,x.op.name=nm:=⟨_,rfl⟩;have dt:=Lib.hid (fun (w':World) (hf:Fr Non w w')=>Si x nm cx w' (OpL.frame hat hf) hok);have ci:=Lib.hid (fun (id:Id) (w':World) (hf:Fr Non w w')=>E7 base r id w' (h.non hf));have cq:=Lib.hid (fun (w':World) (hf:Fr Non w w')=>Ag0 base r x.by_ w' (h.non hf));have ck:=Lib.hid (fun (w':World) (hf:Fr Non w w')=>Ho x w' (OpL.frame hat hf) hok);have lb:=Op.bare_len x.op hok;have ct:=Lib.hid (fun (c:Cd) (hc:c.s<18446744073709551616) (A:Option Addr) (cc:Nat) (w':World) (B:Nat) (ho:Own w' B 5 1 A x.op.bare.length cc (x.op.bare.map Bv))=>Ag3 c.s x.r x.s w'.heap.size x.op.bare.length cc A x.op.bare w' hc hok.r hok.s rfl ho.cap.1 (by omega) (An1 _) ho.rd)
 have b7:Hid (∀(A:Option Addr) (n c:Nat) (w':World) (B:Nat),Fr Non w w'→(∀y∈x.past,∃p,plc r.l y=some p)→n=x.past.length→Own w' B 3 1 A n c ((Aj r.l x.past).map Qv)→
   Calls Tryz.prog 36 #[.agg r.cells,.slice A n c] w' (Je r.l.length (Ai r.l x.past) w')):=by
  intro A n c w' B hf hp hn ho;have k:=Sf base r w'.heap.size n c A (Aj r.l x.past) w' (h.non hf) (by show _=_;rw [Gi,hn]) ho.rd (by omega);rw [Rr h.rows hp] at k;exact k
 have dg:=Lib.hid (fun (w':World) (hf:Fr Non w w') (A:Option Addr) (c:Nat) (h1:1≤x.sq) (h2:x.sq≤9223372036854775807) (hr:Rd w' w'.heap.size 1 A r.l.length (Cs r.l.length (Ai r.l x.past)))=>Af9 base r x w'.heap.size c A (Ai r.l x.past) w' (h.non hf) h1 h2 hr);have b1:=Lib.hid (fun (p:Nat) (hp:p<r.l.length)=>h.inAt hp)
 have af:Hid (∀i,i<r.l.length→∃(m:Pn) (b ao:Nat),r.l[i]? =some m∧r.lA=some ⟨b,ao,none⟩∧w.cell? ⟨b,ao+i*27+3,none⟩=some (.int .i64 m.o.at_)):=by
  intro i hi;obtain ⟨y,b,ao,_,h1,_,h3,_,h4⟩:=h.xAt (An2 hi);exact ⟨_,b,ao,An2 hi,h3,by rw [← h1];exact h4 3 (by omega) _ rfl⟩
 have bz:Hid (∀id,-1≤Ao r.l id∧Ao r.l id<r.l.length):=fun id=>Rz r.l id;have b4:=Lib.hid h.cok;have bf:=hat.past.1
 have aa:Hid (∀(E:Int) (w':World),Ag r.cards r.l x.op=E→E≠0→Fr Non w w'→G8 r.cards r.l x.op w (.returned (.tuple #[.int .i64 E,.slice none 0 0])) w'):=by
  intro E w' h1 h2 h3;subst h1;exact ⟨none,0,0,rfl,fun e=>absurd e h2,h3⟩
 have ac:Hid (∀(A:Option Addr) (n c:Nat) (w':World),Ag r.cards r.l x.op=0→n=x.past.length→Own w' w.heap.size 3 1 A n c ((Aj r.l x.past).map Qv)→Fr Non w w'→G8 r.cards r.l x.op w (.returned (.tuple #[.int .i64 0,.slice A n c])) w'):=by
  intro A n c w' h1 h2 h3 h4;exact ⟨A,n,c,by rw [h1],fun _=>⟨h2,h3⟩,h4⟩
 have c0:Hid (x.op.chk≠0→Ag r.cards r.l x.op=x.op.chk):=Qq;have bi:Hid (x.op.chk=0→(plc r.l x.op.name).isSome=true→Ag r.cards r.l x.op=5):=Qr;have ar:Hid (x.op.chk=0→plc r.l x.op.name=none→200≤r.l.length→Ag r.cards r.l x.op=3):=Qs;have ak:Hid (x.op.chk=0→plc r.l x.op.name=none→r.l.length<200→Bj r.cards x.by_=none→Ag r.cards r.l x.op=17):=Ac8;have ae:Hid (∀c,x.op.chk=0→plc r.l x.op.name=none→r.l.length<200→Bj r.cards x.by_=some c→Sg.check c.s x.op.bare x.r x.s=false→Ag r.cards r.l x.op=12):=fun c=>Ac9;have ad:Hid (∀c,x.op.chk=0→plc r.l x.op.name=none→r.l.length<200→Bj r.cards x.by_=some c→Sg.check c.s x.op.bare x.r x.s=true→Ag r.cards r.l x.op=if x.kind=1∧r.l≠[] then 1 else Ew r.l x.op):=fun c=>Ad0;have av:Hid (∀y∈x.past,(plc r.l y).isNone=true→Ew r.l x.op=10):=fun y hy h=>Ad1 hy h;have aw:Hid ((∀y∈x.past,∃p,plc r.l y=some p)→Ew r.l x.op=Dm r.l x.op):=Ad2 (o:=x.op);have ah:Hid ((∀y∈x.past,∃p,plc r.l y=some p)→∀(a b p q:Nat) (m:Pn),(Aj r.l x.past)[a]? =some p→(Aj r.l x.past)[b]? =some q→r.l[p]? =some m→m.ps q=true→Dm r.l x.op=6):=fun hp a b p q m h1 h2 h3 h4=>Ad3 (o:=x.op) b6 hp h1 h2 h3 h4;have ag:Hid ((∀y∈x.past,∃p,plc r.l y=some p)→∀(a p:Nat) (m:Pn),(Aj r.l x.past)[a]? =some p→r.l[p]? =some m→x.at_<m.o.at_→Dm r.l x.op=6):=fun hp a p m h1 h2 h3=>Ad4 (o:=x.op) hp h1 h2 h3;have ab:Hid (0≤x.at_→(∀y∈x.past,∃p,plc r.l y=some p)→(∀(a b p q:Nat) (m:Pn),(Aj r.l x.past)[a]? =some p→(Aj r.l x.past)[b]? =some q→r.l[p]? =some m→m.ps q=false)→(∀(a p:Nat) (m:Pn),(Aj r.l x.past)[a]? =some p→r.l[p]? =some m→m.o.at_≤x.at_)→Dm r.l x.op=if Ay r.l (Ai r.l x.past) x.op=true then 11 else 0):=fun h0 hp h1 h2=>Ad5 (o:=x.op) h0 hp h1 h2;have df:Hid (x.op.chk=0→1≤x.sq∧x.sq≤2147483647∧0≤x.at_):=Sj;have bd:Hid ((Aj r.l x.past).length=x.past.length):=Gi _ _;rw [cx] at bi ar ak ae ad;clear cx h hok hat b0;generalize G8 r.cards r.l x.op w=POST at*;generalize Ag r.cards r.l x.op=EE at*;generalize Ew r.l x.op=EK at*;generalize Dm r.l x.op=EP at*;generalize x.op.chk=CK at*;obtain ⟨SB,c5⟩:=Aa (Ay r.l (Ai r.l x.past) x.op);rw [c5.out] at ab
 have al:Hid (∀(w':World),Fr Non w w'→∀(A:Option Addr) (c:Nat),1≤x.sq→x.sq≤9223372036854775807→Rd w' w'.heap.size 1 A r.l.length (Cs r.l.length (Ai r.l x.past))→Calls Tryz.prog 69 #[.agg r.cells,.agg x.cells,.slice A r.l.length c] w' (Ad (!SB) w')):=by
  rw [← c5.out];exact dg.out
 clear dg c5;generalize x.op.bare=BR at*;generalize x.cells=XS at*;generalize r.cells=CS at*;generalize r.cards=CD at*;generalize r.lA=LA at*;generalize r.lC=LC at*;generalize r.nA=NA at*;generalize r.nC=NC at*;generalize r.l=l at*;obtain ⟨N,hN⟩:=Aa l.length
 have bp:Hid (l≠[]↔0<N):=by
  show _↔_;rw [← hN.out];exact List.length_pos_iff.symm
 rw [hN.out] at g1 g4 b6 b1 af bz b7 al ar ak ae ad;generalize x.pastA=PA at*;generalize x.pastC=PC at*;generalize x.past=ids at*;obtain ⟨M,hM⟩:=Aa ids.length;rw [hM.out] at x4 du bf bd b7 ac;generalize x.by_=xb at*;generalize x.sq=xsq at*;generalize x.kind=xk at*;generalize x.at_=xat at*;generalize x.r=xr at*;generalize x.s=xs at*;unfold NewB at ck;unfold Ec at ct;unfold Er at cq;unfold Iu at cw;go_enter Tryz.func35,Tryz.ntmps35;go_upto_region 1 with (fail)
 generalize (w.alloc (.cells CS 29)).alloc (.cells XS 44)=w0 at*;go_upto_region 2 with (go_at_call 66;(with_reducible refine (cw.out _ f0).mono ?_);rintro _ w1 ⟨rfl,f1⟩)
 replace bg:=bg.fr f1 zq;replace bx:=bx.fr f1 zq;replace f0:=f0.trans f1 zr;clear cw f1 w0
 by_cases hck:CK=0
 case neg=>
  have t:(CK !=0)=true:=by simp [hck]
  have hd:=Lib.hid (aa.out CK w1 (c0.out hck) hck f0);clear aa ac c0 bi ar ak ae ad av aw ah ag ab
  as_aux_lemma=>
  go_wp2_with (fail)
  first|exact hd.out|(go_ret2;exact hd.out)
 case pos=>
 obtain ⟨s1,s2,s3⟩:=df.out hck;replace bi:Hid ((plc l nm).isSome=true→EE=5):=bi.out hck;replace ar:=Lib.hid (ar.out hck);replace ak:=Lib.hid (ak.out hck);replace ae:=Lib.hid (fun c=>ae.out c hck);replace ad:=Lib.hid (fun c=>ad.out c hck);clear c0 df;subst hck;have B0:=bg.drew;have X0:=bx.drew;have ai:=f0.drew;have dr:=Lib.hid (fun w' hf=>ci.out nm w' hf);have c6:Hid ((plc l nm).isSome=true↔0≤Ao l nm):=plcI_pos.symm
 have dl:Hid (Ao l nm<0→plc l nm=none):=fun e=>by
  have:=plcI_neg.1 e
  cases hq:plc l nm with
  |none=>rfl
  |some p=>rw [hq] at this;cases this
 generalize Ao l nm=P0 at*;go_upto_region 4 with (fail)
 refine wp_region_held_drew (S:=fun w'=>Blk w' w.heap.size 29 CS∧Blk w' (w.heap.size+1) 44 XS) (by kernel_rfl) ⟨B0,X0⟩ (fun hHeld=> ?_);clear hHeld;refine tkH 0 ⟨B0,X0⟩ (h:=tkH 1 ⟨B0,X0⟩ (h:=?_));simp only [List.set];refine oG 2 (fun K hK=> ?_);go_simp;go_wp2_with (go_at_call 13;(with_reducible refine (dt.out _ ai).mono ?_);rintro _ v1 ⟨rfl,ce⟩;have B1:=B0.fr ce zq;have X1:=X0.fr ce zq;have ap:=ai.trans ce zr);refine hK.out _ _ ⟨B1,X1⟩ (fun hZ=> ?_);clear hZ hK K;try simp only [Ab,List.set]
 refine oG 3 (fun K hK=> ?_);go_simp;go_wp2_with (go_at_call 15;(with_reducible refine (dr.out _ ap).mono ?_);rintro _ v2 ⟨rfl,cd⟩;have B2:=B1.fr cd zq;have X2:=X1.fr cd zq;have aj:=ap.trans cd zr);refine hK.out _ _ ⟨B2,X2⟩ (fun hZ=> ?_);clear hZ hK K;try simp only [Ab,List.set]
 refine tkH 4 ⟨B2,X2⟩ (h:=?_);simp only [List.set];refine oD ?_;go_simp;clear dt dr B0 X0 ai B1 X1 ap ce cd v1 bg bx f0 w1
 rcases An8 P0 0 with hP|hP
 case inr=>
  have t:decide (P0≥0)=true:=decide_eq_true (by omega);have t2:decide (0≤P0)=true:=decide_eq_true (by omega);have hd:=Lib.hid (aa.out 5 v2 (bi.out (c6.out.2 hP)) (by decide) aj);clear aa ac bi ar ak ae ad av aw ah ag ab
  as_aux_lemma=>
  go_wp2_with (fail)
  first|exact hd.out|(go_ret2;exact hd.out)
 case inl=>
 have t:decide (P0≥0)=false:=decide_eq_false (by omega);have t2:decide (0≤P0)=false:=decide_eq_false (by omega);have b8:=dl.out hP;replace ar:=Lib.hid (ar.out b8);replace ak:=Lib.hid (ak.out b8);replace ae:=Lib.hid (fun c=>ae.out c b8);replace ad:=Lib.hid (fun c=>ad.out c b8);clear bi c6 dl b8;have c1:=(B2.cell 1).trans g1.out;go_upto_region 6 with (fail)
 clear t t2 hP
 by_cases hfull:200≤N
 case pos=>
  have t:decide ((N:Int)≥200)=true:=decide_eq_true (by omega);have t2:decide ((200:Int)≤(N:Int))=true:=decide_eq_true (by omega);have hd:=Lib.hid (aa.out 3 v2 (ar.out hfull) (by decide) aj);clear aa ac ar ak ae ad av aw ah ag ab
  as_aux_lemma=>
  go_wp2_with (fail)
  first|exact hd.out|(go_ret2;exact hd.out)
 case neg=>
 have t:decide ((N:Int)≥200)=false:=decide_eq_false (by omega);have t2:decide ((200:Int)≤(N:Int))=false:=decide_eq_false (by omega);have a9:N<200:=by omega
 replace ak:=Lib.hid (ak.out a9);replace ae:=Lib.hid (fun c=>ae.out c a9);replace ad:=Lib.hid (fun c=>ad.out c a9);clear ar hfull a9;have ec:=(X2.cell 0).trans x0.out;have bt:=Lib.hid (cq.out v2 aj);clear cq
 cases hcd:Bj CD xb
 case none=>
  rw [hcd] at bt;have hd:=Lib.hid (fun w' hf=>aa.out 17 w' (ak.out hcd) (by decide) hf);have b9:Hid (Calls Tryz.prog 67 #[.agg CS,.int .i64 xb] v2 fun e w'=>e=.returned (.tuple #[.agg zC,.bool false])∧Fr Non v2 w'):=bt.out;clear aa ac ak ae ad av aw ah ag ab bt
  as_aux_lemma=>
  go_upto_region 9 with (go_at_call 67;(with_reducible refine (b9.out).mono ?_);rintro _ v3 ⟨rfl,f3⟩)
  have c9:=Lib.hid (hd.out _ ((aj.trans f3 zr).alloc (.cells zC 95)));go_wp2_with (fail)
  first|exact c9.out|(go_ret2;exact c9.out)
 case some c=>
 have dp:=b4.out c (List.mem_of_find?_eq_some hcd);rw [hcd] at bt;have b9:Hid (Calls Tryz.prog 67 #[.agg CS,.int .i64 xb] v2 fun e w'=>e=.returned (.tuple #[.agg #[.int .i64 c.d,.int .i64 c.m,.int .u64 (c.l:Int),.int .u64 (c.k:Int),.int .u64 (c.s:Int)],.bool true])∧Fr Non v2 w'):=bt.out;replace ae:=Lib.hid (ae.out c hcd);replace ad:=Lib.hid (ad.out c hcd);have cp:=Lib.hid (ct.out c dp);obtain ⟨sb,dn⟩:=Aa (Sg.check c.s BR xr xs);rw [dn.out] at ae ad cp;clear bt ak hcd ct dp dn b4;go_upto_region 9 with (go_at_call 67;(with_reducible refine (b9.out).mono ?_);rintro _ v3 ⟨rfl,f3⟩)
 have f4:Fr Non v2 (v3.alloc (.cells #[.int .i64 c.d,.int .i64 c.m,.int .u64 (c.l:Int),.int .u64 (c.k:Int),.int .u64 (c.s:Int)] 95)):=f3.alloc _;have bc:=Blk.new v3 95 #[.int .i64 c.d,.int .i64 c.m,.int .u64 (c.l:Int),.int .u64 (c.k:Int),.int .u64 (c.s:Int)];have B3:=B2.fr f4 zq;have X3:=X2.fr f4 zq;have ds:=aj.trans f4 zr;obtain ⟨gc,c7⟩:=Aa v3.heap.size;rw [c7.out] at bc ⊢;generalize v3.alloc (.cells #[.int .i64 c.d,.int .i64 c.m,.int .u64 (c.l:Int),.int .u64 (c.k:Int),.int .u64 (c.s:Int)] 95)=v4 at*;have S0:v4.drew.cell? ⟨gc,4,none⟩=some (.int .u64 (c.s:Int)):=bc.cell 4;replace c1:v4.cell? ⟨w.heap.size,1,none⟩=some (.slice LA N LC):=(B3.cell 1).trans g1.out;clear b9 f3 f4 c7 B2 X2 aj ec;go_upto_region 11 with (fail)
 clear t t2;have R0:v4.drew.cell? ⟨w.heap.size+1,25,none⟩=some (.int .u64 (xr:Int)):=(X3.cell 25).trans d0.out;have T0:v4.drew.cell? ⟨w.heap.size+1,26,none⟩=some (.int .u64 (xs:Int)):=(X3.cell 26).trans dz.out;have B0:=B3.drew;have X0:=X3.drew;have ai:=ds.drew;clear c1 bc B3 X3 ds;refine wp_region_held_drew (S:=fun w'=>Blk w' w.heap.size 29 CS∧Blk w' (w.heap.size+1) 44 XS∧w'.cell? ⟨gc,4,none⟩=some (.int .u64 (c.s:Int))∧w'.cell? ⟨w.heap.size+1,25,none⟩=some (.int .u64 (xr:Int))∧w'.cell? ⟨w.heap.size+1,26,none⟩=some (.int .u64 (xs:Int))) (by kernel_rfl) ⟨B0,X0,S0,R0,T0⟩ (fun hHeld=> ?_);clear hHeld;refine tkH 0 ⟨B0,X0,S0,R0,T0⟩ (h:=tkH 1 ⟨B0,X0,S0,R0,T0⟩ (h:=tkH 2 ⟨B0,X0,S0,R0,T0⟩ (h:=tkH 4 ⟨B0,X0,S0,R0,T0⟩ (h:=tkH 5 ⟨B0,X0,S0,R0,T0⟩ (h:=?_)))));simp only [List.set];refine oG 3 (fun K hK=> ?_);go_simp;go_wp2_with (go_at_call 49;(with_reducible refine (ck.out _ ai).mono ?_);rintro _ v1 ⟨A1,c1,rfl,db,bq⟩;have B1:=B0.fr bq zq;have X1:=X0.fr bq zq;have S1:=bq.cell S0 zq;have R1:=bq.cell R0 zq;have T1:=bq.cell T0 zq;have ap:=ai.trans bq zr);refine hK.out _ _ ⟨B1,X1,S1,R1,T1⟩ (fun hZ=> ?_);clear hZ hK K;try simp only [Ab,List.set]
 refine oG 6 (fun K hK=> ?_);go_simp;go_wp2_with (go_at_call 68;(with_reducible refine (cp.out _ _ _ _ db).mono ?_);rintro _ v2 ⟨rfl,bk⟩;have B2:=B1.fr bk zq;have X2:=X1.fr bk zq;have S2:=bk.cell S1 zq;have R2:=bk.cell R1 zq;have T2:=bk.cell T1 zq;have aj:=ap.trans bk zr);refine hK.out _ _ ⟨B2,X2,S2,R2,T2⟩ (fun hZ=> ?_);clear hZ hK K;try simp only [Ab,List.set]
 refine tkH 7 ⟨B2,X2,S2,R2,T2⟩ (h:=?_);simp only [List.set];refine oD ?_;go_simp;clear ck cp B0 X0 ai B1 X1 ap S0 S1 S2 R0 R1 R2 T0 T1 T2 db bq bk v3 v1 v4
 cases sb
 case false=>
  have hd:=Lib.hid (aa.out 12 v2 (ae.out rfl) (by decide) aj);clear aa ac ae ad av aw ah ag ab
  as_aux_lemma=>
  go_wp2_with (fail)
  first|exact hd.out|(go_ret2;exact hd.out)
 case true=>
 replace ad:=Lib.hid (ad.out rfl);clear ae;have c1:=(B2.cell 1).trans g1.out;have eg:=(X2.cell 2).trans x2.out;go_upto_region 14 with (fail)
 obtain ⟨kb,bw⟩:=Aa (xk==1&&decide ((0:Int)<(N:Int)))
 go_cut [55] from 47 to 55 (fun s wc=>v2=wc∧s=.bool kb)
 case first=>
  clear aa ac ad av aw ah ag ab
  as_aux_lemma=>
  rcases zb (xk==1) with t1|t1
  ·
   have hv:Hid (decide ((0:Int)<(N:Int))=kb):=by show _=_;rw [← bw.out,t1];rfl
   go_wp2_with (fail);go_meet;exact ⟨rfl,congrArg Value.bool (by rw [← hv.out];first|rfl|exact decide_eq_decide.2 (by omega))⟩
  ·
   have hv:Hid (false=kb):=by show _=_;rw [← bw.out,t1];rfl
   go_wp2_with (fail);go_meet;exact ⟨rfl,congrArg Value.bool hv.out⟩
 case rest=>
 obtain ⟨rfl,rfl⟩:=hcut;clear c1 eg
 cases kb
 case true=>
  have hd:=Lib.hid (aa.out 1 v2 (by
   have h1:=bw.out;rw [An5,beq_iff_eq,decide_eq_true_iff] at h1;rw [ad.out,if_pos ⟨h1.1,bp.out.2 (by omega)⟩]) (by decide) aj)
  clear aa ac ad av aw ah ag ab
  as_aux_lemma=>
  go_wp2_with (fail)
  first|exact hd.out|(go_ret2;exact hd.out)
 case false=>
 replace ad:Hid (EE=EK):=by
  show _=_;have h1:=bw.out;rw [Bool.and_eq_false_iff,beq_eq_false_iff_ne,decide_eq_false_iff_not] at h1
  rw [ad.out,if_neg (fun e=>by
   rcases h1 with h1|h1
   · exact h1 e.1
   ·
    have:=bp.out.1 e.2;omega)]
 clear bw bp;rw [← ad.out] at av aw;clear ad;have de:=aj.size;have eh:=B2.lt;go_upto_region 16 with (fail)
 go_wp2_with (fail);generalize v2=wL at*
 go_loopw [10,11] (fun s v wr=>∃(k:Nat) (A:Option Addr) (cc:Nat),v=.int .i64 (k:Int)∧s=.slice A k cc∧k≤M∧Hid (∀y∈ids.take k,∃p,plc l y=some p)∧Own wr wL.heap.size 3 1 A k cc ((Aj l (ids.take k)).map Qv)∧Fr Non wL wr) (fun _ v _=>M-(intOf v).toNat)
 case atStart=>exact ⟨0,none,0,rfl,rfl,by omega,fun y hy=>absurd hy (by simp),Own.nil _ _ _ _,Fr.refl _ _⟩
 case round=>
  obtain ⟨k,A,cc,rfl,rfl,hk,bm,az,hf⟩:=hrel;have a1:Fr Non w wr:=aj.trans hf zr;have cz:=az.row;have c4:=((X2.fr hf zq).cell 4).trans x4.out
  by_cases a9:k<M
  ·
   obtain ⟨y,hy⟩:∃y,ids[k]? =some y:=⟨_,An2 (by rw [hM.out];exact a9)⟩;obtain ⟨b,ao,rfl,ei,k0,k1,k2⟩:=Id.at (bf.fr a1 zr) hy;have i1:(0:Int)≤k:=by omega
   have i2:(k:Int)<M:=by omega
   have i3:(k:Int).toNat=k:=by omega
   have B0:=(B2.fr hf zq).drew;have ai:Fr Non w wr.drew:=a1.drew;have Q0:wr.drew.cell? ⟨w.heap.size+1,4,none⟩=some (.slice (some ⟨b,ao,none⟩) M PC):=c4;have a2:wr.drew.cell? ⟨b,ao+k*3,none⟩=some (.int .i64 y.b):=k0;have a5:wr.drew.cell? ⟨b,ao+k*3+1,none⟩=some (.int .i64 y.s):=k1;have a8:wr.drew.cell? ⟨b,ao+k*3+2,none⟩=some (.int .u64 (y.u:Int)):=k2;have O0:Own wr.drew wL.heap.size 3 1 A k cc ((Aj l (ids.take k)).map Qv):=az.drew;have H0:Fr Non wL wr.drew:=hf.drew;have c8:=Lib.hid (ci.out y wr.drew ai);have bh:Hid (Ao l y<0→EE=10):=fun e=>av.out y (Ao2 hy) (plcI_neg.1 e)
   have bl:Hid (∀p:Nat,Ao l y=(p:Int)→(∀z∈ids.take (k+1),∃p,plc l z=some p)∧(Aj l (ids.take (k+1))).map Qv=(Aj l (ids.take k)).map Qv++[Qv p]):=by
    intro p hp
    have dq:plc l y=some p:=by
     unfold Ao at hp
     cases hq:plc l y with
     |none=>rw [hq] at hp;dsimp only at hp;omega
     |some i=>rw [hq] at hp;dsimp only at hp;exact congrArg some (by omega)
    refine ⟨fun z hz=> ?_,by rw [Ag7 hy dq,Am6];rfl⟩;rw [Dq hy] at hz
    rcases List.mem_append.1 hz with h1|h1
    · exact bm.out z h1
    ·
     rw [An0] at h1;exact ⟨p,by rw [h1];exact dq⟩
   clear hy k0 k1 k2 az hf a1 ci av aw ah ag ab b1 af bz b7 al;generalize Ao l y=P at*;go_upto_region 20 with (fail)
   clear c4;refine wp_region_held_drew (S:=fun w'=>Blk w' w.heap.size 29 CS∧w'.cell? ⟨w.heap.size+1,4,none⟩=some (.slice (some ⟨b,ao,none⟩) M PC)∧w'.cell? ⟨b,ao+k*3,none⟩=some (.int .i64 y.b)∧w'.cell? ⟨b,ao+k*3+1,none⟩=some (.int .i64 y.s)∧w'.cell? ⟨b,ao+k*3+2,none⟩=some (.int .u64 (y.u:Int))) (by kernel_rfl) ⟨B0,Q0,a2,a5,a8⟩ (fun hHeld=> ?_);clear hHeld;refine tkH 0 ⟨B0,Q0,a2,a5,a8⟩ (h:=tkH 1 ⟨B0,Q0,a2,a5,a8⟩ (h:=tkH 2 ⟨B0,Q0,a2,a5,a8⟩ (h:=tkH 3 ⟨B0,Q0,a2,a5,a8⟩ (h:=tkH 4 ⟨B0,Q0,a2,a5,a8⟩ (h:=tkH 5 ⟨B0,Q0,a2,a5,a8⟩ (h:=?_))))));simp only [List.set];refine oG 6 (fun K hK=> ?_);go_simp;go_wp2_with (go_at_call 15;(with_reducible refine (c8.out).mono ?_);rintro _ v1 ⟨rfl,a7⟩;have B1:=B0.fr a7 zq;have Q1:=a7.cell Q0 zq;have co:=a7.cell a2 zq;have cu:=a7.cell a5 zq;have cr:=a7.cell a8 zq;have ap:=ai.trans a7 zr;have O1:=O0.fr a7 zr;have H1:=H0.trans a7 zr);refine hK.out _ _ ⟨B1,Q1,co,cu,cr⟩ (fun hZ=> ?_);clear hZ hK K;try simp only [Ab,List.set]
   refine tkH 7 ⟨B1,Q1,co,cu,cr⟩ (h:=?_);simp only [List.set];refine oD ?_;go_simp;clear c8 B0 B1 ai Q0 Q1 a2 a5 a8 co cu cr O0 H0 a7
   rcases An8 P 0 with hP|hP
   ·
    have t:decide (P<0)=true:=decide_eq_true hP;have hd:=Lib.hid (aa.out 10 v1 (bh.out hP) (by decide) ap);clear aa ac bh bl;go_wp2_with (fail)
    first|exact hd.out|(go_ret2;exact hd.out)
   ·
    obtain ⟨p,rfl⟩:∃p:Nat,P=(p:Int):=⟨P.toNat,by omega⟩;have t:decide ((p:Int)<0)=false:=decide_eq_false (by omega);obtain ⟨aq,d8⟩:=bl.out p rfl;replace aq:=Lib.hid aq;have c3:=O1.alloc (.cells #[.int .i64 (p:Int)] 3);have dy:=H1.alloc (.cells #[.int .i64 (p:Int)] 3);have d5:=Blk.new v1 3 #[.int .i64 (p:Int)];have et:=H1.size;clear bh bl aa ac;go_wp2_with (at_builtin;go_loud (refine Az (base:=wL.heap.size) (.tmp 72) (.tmp 74) 22 rfl rfl rfl rfl Ju c3 (Rd.blk (n:=1) (size:=1) d5 rfl) (by simp [Value.oneCell']) (by omega) (by omega) (by rw [Am8];omega) ?_);intro A2 dw w4 cl ea d2);have dx:Fr Non wL w4:=dy.trans ea (fun j hj e=>by have h5:=(cz j e).1;omega);go_roundw
    case rel=>exact ⟨k+1,A2,dw,by go_num,rfl,by omega,aq,by rw [d8];exact cl,dx⟩
    case measure=>simp [intOf];omega
  ·
   obtain rfl:k=M:=by omega
   have aq:∀y∈ids,∃p,plc l y=some p:=by
    have h1:=bm.out;rwa [An9 (by rw [hM.out];omega)] at h1
   have ay:Own wr wL.heap.size 3 1 A k cc ((Aj l ids).map Qv):=by
    have h1:=az;rwa [An9 (by rw [hM.out];omega)] at h1
   have dj:=aw.out aq;replace ah:=ah.out aq;replace ag:=ag.out aq;replace ab:=ab.out s3 aq;rw [← dj] at ah ag ab
   have a6:∀(a p:Nat),(Aj l ids)[a]? =some p→p<N:=fun a p ha=>by
    rw [← hN.out];exact Lk aq p (Ao2 ha)
   have ba:=Lib.hid (fun w' (hf':Fr Non w w') ho=>b7.out A k cc w' wL.heap.size hf' aq rfl ho);replace ah:=Lib.hid ah;replace ag:=Lib.hid ag;replace ab:=Lib.hid ab;replace a6:=Lib.hid a6;clear av aw bm az aq dj ci b7;generalize Aj l ids=US at*;have B3:=B2.fr hf zq;have X3:=X2.fr hf zq;clear B2 X2;go_wp2_with (fail);clear c4;have eo:=a1.size
   have hU:Hid (∀(a p:Nat),US[a]? =some p→a<k∧∃bU au,A=some ⟨bU,au,none⟩∧wr.cell? ⟨bU,au+a,none⟩=some (.int .i64 (p:Int))):=by
    intro a p ha
    have a9:a<k:=by
     have:=(List.getElem?_eq_some_iff.1 ha).1;rw [bd.out] at this;exact this
    obtain ⟨bU,au,u,h1,_,h2,h3⟩:=ay.rd.at a9;rw [List.getElem?_map,ha] at h2;injection h2 with h2
    subst h2;exact ⟨a9,bU,au,h1,h3⟩
   have cj:Hid (∀wz,Fr Non wr wz→wz.cell? ⟨w.heap.size,1,none⟩=some (.slice LA N LC)∧wz.cell? ⟨w.heap.size,4,none⟩=some (.slice NA N NC)∧wz.cell? ⟨w.heap.size+1,3,none⟩=some (.int .i64 xat)):=fun wz hz=>
    ⟨((B3.fr hz zq).cell 1).trans g1.out,((B3.fr hz zq).cell 4).trans g4.out,((X3.fr hz zq).cell 3).trans x3.out⟩
   obtain ⟨wM,d9⟩:∃wM:World,wM=wr:=⟨_,rfl⟩;subst d9
   go_loopw [13] (fun v wr=>∃i:Nat,v=.int .i64 (i:Int)∧i≤k∧Hid (∀(a b p q:Nat) (m:Pn),a<i→US[a]? =some p→US[b]? =some q→l[p]? =some m→m.ps q=false)∧Hid (∀(a p:Nat) (m:Pn),a<i→US[a]? =some p→l[p]? =some m→m.o.at_≤xat)∧Fr Non wM wr) (fun v _=>k-(intOf v).toNat)
   case atStart=>exact ⟨0,rfl,by omega,fun a b p q m h=>absurd h (Ao0 _),fun a p m h=>absurd h (Ao0 _),Fr.refl _ _⟩
   case round=>
    obtain ⟨i,rfl,el,ca,be,bu⟩:=hrel
    by_cases hi:i<k
    ·
     have i1:(0:Int)≤i:=by omega
     have i2:(i:Int)<k:=by omega
     have i3:(i:Int).toNat=i:=by omega
     obtain ⟨pi,bj⟩:∃p,US[i]? =some p:=⟨_,An2 (by rw [bd.out];exact hi)⟩;have dh:=a6.out i pi bj;obtain ⟨_,bU,au,rfl,di⟩:=hU.out i pi bj;obtain ⟨m,A2,c2,b2,dv,hm,rfl,cm,a0⟩:=b1.out pi dh;obtain ⟨m',bL,d7,cg,rfl,cy⟩:=af.out pi dh;rw [hm] at cg;injection cg with cg
     subst cg;have p1:(0:Int)≤pi:=by omega
     have p2:(pi:Int)<N:=by omega
     have p3:(pi:Int).toNat=pi:=by omega
     have br:Hid (∀(b q:Nat),US[b]? =some q→m.ps q=true→EE=6):=fun b q hb hq=>ah.out i b pi q m bj hb hm hq;have bb:Hid (xat<m.o.at_→EE=6):=fun e=>ag.out i pi m bj hm e
     have bn:Hid ((∀(b q:Nat),US[b]? =some q→m.ps q=false)→∀(a b p q:Nat) (m:Pn),a<i+1→US[a]? =some p→US[b]? =some q→l[p]? =some m→m.ps q=false):=by
      intro hh a b p q m2 ha h1 h2 h3
      rcases Ao1 a i with h4|h4
      · exact ca.out a b p q m2 h4 h1 h2 h3
      ·
       have e:a=i:=by omega
       subst e;rw [bj] at h1;injection h1 with h1
       subst h1;rw [hm] at h3;injection h3 with h3
       subst h3;exact hh b q h2
     have a3:Hid (m.o.at_≤xat→∀(a p:Nat) (m:Pn),a<i+1→US[a]? =some p→l[p]? =some m→m.o.at_≤xat):=by
      intro hh a p m2 ha h1 h3
      rcases Ao1 a i with h4|h4
      · exact be.out a p m2 h4 h1 h3
      ·
       have e:a=i:=by omega
       subst e;rw [bj] at h1;injection h1 with h1
       subst h1;rw [hm] at h3;injection h3 with h3
       subst h3;exact hh
     obtain ⟨wo,ee⟩:∃wo:World,wo=wr:=⟨_,rfl⟩;subst ee;clear ca be hm bj b1 af ah ag;go_wp2_with (fail)
     go_loopw [14] (fun v wr=>∃j:Nat,v=.int .i64 (j:Int)∧j≤k∧Hid (∀(b q:Nat),b<j→US[b]? =some q→m.ps q=false)∧Fr Non wo wr) (fun v _=>k-(intOf v).toNat)
     case atStart=>exact ⟨0,rfl,by omega,fun b q h=>absurd h (Ao0 _),Fr.refl _ _⟩
     case round=>
      obtain ⟨j,rfl,ep,bh,dk⟩:=hrel;have a4:Fr Non wM wr:=bu.trans dk zr;obtain ⟨d1,d4,d3⟩:=cj.out wr a4;have en:=a4.cell di zq
      by_cases hj:j<k
      ·
       have j1:(0:Int)≤j:=by omega
       have j2:(j:Int)<k:=by omega
       have j3:(j:Int).toNat=j:=by omega
       obtain ⟨qj,b5⟩:∃p,US[j]? =some p:=⟨_,An2 (by rw [bd.out];exact hj)⟩;have d6:=a6.out j qj b5;obtain ⟨_,em,da,eU,dc⟩:=hU.out j qj b5;injection eU with eU
       injection eU with e1 e2
       subst e1 e2;obtain ⟨b3,ef,rfl,dm⟩:=a0 qj d6;have q1:(0:Int)≤qj:=by omega
       have q2:(qj:Int)<N:=by omega
       have q3:(qj:Int).toNat=qj:=by omega
       have ej:=a4.cell dc zq;have ek:=(a1.trans a4 zr).cell cm zq;have eb:=(a1.trans a4 zr).cell dm zq;have bs:=Lib.hid (br.out j qj b5)
       have bo:Hid (m.ps qj=false→∀(b q:Nat),b<j+1→US[b]? =some q→m.ps q=false):=by
        intro hh b q hb h1
        rcases Ao1 b j with h4|h4
        · exact bh.out b q h4 h1
        ·
         have e:b=j:=by omega
         subst e;rw [b5] at h1;injection h1 with h1
         subst h1;exact hh
       clear bh b5 br bb bn a3 cm dm dc di cy a0 ab ba al hU cj d1 d3;generalize m.ps qj=mq at*
       cases mq
       case true=>
        have hd:=Lib.hid (fun wz hz=>aa.out 6 wz (bs.out rfl) (by decide) hz);have ax:Fr Non w wr:=a1.trans a4 zr;clear aa ac bs bo;go_wp2_with (fail)
        go_quiet (fail)
        go_wp2_with (fail)
        first|exact hd.out _ (ax.drewN _)|(go_ret2;exact hd.out _ (ax.drewN _))
       case false=>
        have cn:=Lib.hid (bo.out rfl);clear aa ac bs bo;go_wp2_with (fail)
        go_quiet (fail)
        go_wp2_with (fail);go_roundw
        case rel=>exact ⟨j+1,by go_num,by omega,cn,dk.drewN _⟩
        case measure=>simp [intOf];omega
      ·
       obtain rfl:j=k:=by omega
       have cv:=Lib.hid (bn.out (fun b q hb=>bh.out b q (hU.out b q hb).1 hb));have ed:=(a1.trans a4 zr).cell cy zq;have ax:Fr Non w wr:=a1.trans a4 zr;clear bn bh br cm cy a0 ab ba al hU cj d4;generalize m.o.at_=ma at*
       rcases An8 xat ma with hla|hla
       ·
        have t:decide (xat<ma)=true:=decide_eq_true hla;have hd:=Lib.hid (fun wz hz=>aa.out 6 wz (bb.out hla) (by decide) hz);clear aa ac bb a3;go_wp2_with (fail)
        go_quiet (fail)
        go_wp2_with (fail)
        first|exact hd.out _ (ax.drewN _)|(go_ret2;exact hd.out _ (ax.drewN _))
       ·
        have t:decide (xat<ma)=false:=decide_eq_false (by omega);have bv:=Lib.hid (a3.out hla);clear aa ac bb a3;go_wp2_with (fail)
        go_quiet (fail)
        go_wp2_with (fail);go_roundw
        case rel=>exact ⟨i+1,by go_num,by omega,cv,bv,a4.drewN _⟩
        case measure=>simp [intOf];omega
    ·
     obtain rfl:i=k:=by omega
     have cf:Hid (EE=if SB=true then 11 else 0):=ab.out (fun a b p q m h1 h2 h3=>ca.out a b p q m (hU.out a p h1).1 h1 h2 h3) (fun a p m h1 h3=>be.out a p m (hU.out a p h1).1 h1 h3);have B0:=(B3.fr bu zq).drew;have X0:=(X3.fr bu zq).drew;have ai:Fr Non w wr.drew:=(a1.trans bu zr).drew;have O0:Own wr.drew wL.heap.size 3 1 A i cc (US.map Qv):=(ay.fr bu zr).drew;clear ca be ah ag ab hU cj b1 af B3 X3 ay bu a1 hf;go_upto_region 34 with (fail)
     refine wp_region_held_drew (S:=fun w'=>Blk w' w.heap.size 29 CS∧Blk w' (w.heap.size+1) 44 XS) (by kernel_rfl) ⟨B0,X0⟩ (fun hHeld=> ?_);clear hHeld;refine tkH 0 ⟨B0,X0⟩ (h:=tkH 1 ⟨B0,X0⟩ (h:=tkH 2 ⟨B0,X0⟩ (h:=tkH 3 ⟨B0,X0⟩ (h:=?_))));simp only [List.set];refine oG 4 (fun K hK=> ?_);go_simp;go_wp2_with (go_at_call 36;(with_reducible refine (ba.out _ ai O0).mono ?_);rintro _ v1 ⟨A1,c1,rfl,dd,cb⟩;have B1:=B0.fr cb zq;have X1:=X0.fr cb zq;have ap:=ai.trans cb zr;have O1:=O0.fr cb zr);refine hK.out _ _ ⟨B1,X1⟩ (fun hZ=> ?_);clear hZ hK K;try simp only [Ab,List.set]
     refine oG 5 (fun K hK=> ?_);go_simp;go_wp2_with (go_at_call 69;(with_reducible refine (al.out _ ap _ _ s1 (by omega) dd.rd).mono ?_);rintro _ v2 ⟨rfl,ch⟩;have B2:=B1.fr ch zq;have X2:=X1.fr ch zq;have aj:=ap.trans ch zr;have O2:=O1.fr ch zr);refine hK.out _ _ ⟨B2,X2⟩ (fun hZ=> ?_);clear hZ hK K;try simp only [Ab,List.set]
     refine tkH 6 ⟨B2,X2⟩ (h:=?_);simp only [List.set];refine oD ?_;go_simp;clear ba al B0 B1 B2 X0 X1 X2 ai ap O0 O1 dd;have er:=de
     cases SB
     case true=>
      have hd:=Lib.hid (aa.out 11 v2 (by rw [cf.out];rfl) (by decide) aj);clear aa ac cf;go_wp2_with (fail)
      first|exact hd.out|(go_ret2;exact hd.out)
     case false=>
      have hd:=Lib.hid (ac.out A i cc v2 (by rw [cf.out];rfl) rfl (O2.lower de) aj);clear aa ac cf;go_wp2_with (fail)
      first|exact hd.out|(go_ret2;exact hd.out)
end Oq
end
section
open Go.RowKit
namespace Oq
theorem G9:SlT Tryz.prog 24 44 (.agg zO) 27 328:=⟨Tryz.underlying24,by kernel_rfl,rfl,by decide⟩
theorem slIi:SlT Tryz.prog 26 22 (.slice none 0 0) 1 24:=⟨Tryz.underlying26,by kernel_rfl,rfl,by decide⟩
theorem slBb:SlT Tryz.prog 27 81 (.slice none 0 0) 1 24:=⟨Tryz.underlying27,by kernel_rfl,rfl,by decide⟩
structure KA (w wv:World) (nb:Nat) (GS XS ZS cs:Array Value):Prop where
 bg:Blk wv w.heap.size 29 GS
 bx:Blk wv (w.heap.size+1) 44 XS
 br:Blk wv (w.heap.size+2) 29 ZS
 bn:Blk wv nb 29 cs
 nb:w.heap.size+3≤nb
 fr:Fr Non w wv
theorem KA.over {S:Nat→Prop} {w wv w':World} {nb:Nat} {GS XS ZS cs:Array Value} (h:KA w wv nb GS XS ZS cs) (hf:Fr S wv w') (hS:∀k,S k→w.heap.size+3≤k) (hn:¬S nb):KA w w' nb GS XS ZS cs where
 bg:=h.bg.fr hf (fun e=>by have:=hS _ e;omega)
 bx:=h.bx.fr hf (fun e=>by have:=hS _ e;omega)
 br:=h.br.fr hf (fun e=>by have:=hS _ e;omega)
 bn:=h.bn.fr hf hn
 nb:=h.nb
 fr:=h.fr.trans hf (fun k hk e=>by have:=hS _ e;omega)
theorem KA.non {w wv w':World} {nb:Nat} {GS XS ZS cs:Array Value} (h:KA w wv nb GS XS ZS cs) (hf:Fr Non wv w'):KA w w' nb GS XS ZS cs:=h.over hf (fun _ e=>e.elim) zq
theorem KA.set {w wv:World} {nb:Nat} {GS XS ZS cs:Array Value} (h:KA w wv nb GS XS ZS cs) (i:Nat) (v:Value):KA w (wv.setCell ⟨nb,i,none⟩ v) nb GS XS ZS (cs.setIfInBounds i v) where
 bg:=h.bg.far (p:=⟨_,_,_⟩) (by have:=h.nb;show _≠nb;omega) _
 bx:=h.bx.far (p:=⟨_,_,_⟩) (by have:=h.nb;show _≠nb;omega) _
 br:=h.br.far (p:=⟨_,_,_⟩) (by have:=h.nb;show _≠nb;omega) _
 bn:=h.bn.set i v
 nb:=h.nb
 fr:=h.fr.setNew (by have:=h.nb;omega) i v
theorem Own.ne2 {w:World} {b b' size size' n n' c c':Nat} {t t':TypeId} {A A':Option Addr} {xs xs':List Value} (h:Own w b t size A n c xs) (h':Own w b' t' size' A' n' c' xs') (hne:t≠t'):∀k,Ac A=some k→Ac A'≠some k:=by
 intro k hk hk'
 rcases h.2 with ⟨hv,_⟩|⟨g,cap,cur,hv,_,hg,_⟩
 ·
  injection hv with hA
  subst hA
  cases hk
 ·
  injection hv with hA
  subst hA;injection hk with hk
  have hk2:g=k:=hk;subst hk2;exact Own.ne h' (g:=g) (t:=t) (cs:=cur) hg (fun e=>hne e.symm) hk'
theorem Own.setFar {w:World} {b size n c nb i:Nat} {t:TypeId} {A:Option Addr} {xs:List Value} {cs:Array Value} {t':TypeId} (h:Own w b t size A n c xs) (hb:Blk w nb t' cs) (hne:t≠t') (v:Value):Own (w.setCell ⟨nb,i,none⟩ v) b t size A n c xs:=
 h.setOne (h.ne hb hne)
theorem Own.grow2 {w w':World} {b b' size size' n n' c c':Nat} {t t':TypeId} {A A':Option Addr} {xs xs':List Value} (h:Own w b t size A n c xs) (h':Own w b' t' size' A' n' c' xs') (hne:t≠t') (hf:Fr (fun k=>Ac A'=some k) w w'):Own w' b t size A n c xs:=
 h.fr hf (fun k hk e=>Own.ne2 h h' hne k hk e)
theorem Gj {w w':World} (h:Fr (fun k=>Ac none=some k) w w'):Fr Non w w':=h.mono (fun _ _ e=>by cases e)
theorem Ag9 (l:List Pn) (o:Op):(As l o).id=o.name:=rfl
theorem Ah0 (l:List Pn) (o:Op):(As l o).o=o:=rfl
theorem C3 (b s:Int) (u:Nat) (hb:I64 b) (hs:I64 s) (hu:U64 u):(Id.mk b s u).ok:=⟨hb,hs,hu⟩
theorem Ah1 (r:RG) (o:Op):(r.l++[As r.l o]).map Pn.id=r.ids++[o.name]:=by
 unfold RG.ids;rw [Am6];rfl
def RG.more (r:RG) (x:OpL) (lA:Option Addr) (lC:Nat) (iA:Option Addr) (iC:Nat) (uA:Option Addr) (uC:Nat) (nA:Option Addr) (nC:Nat) (u:UpL) (ns:List InL):RG:=
 {cA:=r.cA,cC:=r.cC,cards:=r.cards,lA:=lA,lC:=lC,xs:=r.xs++[x],iA:=iA,iC:=iC,uA:=uA,uC:=uC,us:=r.us++[u],nA:=nA,nC:=nC,ns:=ns,l:=r.l++[As r.l x.op]}
theorem Ah2 {w wz:World} {base:Nat} {r:RG} {x:OpL} {lA iA uA nA:Option Addr} {lC iC uC nC:Nat} {u:UpL} {ns:List InL} (h:r.own w base) (hx:x.lies w base) (hok:x.op.ok) (hf:Fr Non w wz) (hb:base≤w.heap.size+3) (he:Ag r.cards r.l x.op=0)
  (oL:Own wz (w.heap.size+3) 44 27 lA (r.l.length+1) lC (r.xs.flatMap (fun x=>x.cells.toList)++x.cells.toList))
  (oI:Own wz (w.heap.size+3) 36 3 iA (r.l.length+1) iC (r.ids.flatMap Id.cells++x.op.name.cells))
  (oU:Own wz (w.heap.size+3) 22 1 uA (r.l.length+1) uC (r.us.map UpL.cell++[u.cell])) (ou:u.own wz base) (hu:u.xs=Aj r.l x.op.past)
  (oN:Own wz (w.heap.size+3) 81 1 nA (r.l.length+1) nC (ns.map InL.cell)) (on:∀y∈ns,y.own wz base) (hn:ns.map InL.bs=(Dc r.l).map (· ++[false])++[Bo r.l.length (Ai r.l x.op.past)++[false]]):
  (r.more x lA lC iA iC uA uC nA nC u ns).own wz base:=by
 have T:=I7 he;have hlen:(r.l++[As r.l x.op]).length=r.l.length+1:=by rw [An4];rfl
 refine ⟨h.cards.non hf,?_,?_,?_,?_,?_,?_,?_,?_,?_,?_,?_,Rows.snoc r.l x.op h.rows he,h.cfew,h.cok⟩
 ·
  show RowAt wz base 44 27 lA (r.l++[As r.l x.op]).length lC ((r.xs++[x]).flatMap (fun x=>x.cells.toList));rw [hlen,Ao3,Ao4,Ao5,List.append_nil];exact (RowAt.of_own oL).lower hb
 ·
  intro y hy
  rcases List.mem_append.1 hy with h1|h1
  · exact (h.each y h1).non hf
  ·
   rw [An0] at h1;rw [h1];exact hx.non hf
 ·
  show (r.xs++[x]).map OpL.op=(r.l++[As r.l x.op]).map Pn.o;rw [Am6,Am6,h.same];rfl
 ·
  intro n hn'
  rcases List.mem_append.1 hn' with h1|h1
  · exact h.ok n h1
  ·
   rw [An0] at h1;rw [h1,Ah0,Ag9];exact ⟨hok,Dw hok⟩
 ·
  show RowAt wz base 36 3 iA (r.l++[As r.l x.op]).length iC (((r.l++[As r.l x.op]).map Pn.id).flatMap Id.cells);rw [hlen,Ah1,Ao3,Ao4,Ao5,List.append_nil];exact (RowAt.of_own oI).lower hb
 ·
  show RowAt wz base 22 1 uA (r.l++[As r.l x.op]).length uC ((r.us++[u]).map UpL.cell);rw [hlen,Am6];exact (RowAt.of_own oU).lower hb
 ·
  intro y hy
  rcases List.mem_append.1 hy with h1|h1
  · exact RowAt.non (h.eachU y h1) hf
  ·
   rw [An0] at h1;rw [h1];exact ou
 ·
  show (r.us++[u]).map UpL.xs=Fo (r.l++[As r.l x.op]);rw [Ab8 h.rows T,Am6,h.sameU,← hu];rfl
 ·
  show RowAt wz base 81 1 nA (r.l++[As r.l x.op]).length nC (ns.map InL.cell);rw [hlen];exact (RowAt.of_own oN).lower hb
 · exact on
 ·
  show ns.map InL.bs=Dc (r.l++[As r.l x.op]);rw [Ab9 h.rows T,hn]
structure KR (b:Nat) (wv:World) (lA:Option Addr) (nL lC:Nat) (LX:List Value) (iA:Option Addr) (nI iC:Nat) (IX:List Value) (uA:Option Addr) (nU uC:Nat) (UX:List Value) (A1:Option Addr) (M c1:Nat) (UP:List Value) (A2:Option Addr) (N c2:Nat) (BX:List Value):Prop where
 oL:Own wv b 44 27 lA nL lC LX
 oI:Own wv b 36 3 iA nI iC IX
 oU:Own wv b 22 1 uA nU uC UX
 oA:Own wv b 3 1 A1 M c1 UP
 oB:Own wv b 4 1 A2 N c2 BX
section
variable {b : Nat} {wv w' : World} {lA iA uA A1 A2 : Option Addr} {nL lC nI iC nU uC M c1 N c2 : Nat} {LX IX UX UP BX : List Value}
theorem KR.non (h:KR b wv lA nL lC LX iA nI iC IX uA nU uC UX A1 M c1 UP A2 N c2 BX) (hf:Fr Non wv w'):KR b w' lA nL lC LX iA nI iC IX uA nU uC UX A1 M c1 UP A2 N c2 BX:=
 ⟨h.oL.fr hf zr,h.oI.fr hf zr,h.oU.fr hf zr,h.oA.fr hf zr,h.oB.fr hf zr⟩
theorem KR.setFar {nb i:Nat} {cs:Array Value} (h:KR b wv lA nL lC LX iA nI iC IX uA nU uC UX A1 M c1 UP A2 N c2 BX) (hb:Blk wv nb 29 cs) (v:Value):KR b (wv.setCell ⟨nb,i,none⟩ v) lA nL lC LX iA nI iC IX uA nU uC UX A1 M c1 UP A2 N c2 BX:=
 ⟨Own.setFar h.oL hb (by decide) v,Own.setFar h.oI hb (by decide) v,Own.setFar h.oU hb (by decide) v,Own.setFar h.oA hb (by decide) v,Own.setFar h.oB hb (by decide) v⟩
theorem KR.grow {b' n c:Nat} {A:Option Addr} {xs:List Value} (h:KR b wv lA nL lC LX iA nI iC IX uA nU uC UX A1 M c1 UP A2 N c2 BX) (ho:Own wv b' 81 1 A n c xs) (hf:Fr (fun k=>Ac A=some k) wv w'):KR b w' lA nL lC LX iA nI iC IX uA nU uC UX A1 M c1 UP A2 N c2 BX:=
 ⟨Own.grow2 h.oL ho (by decide) hf,Own.grow2 h.oI ho (by decide) hf,Own.grow2 h.oU ho (by decide) hf,Own.grow2 h.oA ho (by decide) hf,Own.grow2 h.oB ho (by decide) hf⟩
end
theorem InL.own.grow {w w':World} {base b' n c:Nat} {A:Option Addr} {xs:List Value} {y:InL} (h:y.own w base) (ho:Own w b' 81 1 A n c xs) (hf:Fr (fun k=>Ac A=some k) w w'):y.own w' base:=by
 refine RowAt.keepT h hf (fun k cs fr hk e=> ?_)
 rcases ho.2 with ⟨hv,_⟩|⟨g,cap,cur,hv,_,hg,_⟩
 ·
  injection hv with hA
  subst hA
  cases e
 ·
  injection hv with hA
  subst hA;injection e with e
  have e2:g=k:=e;subst e2;rw [hg] at hk;injection hk with hk
  injection hk with _ ht
  exact absurd ht (by decide)
theorem InL.own.setFar {w:World} {base nb i:Nat} {cs:Array Value} {y:InL} (h:y.own w base) (hb:Blk w nb 29 cs) (v:Value):y.own (w.setCell ⟨nb,i,none⟩ v) base:=by
 refine RowAt.keepT h ((Fr.refl (One nb) w).setOne i v) (fun k cs' fr hk e=> ?_);have e2:k=nb:=e;subst e2;have hb':w.heap[k]? =some (.cells cs 29 (0,0)):=hb;rw [hb'] at hk;injection hk with hk
 injection hk with _ ht
 exact absurd ht (by decide)
theorem Sk {w:World} {base b N c:Nat} {A:Option Addr} {bs:List Bool} (h:Own w b 4 1 A N c (bs.map Value.bool)) (hb:base≤b) (hN:bs.length=N):(InL.mk A c bs).own w base:=by
 show RowAt w base 4 1 A bs.length c (bs.map Value.bool);rw [hN];exact (RowAt.of_own h).lower hb
theorem Lu {A:Option Addr} {c N:Nat} {bs:List Bool} (hN:bs.length=N):(InL.mk A c bs).cell=.slice A N c:=by
 subst hN;rfl
theorem Sm (bs:List Bool):bs.map Value.bool++[Value.bool false]=(bs++[false]).map Value.bool:=by rw [Am6];rfl
end Oq
end
section
open Go.RowKit
attribute [local go_sem ↓] Go.wp_at_zero Go.wp_at_succ
namespace Oq
attribute [local go_sem] Bool.not_false Bool.not_true
theorem Lv (p v:Value):Instr.storeAt 29 p v=stS 29 p v:=rfl
def bsO (t:TypeId) (len:Nat) (parts:Array (Nat × Value)):=Instr.buildSlice t len parts
theorem Ah3 (n:Nat) (p:Array (Nat × Value)):Instr.buildSlice 24 n p=bsO 24 n p:=rfl
theorem Ah4 (x:OpL) (w:World):(bsO 24 1 #[(0,.agg x.cells)]).run Tryz.prog w=.ok (.slice (some ⟨w.heap.size,0,none⟩) 1 1) (w.alloc (.cells x.cells 44)):=by
 obtain ⟨ht,hinfo,_⟩:=G9;obtain ⟨i,hi,hz,hs,_⟩:=info_parts hinfo;exact run_buildSlice w 24 44 1 _ _ i _ ht hi hz (by rw [hs];decide) (by rw [hs];decide) (by rw [hs];kernel_rfl)
attribute [local go_sem ↓] Ei Ch Lv Ah3
theorem Sn {P:Program} {Q:Exit→Act→World→Prop} {l:List Oper} {md:Region.Mode} {S:World→Prop} {g fuel:Nat} {listed:Array Bool} {a:Act} {w:World} (i j:Nat) {d:Option Tmp} {op:Go.Op} {ty:TypeId} {pos:String} {after:Array Edge} {d':Option Tmp} {op':Go.Op} {ty':TypeId} {pos':String} {after':Array Edge}
  (hr:Region.ready md l.toArray listed=[i,j]) (ho:l[i]? =some ⟨d,op,ty,pos,after,none⟩) (ho':l[j]? =some ⟨d',op',ty',pos',after',none⟩)
  (h:∀K':Act→World→Prop,Shut (∀a w,S w→(S w→Cz P md l.toArray Q S g fuel (listed.setIfInBounds i true) a w)→K' a w)→Oper.wp P ⟨d,op,ty,pos,after,none⟩ a w K' Q)
  (h':∀K':Act→World→Prop,Shut (∀a w,S w→(S w→Cz P md l.toArray Q S g fuel (listed.setIfInBounds j true) a w)→K' a w)→Oper.wp P ⟨d',op',ty',pos',after',none⟩ a w K' Q):
  Cz P md l.toArray Q S g (fuel+1) listed a w:=by
 refine ⟨fun h0=>(by rw [hr] at h0;cases h0),fun k hk=> ?_⟩;rw [hr] at hk
 rcases List.mem_cons.1 hk with rfl|hk
 ·
  refine wpOp_step (o:=⟨d,op,ty,pos,after,none⟩) (by rw [Ao6];exact ho) (fun K' hK=> ?_);rw [if_pos (show Region.wanted _ _=true from rfl)];exact h K' (fun a w hS hW=>hK a w ⟨fun _=>hS,hW hS⟩)
 ·
  obtain rfl:=List.mem_singleton.1 hk;refine wpOp_step (o:=⟨d',op',ty',pos',after',none⟩) (by rw [Ao6];exact ho') (fun K' hK=> ?_);rw [if_pos (show Region.wanted _ _=true from rfl)];exact h' K' (fun a w hS hW=>hK a w ⟨fun _=>hS,hW hS⟩)
def Ex (base:Nat) (r:RG) (o:Op) (w:World) (e:Ending) (w':World):Prop:=
 ∃r':RG,e=.returned (.tuple #[.agg r'.cells,.int .i64 (Ag r.cards r.l o)])∧Fr Non w w'∧r'.own w' base∧r'.cards=r.cards∧r'.l=(if Ag r.cards r.l o=0 then r.l++[As r.l o] else r.l)
theorem Dn (r:RG):r.cells.all (·.oneCell')=true:=by unfold RG.cells;simp [Value.oneCell']
theorem Sp (x:OpL):∀u∈x.cells.toList,u.oneCell'=true:=by
 intro u hu;have h:=Bm x;rw [Array.all_eq_true'] at h;exact h u (Array.mem_toList_iff.1 hu)
theorem Ah5 (l:List OpL):∀u∈l.flatMap (fun x=>x.cells.toList),u.oneCell'=true:=by
 intro u hu;obtain ⟨x,_,hx⟩:=List.mem_flatMap.1 hu;exact Sp x u hx
theorem Sq {α:Type} (f:α→Value) (hf:∀x,(f x).oneCell'=true) (l:List α):∀u∈l.map f,u.oneCell'=true:=by
 intro u hu;obtain ⟨x,_,rfl⟩:=List.mem_map.1 hu;exact hf x
theorem Sr (base:Nat) (r:RG) (x:OpL) (w:World) (h:r.own w base) (hx:x.lies w base) (hb:base≤w.heap.size) (hok:x.op.ok):
  Calls Tryz.prog 8 #[.agg r.cells,.agg x.cells] w (Ex base r x.op w):=by
 have ci:=hx.at;have dj:=h.few;have hG:(Tryz.prog.info? 29).map (·.size)=some r.cells.size:=Cc;have cz:(Tryz.prog.info? 44).map (·.size)=some x.cells.size:=by rw [show x.cells.size=27 from rfl];kernel_rfl
 have hl:=Aq (P:=Tryz.prog) w.heap.size 29 Tryz.underlying29 rfl (cs:=r.cells) Cc;have e0:=Aq (P:=Tryz.prog) (w.heap.size+1) 44 Tryz.underlying44 rfl cz;have bg:=((Blk.new w 29 r.cells).alloc (.cells x.cells 44)).alloc (.cells zG 29);have bx:=(Blk.new (w.alloc (.cells r.cells 29)) 44 x.cells).alloc (.cells zG 29);have br:=Blk.new ((w.alloc (.cells r.cells 29)).alloc (.cells x.cells 44)) 29 zG;rw [Am8] at bx;rw [Am8,Am8] at br;have f0:Fr Non w (((w.alloc (.cells r.cells 29)).alloc (.cells x.cells 44)).alloc (.cells zG 29)):=(((Fr.refl Non w).alloc _).alloc _).alloc _
 have c5:w.heap.size+3≤(((w.alloc (.cells r.cells 29)).alloc (.cells x.cells 44)).alloc (.cells zG 29)).heap.size:=by
  rw [Am8,Am8,Am8];exact An1 _
 have kw:=Lib.hid (fun (w':World) (hf:Fr Non w w')=>Ag8 base r x w' (h.non hf) (OpL.frame ci hf) hok)
 have cv:Hid (Ag r.cards r.l x.op≠0→∀w',Fr Non w w'→Ex base r x.op w (.returned (.tuple #[.agg r.cells,.int .i64 (Ag r.cards r.l x.op)])) w'):=by
  intro he w' hf;exact ⟨r,rfl,hf,h.non hf,rfl,by rw [if_neg he]⟩
 have ca:=Dn r;have ck:=Ah4 x;have bc:x.cells.size=1*27:=rfl;go_enter Tryz.func8,Tryz.ntmps8;go_upto_region 1 with (fail)
 generalize ((w.alloc (.cells r.cells 29)).alloc (.cells x.cells 44)).alloc (.cells zG 29)=w0 at*;unfold G8 at kw;go_upto_region 2 with (go_at_call 35;(with_reducible refine (kw.out _ f0).mono ?_);rintro _ w1 ⟨A1,n1,c1,rfl,dd,f1⟩)
 replace bg:=bg.fr f1 zq;replace bx:=bx.fr f1 zq;replace br:=br.fr f1 zq;have ch:=f0.trans f1 zr;have cw:=Am7 c5 f1.size;clear kw
 by_cases he:Ag r.cards r.l x.op=0
 case neg=>
  have hd:=Lib.hid (cv.out he);obtain ⟨E,hE⟩:=Aa (Ag r.cards r.l x.op);rw [hE.out] at hd he ⊢;have t:(E !=0)=true:=by simp [he]
  have eb:=Bf (P:=Tryz.prog) (w.heap.size+2) 29 hG (old:=zG) rfl ca;generalize Ex base r x.op w=POST at*;clear dd h hx ci cv hok
  as_aux_lemma=>
  go_wp2_with (fail);have dc:=br.setRow (cs:=r.cells);have fz:=ch.setRow (g:=w.heap.size+2) (fun hh=>absurd hh (by omega)) r.cells;have cp:=Lib.hid (hd.out _ fz)
  (try simp only [Exit.inBlock,Exit.then])
  refine E0 (t:=29) rfl rfl dc rfl Tryz.underlying29 hG rfl ?_;exact cp.out
 case pos=>
 obtain ⟨rfl,aq⟩:=dd he;replace aq:=aq.lower c5;rw [he];have al:=(I7 he).past;have kp:=Lib.hid (fun (w':World) (hf:Fr Non w w') (ho:Own w' (w.heap.size+3) 3 1 A1 x.op.past.length c1 ((Aj r.l x.op.past).map Qv))=>(Sf base r w'.heap.size x.op.past.length c1 A1 (Aj r.l x.op.past) w' (h.non hf) (by show _=_;rw [Gi]) ho.rd (by have:=hok.past.1;omega)));rw [Rr h.rows al] at kp;have cn:=Lib.hid (fun (w':World) (hf:Fr Non w w')=>Si x x.op.name rfl w' (OpL.frame ci hf) hok)
 have ad:Hid (∀(lA iA uA nA:Option Addr) (lC iC uC nC:Nat) (ns:List InL) (wz:World),Fr Non w wz→
   Own wz (w.heap.size+3) 44 27 lA (r.l.length+1) lC (r.xs.flatMap (fun x=>x.cells.toList)++x.cells.toList)→
   Own wz (w.heap.size+3) 36 3 iA (r.l.length+1) iC (r.ids.flatMap Id.cells++x.op.name.cells)→
   Own wz (w.heap.size+3) 22 1 uA (r.l.length+1) uC (r.us.map UpL.cell++[.slice A1 x.op.past.length c1])→
   Own wz (w.heap.size+3) 3 1 A1 x.op.past.length c1 ((Aj r.l x.op.past).map Qv)→
   Own wz (w.heap.size+3) 81 1 nA (r.l.length+1) nC (ns.map InL.cell)→(∀y∈ns,y.own wz base)→ns.map InL.bs=(Dc r.l).map (· ++[false])++[Bo r.l.length (Ai r.l x.op.past)++[false]]→
   Ex base r x.op w (.returned (.tuple #[.agg #[.slice r.cA r.cards.length r.cC,.slice lA (r.l.length+1) lC,.slice iA (r.l.length+1) iC,.slice uA (r.l.length+1) uC,.slice nA (r.l.length+1) nC],.int .i64 0])) wz):=by
  intro lA iA uA nA lC iC uC nC ns wz hf oL oI oU oa oN on hn;have dz:(Aj r.l x.op.past).length=x.op.past.length:=Gi _ _
  have aj:(UpL.mk A1 c1 (Aj r.l x.op.past)).cell=.slice A1 x.op.past.length c1:=by
   show Value.slice A1 (Aj r.l x.op.past).length c1=_;rw [dz]
  have c3:(r.l++[As r.l x.op]).length=r.l.length+1:=by rw [An4];rfl
  have hm:=Ah2 (u:=⟨A1,c1,Aj r.l x.op.past⟩) h hx hok hf (by omega) he oL oI (by rw [aj];exact oU) (by
   show RowAt wz base 3 1 A1 (Aj r.l x.op.past).length c1 ((Aj r.l x.op.past).map Qv);rw [dz];exact (RowAt.of_own oa).lower (by omega)) rfl oN on hn
  refine ⟨_,?_,hf,hm,rfl,by rw [if_pos he];rfl⟩;rw [he];show Ending.returned (.tuple #[.agg #[.slice r.cA r.cards.length r.cC,.slice lA (r.l.length+1) lC,.slice iA (r.l.length+1) iC,.slice uA (r.l.length+1) uC,.slice nA (r.l.length+1) nC],.int .i64 0])=Ending.returned (.tuple #[.agg #[.slice r.cA r.cards.length r.cC,.slice lA (r.l++[As r.l x.op]).length lC,.slice iA (r.l++[As r.l x.op]).length iC,.slice uA (r.l++[As r.l x.op]).length uC,.slice nA (r.l++[As r.l x.op]).length nC],.int .i64 0]);rw [c3]
 have bp:=Lib.hid h.ops.sl.rd;have a8:=Lib.hid h.rdIds;have a6:=Lib.hid h.ups.sl.rd;have a4:Hid (∀(i:Nat) (n:Pn),r.l[i]? =some n→∃(x:InL) (b de:Nat),x.bs=Bo r.l.length n.ps∧x.own w base∧r.nA=some ⟨b,de,none⟩∧b<w.heap.size∧w.cell? ⟨b,de+i,none⟩=some x.cell):=fun i n hi=>h.nAt hi;have g0:Hid (r.cells[0]? =some (.slice r.cA r.cards.length r.cC)):=rfl;have g1:Hid (r.cells[1]? =some (.slice r.lA r.l.length r.lC)):=rfl;have g2:Hid (r.cells[2]? =some (.slice r.iA r.l.length r.iC)):=rfl;have g3:Hid (r.cells[3]? =some (.slice r.uA r.l.length r.uC)):=rfl;have g4:Hid (r.cells[4]? =some (.slice r.nA r.l.length r.nC)):=rfl;have bl:=Lib.hid (Ah5 r.xs);have dn:=Lib.hid (Sp x);have b4:=Lib.hid (Id.cells_one r.ids);have b2:=Lib.hid (Sq UpL.cell (fun _=>rfl) r.us);have b0:=Lib.hid (fun (y:InL)=>Sq Value.bool (fun _=>rfl) y.bs);have e3:Hid (x.cells.toList.length=1*27):=rfl;have bd:Hid ((Dc r.l).length=r.l.length):=Ab6 r.l;have a5:Hid (∀(i:Nat) (n:Pn),r.l[i]? =some n→(Dc r.l)[i]? =some (Bo r.l.length n.ps)):=fun i n hi=>Rq hi;clear cv h hx ci al he hG dd f1 f0;obtain ⟨NM,dq⟩:∃nm,x.op.name=nm:=⟨_,rfl⟩;rw [dq] at cn ad;clear dq;have ez:x.op.past.length≤1000:=hok.past.1;clear hok;generalize Aj r.l x.op.past=UP at*;generalize Ai r.l x.op.past=PS at*;generalize x.op.past.length=M at*;generalize Ex base r x.op w=POST at*;generalize hXL:x.cells.toList=XL at*;generalize r.xs.flatMap (fun x=>x.cells.toList)=LL at*;generalize x.cells=XS at*;generalize r.ids.flatMap Id.cells=IL at*;generalize r.us.map UpL.cell=UL at*;generalize Dc r.l=IR at*;generalize r.cells=CS at*;generalize r.cards.length=nc at*;generalize r.cA=CA at*;generalize r.cC=CC at*;generalize r.lA=LA at*;generalize r.lC=LC at*;generalize r.iA=IA at*;generalize r.iC=IC at*;generalize r.uA=UA at*;generalize r.uC=UC at*;generalize r.nA=NA at*;generalize r.nC=NC at*;generalize r.l=l at*;obtain ⟨N,hN⟩:=Aa l.length;rw [hN.out] at kp ad bp a8 a6 a4 g1 g2 g3 g4 dj bd a5;unfold Je at kp;go_upto_region 5 with (go_at_call 36;(with_reducible refine (kp.out _ ch aq).mono ?_);rintro _ w2 ⟨A2,c2,rfl,ai,f2⟩)
 have bf:=aq.fr f2 zr;replace ai:=ai.lower cw;have dl:=ch.trans f2 zr;have dp:=Am7 cw f2.size;replace bg:=bg.fr f2 zq;replace bx:=bx.fr f2 zq;replace br:=br.fr f2 zq;have K:KA w (w2.alloc (.cells zG 29)) w2.heap.size CS XS zG zG:=⟨bg.alloc _,bx.alloc _,br.alloc _,Blk.new w2 29 zG,dp,dl.alloc _⟩;replace bf:=bf.alloc (.cells zG 29);replace ai:=ai.alloc (.cells zG 29);clear bg bx br ch dl aq kp f2;go_upto_region 6 with (fail)
 obtain ⟨nb,bi⟩:=Aa w2.heap.size;rw [bi.out] at K ⊢;generalize w2.alloc (.cells zG 29)=w3 at*;clear bi c5 cw dp w2 w1 w0;have d0:=(K.bg.cell 0).trans g0.out;have n0:w3.cell? ⟨nb,0,none⟩=some (.slice none 0 0):=K.bn.cell 0;have z0:=K.bn.frozen 0;go_upto_region 7 with (fail)
 have K4:=K.set 0 (.slice CA nc CC);replace bf:=Own.setFar (i:=0) bf K.bn (by decide) (.slice CA nc CC);replace ai:=Own.setFar (i:=0) ai K.bn (by decide) (.slice CA nc CC);generalize w3.setCell ⟨nb,0,none⟩ (.slice CA nc CC)=w4 at*;clear K d0 n0 z0 w3;change KA w w4 nb CS XS zG #[.slice CA nc CC,.slice none 0 0,.slice none 0 0,.slice none 0 0,.slice none 0 0] at K4;have dk:=Lib.hid ((bp.out).fr K4.fr zr);have es:=Lib.hid ((a8.out).fr K4.fr zr);have ec:=Lib.hid ((a6.out).fr K4.fr zr);have b8:w.heap.size+3≤w4.heap.size:=by have h1:=K4.bn.lt;have h2:=K4.nb;omega
 go_cut [8] from 28 to 36 (fun s wc=>s=.slice A2 N c2∧∃lA lC,KA w wc nb CS XS zG #[.slice CA nc CC,.slice lA (N+1) lC,.slice none 0 0,.slice none 0 0,.slice none 0 0]∧Own wc (w.heap.size+3) 44 27 lA (N+1) lC (LL++XL)∧Own wc (w.heap.size+3) 3 1 A1 M c1 (UP.map Qv)∧Own wc (w.heap.size+3) 4 1 A2 N c2 (Cs N PS))
 case first=>
  clear ad cn
  as_aux_lemma=>
  have af:∀wz,Fr Non w4 wz→KA w wz nb CS XS zG #[.slice CA nc CC,.slice none 0 0,.slice none 0 0,.slice none 0 0,.slice none 0 0]:=fun wz hz=>K4.non hz;have B0:=K4.bg;have X0:=K4.bx;have G0:w4.cell? ⟨w.heap.size,1,none⟩=some (.slice LA N LC):=(K4.bg.cell 1).trans g1.out;have P0:w4.cell? ⟨nb,1,none⟩=some (.slice none 0 0):=K4.bn.cell 1;have F0:Fr Non w4 w4.drew:=(Fr.refl Non w4).drew;have bb:∀u∈XS.toList,u.oneCell'=true:=by rw [hXL];exact dn.out
  refine Cq (S:=fun w'=>Blk w' w.heap.size 29 CS∧Blk w' (w.heap.size+1) 44 XS∧w'.cell? ⟨w.heap.size,1,none⟩=some (.slice LA N LC)∧w'.cell? ⟨nb,1,none⟩=some (.slice none 0 0)) 9 (by kernel_rfl) ?_;refine tkG 0 ⟨B0,X0,G0,P0⟩ (h:=tkG 1 ⟨B0,X0,G0,P0⟩ (h:=tkG 2 ⟨B0,X0,G0,P0⟩ (h:=tkG 3 ⟨B0,X0,G0,P0⟩ (h:=tkG 5 ⟨B0,X0,G0,P0⟩ (h:=?_)))));simp only [List.set];refine Sn 4 6 (by kernel_rfl) rfl rfl (fun K hK=> ?_) (fun K hK=> ?_)
  ·
   skip
   refine Dy (base:=w.heap.size+3) (.tmp 29) (.tmp 31) 24 rfl rfl rfl G9 (Own.nil _ _ _ _) (dk.out.fr F0 zr) bl.out (by omega) (by omega) b8 ?_;intro lA lC v1 oL fL aa;rw [Am9,An3] at oL;have F1:Fr Non w4 v1:=F0.trans (Gj fL) zr;have a9:∀k,Ac lA=some k→w4.heap.size≤k:=fun k hk=>by rcases aa with e|e;(rw [e] at hk;cases hk);(rw [e] at hk;injection hk with hk;have eo:w4.heap.size=k:=hk;omega)
   have B1:=B0.fr F1 zq;have X1:=X0.fr F1 zq;have G1:=F1.cell G0 zq;have P1:=F1.cell P0 zq;refine hK.out _ _ ⟨B1,X1,G1,P1⟩ (fun hZ=> ?_);clear hZ hK K;try simp only [Am9]
   refine Bc 6 (by kernel_rfl) rfl (fun K hK=> ?_);go_simp;have bi:=Blk.new v1 44 XS;have cr:=oL.alloc (.cells XS 44);have F2:Fr Non w4 (v1.alloc (.cells XS 44)):=F1.alloc _;obtain ⟨ga,a3⟩:=Aa v1.heap.size;rw [a3.out] at bi ⊢;generalize v1.alloc (.cells XS 44)=v2 at*;have B2:=B0.fr F2 zq;have X2:=X0.fr F2 zq;have G2:=F2.cell G0 zq;have P2:=F2.cell P0 zq;refine hK.out _ _ ⟨B2,X2,G2,P2⟩ (fun hZ=> ?_);clear hZ hK K;try simp only [Ab,List.set]
   refine Bc 7 (by kernel_rfl) rfl (fun K hK=> ?_);refine Dy (base:=w.heap.size+3) (.tmp 32) (.tmp 34) 24 rfl rfl rfl G9 cr (Rd.blk (n:=1) (size:=27) bi bc) bb (by omega) (by omega) (Am7 b8 F2.size) ?_;intro ar ay v3 bu cx aw;rw [hXL] at bu;have F3:Fr Non w4 v3:=F2.trans cx (fun k hk e=>by have h9:=a9 k e;omega);have B3:=B0.fr F3 zq;have X3:=X0.fr F3 zq;have G3:=F3.cell G0 zq;have P3:=F3.cell P0 zq;refine hK.out _ _ ⟨B3,X3,G3,P3⟩ (fun hZ=> ?_);clear hZ hK K;try simp only [Ab,List.set]
   refine tkG 8 ⟨B3,X3,G3,P3⟩ (h:=?_);simp only [List.set];have nz:=(af v3 F3).bn.frozen 1;refine Co (by kernel_rfl) ?_;refine oG 9 (fun K hK=> ?_);go_simp;have K5:=(af v3 F3).set 1 (.slice ar (N+1) ay);have b3:=Own.setFar (i:=1) bu (af v3 F3).bn (by decide) (.slice ar (N+1) ay);have da:=Own.setFar (i:=1) (bf.fr F3 zr) (af v3 F3).bn (by decide) (.slice ar (N+1) ay);have c8:=Own.setFar (i:=1) (ai.fr F3 zr) (af v3 F3).bn (by decide) (.slice ar (N+1) ay);refine hK.out _ _ trivial (fun hZ=> ?_);clear hZ hK K;try simp only [Ab,List.set]
   refine oD ?_;go_simp;go_wp2_with (fail);go_meet;exact ⟨rfl,ar,ay,K5,b3,da,c8⟩
  ·
   skip
   go_simp;have ag:=(Blk.new w4 44 XS).drew;have F1:Fr Non w4 (w4.alloc (.cells XS 44)).drew:=((Fr.refl Non w4).alloc _).drew;have co:=F1.size;obtain ⟨ga,a3⟩:=Aa w4.heap.size;have eg:w4.heap.size≤w4.heap.size:=An1 _;rw [a3.out] at ag ⊢;generalize (w4.alloc (.cells XS 44)).drew=v1 at*;have B1:=B0.fr F1 zq;have X1:=X0.fr F1 zq;have G1:=F1.cell G0 zq;have P1:=F1.cell P0 zq;refine hK.out _ _ ⟨B1,X1,G1,P1⟩ (fun hZ=> ?_);clear hZ hK K;try simp only [Ab,List.set]
   refine Bc 4 (by kernel_rfl) rfl (fun K hK=> ?_);refine Dy (base:=w.heap.size+3) (.tmp 29) (.tmp 31) 24 rfl rfl rfl G9 (Own.nil _ _ _ _) (dk.out.fr F1 zr) bl.out (by omega) (by omega) (Am7 b8 co) ?_;intro lA lC v2 oL fL aa;rw [Am9,An3] at oL;have F2:Fr Non w4 v2:=F1.trans (Gj fL) zr;have bi:=ag.fr (Gj fL) zq;have a9:∀k,Ac lA=some k→w4.heap.size≤k:=fun k hk=>by rcases aa with e|e;(rw [e] at hk;cases hk);(rw [e] at hk;injection hk with hk;omega)
   have B2:=B0.fr F2 zq;have X2:=X0.fr F2 zq;have G2:=F2.cell G0 zq;have P2:=F2.cell P0 zq;refine hK.out _ _ ⟨B2,X2,G2,P2⟩ (fun hZ=> ?_);clear hZ hK K;try simp only [Am9,Ab,List.set]
   refine Bc 7 (by kernel_rfl) rfl (fun K hK=> ?_);refine Dy (base:=w.heap.size+3) (.tmp 32) (.tmp 34) 24 rfl rfl rfl G9 oL (Rd.blk (n:=1) (size:=27) bi bc) bb (by omega) (by omega) (Am7 b8 F2.size) ?_;intro ar ay v3 bu cx aw;rw [hXL] at bu;have F3:Fr Non w4 v3:=F2.trans cx (fun k hk e=>by have h9:=a9 k e;omega);have B3:=B0.fr F3 zq;have X3:=X0.fr F3 zq;have G3:=F3.cell G0 zq;have P3:=F3.cell P0 zq;refine hK.out _ _ ⟨B3,X3,G3,P3⟩ (fun hZ=> ?_);clear hZ hK K;try simp only [Ab,List.set]
   refine tkG 8 ⟨B3,X3,G3,P3⟩ (h:=?_);simp only [List.set];have nz:=(af v3 F3).bn.frozen 1;refine Co (by kernel_rfl) ?_;refine oG 9 (fun K hK=> ?_);go_simp;have K5:=(af v3 F3).set 1 (.slice ar (N+1) ay);have b3:=Own.setFar (i:=1) bu (af v3 F3).bn (by decide) (.slice ar (N+1) ay);have da:=Own.setFar (i:=1) (bf.fr F3 zr) (af v3 F3).bn (by decide) (.slice ar (N+1) ay);have c8:=Own.setFar (i:=1) (ai.fr F3 zr) (af v3 F3).bn (by decide) (.slice ar (N+1) ay);refine hK.out _ _ trivial (fun hZ=> ?_);clear hZ hK K;try simp only [Ab,List.set]
   refine oD ?_;go_simp;go_wp2_with (fail);go_meet;exact ⟨rfl,ar,ay,K5,b3,da,c8⟩
 case rest=>
 obtain ⟨rfl,lA,lC,K5,oL,b1,bv⟩:=hcut;clear bf ai K4 dk b8 es ec bl dn;obtain ⟨w5,ei⟩:∃w5:World,w5=wc:=⟨_,rfl⟩;subst ei;have co:w.heap.size+3≤w5.heap.size:=by have h1:=K5.bn.lt;have h2:=K5.nb;omega
 have dm:=Lib.hid ((a8.out).fr K5.fr zr);go_upto_region 8 with (fail)
 have af:∀wz,Fr Non w5 wz→KA w wz nb CS XS zG #[.slice CA nc CC,.slice lA (N+1) lC,.slice none 0 0,.slice none 0 0,.slice none 0 0]:=fun wz hz=>K5.non hz;have B0:=K5.bg;have X0:=K5.bx;have G0:w5.cell? ⟨w.heap.size,2,none⟩=some (.slice IA N IC):=(K5.bg.cell 2).trans g2.out;have P0:w5.cell? ⟨nb,2,none⟩=some (.slice none 0 0):=K5.bn.cell 2;have F0:Fr Non w5 w5.drew:=(Fr.refl Non w5).drew;refine Cq (S:=fun w'=>Blk w' w.heap.size 29 CS∧Blk w' (w.heap.size+1) 44 XS∧w'.cell? ⟨w.heap.size,2,none⟩=some (.slice IA N IC)∧w'.cell? ⟨nb,2,none⟩=some (.slice none 0 0)) 10 (by kernel_rfl) ?_;refine tkG 0 ⟨B0,X0,G0,P0⟩ (h:=tkG 1 ⟨B0,X0,G0,P0⟩ (h:=tkG 2 ⟨B0,X0,G0,P0⟩ (h:=tkG 3 ⟨B0,X0,G0,P0⟩ (h:=tkG 5 ⟨B0,X0,G0,P0⟩ (h:=?_)))));simp only [List.set];refine Bc 4 (by kernel_rfl) rfl (fun K hK=> ?_);refine Dy (base:=w.heap.size+3) (.tmp 38) (.tmp 40) 25 rfl rfl rfl Cw (Own.nil _ _ _ _) (dm.out.fr F0 zr) b4.out (by omega) (by omega) co ?_;intro iA iC v1 oI fI aa;rw [Am9,An3] at oI;have F1:Fr Non w5 v1:=F0.trans (Gj fI) zr;have a9:∀k,Ac iA=some k→w5.heap.size≤k:=fun k hk=>by rcases aa with e|e;(rw [e] at hk;cases hk);(rw [e] at hk;injection hk with hk;have eo:w5.heap.size=k:=hk;omega)
 have B1:=B0.fr F1 zq;have X1:=X0.fr F1 zq;have G1:=F1.cell G0 zq;have P1:=F1.cell P0 zq;refine hK.out _ _ ⟨B1,X1,G1,P1⟩ (fun hZ=> ?_);clear hZ hK K;try simp only [Am9,Ab,List.set]
 refine Bc 6 (by kernel_rfl) rfl (fun K hK=> ?_);go_simp;go_wp2_with (go_at_call 13;(with_reducible refine (cn.out _ ((af v1 F1).fr)).mono ?_);rintro _ v2 ⟨rfl,f6⟩;have F2:=F1.trans f6 zr;have cl:=oI.fr f6 zr);have B2:=B0.fr F2 zq;have X2:=X0.fr F2 zq;have G2:=F2.cell G0 zq;have P2:=F2.cell P0 zq;refine hK.out _ _ ⟨B2,X2,G2,P2⟩ (fun hZ=> ?_);clear hZ hK K;try simp only [Ab,List.set]
 refine Bc 7 (by kernel_rfl) rfl (fun K hK=> ?_);go_simp;have ag:=Blk.new v2 36 NM.V;have dv:=cl.alloc (.cells NM.V 36);have F3:Fr Non w5 (v2.alloc (.cells NM.V 36)):=F2.alloc _;obtain ⟨ga,a3⟩:=Aa v2.heap.size;rw [a3.out] at ag ⊢;generalize v2.alloc (.cells NM.V 36)=v3 at*;have B3:=B0.fr F3 zq;have X3:=X0.fr F3 zq;have G3:=F3.cell G0 zq;have P3:=F3.cell P0 zq;refine hK.out _ _ ⟨B3,X3,G3,P3⟩ (fun hZ=> ?_);clear hZ hK K;try simp only [Ab,List.set]
 refine Bc 8 (by kernel_rfl) rfl (fun K hK=> ?_);refine Dy (base:=w.heap.size+3) (.tmp 41) (.tmp 44) 25 rfl rfl rfl Cw dv (Rd.blk (n:=1) (size:=3) ag rfl) (by simp [Value.oneCell']) (by omega) (by omega) (Am7 co F3.size) ?_;intro ao ak v4 dr ds c9;have F4:Fr Non w5 v4:=F3.trans ds (fun k hk e=>by have h9:=a9 k e;omega);have B4:=B0.fr F4 zq;have X4:=X0.fr F4 zq;have G4:=F4.cell G0 zq;have P4:=F4.cell P0 zq;refine hK.out _ _ ⟨B4,X4,G4,P4⟩ (fun hZ=> ?_);clear hZ hK K;try simp only [Ab,List.set]
 refine tkG 9 ⟨B4,X4,G4,P4⟩ (h:=?_);simp only [List.set];have nz:=(af v4 F4).bn.frozen 2;refine Co (by kernel_rfl) ?_;refine oG 10 (fun K hK=> ?_);go_simp;have K6:=(af v4 F4).set 2 (.slice ao (N+1) ak);have cm:=Own.setFar (i:=2) dr (af v4 F4).bn (by decide) (.slice ao (N+1) ak);have cj:=Own.setFar (i:=2) (oL.fr F4 zr) (af v4 F4).bn (by decide) (.slice ao (N+1) ak);have du:=Own.setFar (i:=2) (b1.fr F4 zr) (af v4 F4).bn (by decide) (.slice ao (N+1) ak);have d5:=Own.setFar (i:=2) (bv.fr F4 zr) (af v4 F4).bn (by decide) (.slice ao (N+1) ak);refine hK.out _ _ trivial (fun hZ=> ?_);clear hZ hK K;try simp only [Ab,List.set]
 refine oD ?_;go_simp;generalize v4.setCell ⟨nb,2,none⟩ (.slice ao (N+1) ak)=w6 at*;change KA w w6 nb CS XS zG #[.slice CA nc CC,.slice lA (N+1) lC,.slice ao (N+1) ak,.slice none 0 0,.slice none 0 0] at K6;clear af K5 oL b1 bv oI cl dv dr fI ds aa c9 a9 F0 F1 F2 F3 F4 B0 B1 B2 B3 B4 X0 X1 X2 X3 X4 G0 G1 G2 G3 G4 P0 P1 P2 P3 P4 f6 ag a3 nz dm b4 a8 cn;have b5:w.heap.size+3≤w6.heap.size:=by have h1:=K6.bn.lt;have h2:=K6.nb;omega
 have d2:=Lib.hid ((a6.out).fr K6.fr zr);have n3:w6.cell? ⟨nb,3,none⟩=some (.slice none 0 0):=K6.bn.cell 3;have d3:=(K6.bg.cell 3).trans g3.out
 go_upto_region 10 with (first
  |(at_builtin;go_loud (refine Az (base:=w.heap.size+3) (.tmp 48) (.tmp 50) 26 rfl rfl rfl rfl slIi (Own.nil _ _ _ _) d2.out b2.out (by omega) (by omega) b5 ?_);intro uA uC v1 oU fU aa;rw [Am9,An3] at oU;have F1:Fr Non w6 v1:=Gj fU;have a9:∀k,Ac uA=some k→w6.heap.size≤k:=(fun k hk=>by rcases aa with e|e;(rw [e] at hk;cases hk);(rw [e] at hk;injection hk with hk;omega));have ag:=Blk.new v1 22 #[.slice A1 M c1];have cg:=oU.alloc (.cells #[.slice A1 M c1] 22);have F2:Fr Non w6 (v1.alloc (.cells #[.slice A1 M c1] 22)):=F1.alloc _;clear aa fU)
  |(at_builtin;go_loud (refine Az (base:=w.heap.size+3) (.tmp 51) (.tmp 53) 26 rfl rfl rfl rfl slIi cg (Rd.blk (n:=1) (size:=1) ag rfl) (by simp [Value.oneCell']) (by omega) (by omega) (Am7 b5 F2.size) ?_);intro a1 a2 v2 dt dx aw;have F3:Fr Non w6 v2:=F2.trans dx (fun k hk e=>by have h9:=a9 k e;omega);have K7:=K6.non F3;have n3:v2.cell? ⟨nb,3,none⟩=some (.slice none 0 0):=K7.bn.cell 3;have z3:=K7.bn.frozen 3;clear aw a9 F2 F1 cg oU ag))
 have K8:=K7.set 3 (.slice a1 (N+1) a2)
 have R8:KR (w.heap.size+3) (v2.setCell ⟨nb,3,none⟩ (.slice a1 (N+1) a2)) lA (N+1) lC (LL++XL) ao (N+1) ak (IL++NM.cells) a1 (N+1) a2 (UL++[.slice A1 M c1]) A1 M c1 (UP.map Qv) A2 N c2 (Cs N PS):=
  ⟨Own.setFar (cj.fr F3 zr) K7.bn (by decide) _,Own.setFar (cm.fr F3 zr) K7.bn (by decide) _,Own.setFar dt K7.bn (by decide) _,Own.setFar (du.fr F3 zr) K7.bn (by decide) _,Own.setFar (d5.fr F3 zr) K7.bn (by decide) _⟩
 generalize v2.setCell ⟨nb,3,none⟩ (.slice a1 (N+1) a2)=w8 at*;change KA w w8 nb CS XS zG #[.slice CA nc CC,.slice lA (N+1) lC,.slice ao (N+1) ak,.slice a1 (N+1) a2,.slice none 0 0] at K8;clear K6 K7 cj cm dt du d5 n3 z3 d3 F3 dx d2 a6 b2 b5;have d6:∀k,Ac A2=some k→k<w8.heap.size:=fun k hk=>(R8.oB.row k hk).2;go_wp2_with (fail)
 go_loopw [10] (fun v wr=>∃(j:Nat) (nA:Option Addr) (nC:Nat) (ns:List InL),v=.int .i64 (j:Int)∧j≤N∧KA w wr nb CS XS zG #[.slice CA nc CC,.slice lA (N+1) lC,.slice ao (N+1) ak,.slice a1 (N+1) a2,.slice nA j nC]∧KR (w.heap.size+3) wr lA (N+1) lC (LL++XL) ao (N+1) ak (IL++NM.cells) a1 (N+1) a2 (UL++[.slice A1 M c1]) A1 M c1 (UP.map Qv) A2 N c2 (Cs N PS)∧
  Own wr (w.heap.size+3) 81 1 nA j nC (ns.map InL.cell)∧Hid (∀y∈ns,y.own wr base)∧Hid (ns.map InL.bs=(IR.take j).map (· ++[false]))∧w8.heap.size≤wr.heap.size∧Hid (∀y∈ns,∀k,Ac y.A=some k→w8.heap.size≤k)) (fun v _=>N-(intOf v).toNat)
 case atStart=>exact ⟨0,none,0,[],rfl,by omega,K8,R8,Own.nil _ _ _ _,fun y hy=>absurd hy Ao7,rfl,An1 _,fun y hy=>absurd hy Ao7⟩
 case round=>
  obtain ⟨j,nA,nC,ns,rfl,hj,K,R,oN,cb,ck,e1,cf⟩:=hrel;clear K8 R8;have d4:=(K.bg.cell 4).trans g4.out;have dy:w.heap.size+3≤wr.heap.size:=by have h1:=K.bn.lt;have h2:=K.nb;omega
  have di:=oN.row
  by_cases hlt:j<N
  ·
   have j1:(0:Int)≤j:=by omega
   have j2:(j:Int)<N:=by omega
   have j3:(j:Int).toNat=j:=by omega
   obtain ⟨n,hn⟩:∃n,l[j]? =some n:=⟨_,An2 (by rw [hN.out];exact hlt)⟩;obtain ⟨y,b,de,cu,d1,rfl,ey,cy⟩:=a4.out j n hn;have c4:y.bs.length=N:=by rw [cu,Gh]
   have au:Hid ((y.bs++[false]).length=N+1):=by show _=_;rw [An4,c4];rfl
   have dw:y.cell=.slice y.A N y.c:=Lu (bs:=y.bs) c4;rw [dw] at cy;have ew:=K.fr.cell cy zq;have be:Rd w w.heap.size 1 y.A y.bs.length (y.bs.map Value.bool):=d1.sl.rd;rw [c4] at be;have d7:=Lib.hid (be.fr K.fr zr);have b7:=Lib.hid (b0.out y)
   have ct:Hid ((IR.take (j+1)).map (· ++[false])=(IR.take j).map (· ++[false])++[y.bs++[false]]):=by
    show _=_;rw [Dq (a5.out j n hn),Am6,cu];rfl
   have n4:wr.cell? ⟨nb,4,none⟩=some (.slice nA j nC):=K.bn.cell 4;clear hn cu d1 cy be dw a5 a4 ad;go_upto_region 15 with (at_builtin;go_loud (refine Az (base:=wr.heap.size) (.tmp 63) (.tmp 68) 81 rfl rfl rfl rfl Jd (Own.nil _ _ _ _) d7.out b7.out (by omega) (by omega) (An1 _) ?_);intro rA rC v0 oR fR aa;rw [Am9,An3] at oR;have F0:Fr Non wr v0:=Gj fR;have et:=oR.row;clear aa fR)
   have G0:v0.cell? ⟨nb,4,none⟩=some (.slice nA j nC):=F0.cell n4 zq;refine Cq (S:=fun w'=>w'.cell? ⟨nb,4,none⟩=some (.slice nA j nC)) 8 (by kernel_rfl) ?_;refine tkG 0 G0 (h:=tkG 1 G0 (h:=tkG 2 G0 (h:=?_)));simp only [List.set];refine Bc 3 (by kernel_rfl) rfl (fun K' hK=> ?_);go_simp;have ax:=(Blk.new v0 4 #[.bool false]).drew;have c7:=oR.alloc (.cells #[.bool false] 4);have F1:Fr Non wr (v0.alloc (.cells #[.bool false] 4)).drew:=(F0.alloc (.cells #[.bool false] 4)).drew;replace c7:Own (v0.alloc (.cells #[.bool false] 4)).drew wr.heap.size 4 1 rA N rC (y.bs.map Value.bool):=c7;obtain ⟨ga,a3⟩:=Aa v0.heap.size;rw [a3.out] at ax ⊢;generalize (v0.alloc (.cells #[.bool false] 4)).drew=v1 at*;have G1:=F1.cell n4 zq;refine hK.out _ _ G1 (fun hZ=> ?_);clear hZ hK K';try simp only [Ab,List.set]
   refine Bc 4 (by kernel_rfl) rfl (fun K' hK=> ?_);refine Dy (base:=wr.heap.size) (.tmp 72) (.tmp 73) 81 rfl rfl rfl Jd c7 (Rd.blk (n:=1) (size:=1) ax rfl) (by simp [Value.oneCell']) (by omega) (by omega) F1.size ?_;intro ae ah v2 b6 a7 aw;have F2:Fr Non wr v2:=F1.trans a7 (fun k hk e=>by have h9:=(et k e).1;omega);have G2:=F2.cell n4 zq;refine hK.out _ _ G2 (fun hZ=> ?_);clear hZ hK K';try simp only [Ab,List.set]
   refine Bc 5 (by kernel_rfl) rfl (fun K' hK=> ?_);go_simp;have az:=Blk.new v2 81 #[.slice ae (N+1) ah];have ed:=b6.alloc (.cells #[.slice ae (N+1) ah] 81);have F3:Fr Non wr (v2.alloc (.cells #[.slice ae (N+1) ah] 81)):=F2.alloc _;obtain ⟨gb,c0⟩:=Aa v2.heap.size;rw [c0.out] at az ⊢;generalize v2.alloc (.cells #[.slice ae (N+1) ah] 81)=v3 at*;have G3:=F3.cell n4 zq;refine hK.out _ _ G3 (fun hZ=> ?_);clear hZ hK K';try simp only [Ab,List.set]
   refine Bc 6 (by kernel_rfl) rfl (fun K' hK=> ?_);have cc:=oN.fr F3 zr;refine Dy (base:=w.heap.size+3) (.tmp 71) (.tmp 75) 27 rfl rfl rfl slBb cc (Rd.blk (n:=1) (size:=1) az rfl) (by simp [Value.oneCell']) (by omega) (by omega) (Am7 dy F3.size) ?_;intro ab ac v5 c6 ap df;have K5:=(K.non F3).over ap (fun k e=>(di k e).1) (fun e=>cc.ne (K.non F3).bn (by decide) e);have R5:=(R.non F3).grow cc ap;have dg:=Own.grow2 ed cc (by decide) ap;have a0:Hid (∀y∈ns,y.own v5 base):=fun y hy=>InL.own.grow (RowAt.non (cb.out y hy) F3:y.own _ base) cc ap;have G4:v5.cell? ⟨nb,4,none⟩=some (.slice nA j nC):=K5.bn.cell 4;have eh:=K5.bn.frozen 4;refine hK.out _ _ G4 (fun hZ=> ?_);clear hZ hK K';try simp only [Ab,List.set]
   refine tkG 7 G4 (h:=?_);simp only [List.set];refine Co (by kernel_rfl) ?_;refine oG 8 (fun K' hK=> ?_);go_simp;have K6:=K5.set 4 (.slice ab (j+1) ac);have R6:=R5.setFar (i:=4) K5.bn (.slice ab (j+1) ac);have db:=Own.setFar (i:=4) c6 K5.bn (by decide) (.slice ab (j+1) ac);have bt:=Own.setFar (i:=4) dg K5.bn (by decide) (.slice ab (j+1) ac);rw [Sm] at bt;have bk:=Sk (base:=base) bt (by omega) au.out;have aj:(InL.mk ae ah (y.bs++[false])).cell=.slice ae (N+1) ah:=Lu au.out
   have av:Hid (∀z∈ns++[(⟨ae,ah,y.bs++[false]⟩:InL)],z.own (v5.setCell ⟨nb,4,none⟩ (.slice ab (j+1) ac)) base):=by
    intro z hz
    rcases List.mem_append.1 hz with h1|h1
    · exact (a0.out z h1).setFar K5.bn _
    ·
     rw [An0] at h1;rw [h1];exact bk
   have bh:Hid ((ns++[(⟨ae,ah,y.bs++[false]⟩:InL)]).map InL.bs=(IR.take (j+1)).map (· ++[false])):=by
    show _=_;rw [Am6,ck.out,ct.out];rfl
   have b5:w8.heap.size≤(v5.setCell ⟨nb,4,none⟩ (.slice ab (j+1) ac)).heap.size:=by
    have h1:=F3.size;have h2:=ap.size;simp [World.setCell];omega
   have bw:Hid (∀z∈ns++[(⟨ae,ah,y.bs++[false]⟩:InL)],∀k,Ac z.A=some k→w8.heap.size≤k):=by
    intro z hz k hk
    rcases List.mem_append.1 hz with h1|h1
    · exact cf.out z h1 k hk
    ·
     rw [An0] at h1;rw [h1] at hk;have:=(b6.row k hk).1;omega
   refine hK.out _ _ trivial (fun hZ=> ?_);clear hZ hK K';try simp only [Ab,List.set]
   refine oD ?_;go_simp;go_wp2_with (fail);go_roundw
   case rel=>exact ⟨j+1,ab,ac,ns++[⟨ae,ah,y.bs++[false]⟩],by go_num,by omega,K6,R6,by rw [Am6,An6,An7,aj];exact db,av,bh,b5,bw⟩
   case measure=>simp [intOf];omega
  ·
   obtain rfl:j=N:=by omega
   have cq:ns.map InL.bs=IR.map (· ++[false]):=by
    have h1:=ck.out;rwa [An9 (by rw [bd.out];exact An1 _)] at h1
   have d9:Hid (Cs j PS=(Bo j PS).map Value.bool):=rfl;have el:(Bo j PS).length=j:=Gh _ _;have n4:wr.cell? ⟨nb,4,none⟩=some (.slice nA j nC):=K.bn.cell 4;have bo:(Tryz.prog.info? 29).map (·.size)=some 5:=Cc;clear a5 a4 ck bd b0;go_upto_region 16 with (fail)
   have F0:Fr Non wr wr:=Fr.refl _ _;have G0:=n4;refine Cq (S:=fun w'=>w'.cell? ⟨nb,4,none⟩=some (.slice nA j nC)) 8 (by kernel_rfl) ?_;refine tkG 0 G0 (h:=tkG 1 G0 (h:=tkG 2 G0 (h:=?_)));simp only [List.set];refine Bc 3 (by kernel_rfl) rfl (fun K' hK=> ?_);go_simp;have ax:=(Blk.new wr 4 #[.bool false]).drew;have F1:Fr Non wr (wr.alloc (.cells #[.bool false] 4)).drew:=(F0.alloc (.cells #[.bool false] 4)).drew;obtain ⟨ga,a3⟩:=Aa wr.heap.size;rw [a3.out] at ax ⊢;generalize (wr.alloc (.cells #[.bool false] 4)).drew=v1 at*;have G1:=F1.cell n4 zq;refine hK.out _ _ G1 (fun hZ=> ?_);clear hZ hK K';try simp only [Ab,List.set]
   refine Bc 4 (by kernel_rfl) rfl (fun K' hK=> ?_);have bj:=R.oB.fr F1 zr;refine Dy (base:=w.heap.size+3) (.tmp 80) (.tmp 81) 81 rfl rfl rfl Jd bj (Rd.blk (n:=1) (size:=1) ax rfl) (by simp [Value.oneCell']) (by omega) (by omega) (Am7 dy F1.size) ?_;intro ae ah v2 b6 a7 aw;have K2:=(K.non F1).over a7 (fun k e=>(R.oB.row k e).1) (fun e=>bj.ne (K.non F1).bn (by decide) e);have cr:=Own.grow2 (R.oL.fr F1 zr) bj (by decide) a7;have cl:=Own.grow2 (R.oI.fr F1 zr) bj (by decide) a7;have cg:=Own.grow2 (R.oU.fr F1 zr) bj (by decide) a7;have en:=Own.grow2 (R.oA.fr F1 zr) bj (by decide) a7;have em:=Own.grow2 (oN.fr F1 zr) bj (by decide) a7;have b9:Hid (∀y∈ns,y.own v2 base):=fun y hy=>RowAt.fr (RowAt.non (cb.out y hy) F1) a7 (fun _ k hk e=>by have h1:=cf.out y hy k hk;have h2:=d6 k e;omega);rw [d9.out] at b6;have G2:v2.cell? ⟨nb,4,none⟩=some (.slice nA j nC):=K2.bn.cell 4;refine hK.out _ _ G2 (fun hZ=> ?_);clear hZ hK K';try simp only [Ab,List.set]
   refine Bc 5 (by kernel_rfl) rfl (fun K' hK=> ?_);go_simp;have az:=Blk.new v2 81 #[.slice ae (j+1) ah];have F3:Fr Non v2 (v2.alloc (.cells #[.slice ae (j+1) ah] 81)):=(Fr.refl _ _).alloc _;obtain ⟨gb,c0⟩:=Aa v2.heap.size;rw [c0.out] at az ⊢;generalize v2.alloc (.cells #[.slice ae (j+1) ah] 81)=v3 at*;have K3:=K2.non F3;have ba:=em.fr F3 zr;have G3:v3.cell? ⟨nb,4,none⟩=some (.slice nA j nC):=K3.bn.cell 4;have ef:w.heap.size+3≤v3.heap.size:=by have h1:=K3.bn.lt;have h2:=K3.nb;omega
   refine hK.out _ _ G3 (fun hZ=> ?_);clear hZ hK K';try simp only [Ab,List.set]
   refine Bc 6 (by kernel_rfl) rfl (fun K' hK=> ?_);refine Dy (base:=w.heap.size+3) (.tmp 79) (.tmp 83) 27 rfl rfl rfl slBb ba (Rd.blk (n:=1) (size:=1) az rfl) (by simp [Value.oneCell']) (by omega) (by omega) ef ?_;intro ab ac v5 c6 ap df;have K5:=K3.over ap (fun k e=>(ba.row k e).1) (fun e=>ba.ne K3.bn (by decide) e);have dg:=Own.grow2 (b6.fr F3 zr) ba (by decide) ap;have b3:=Own.grow2 (cr.fr F3 zr) ba (by decide) ap;have er:=Own.grow2 (cl.fr F3 zr) ba (by decide) ap;have ee:=Own.grow2 (cg.fr F3 zr) ba (by decide) ap;have ev:=Own.grow2 (en.fr F3 zr) ba (by decide) ap;have a0:Hid (∀y∈ns,y.own v5 base):=fun y hy=>InL.own.grow (RowAt.non (b9.out y hy) F3:y.own _ base) ba ap;have G4:v5.cell? ⟨nb,4,none⟩=some (.slice nA j nC):=K5.bn.cell 4;have eh:=K5.bn.frozen 4;refine hK.out _ _ G4 (fun hZ=> ?_);clear hZ hK K';try simp only [Ab,List.set]
   refine tkG 7 G4 (h:=?_);simp only [List.set];refine Co (by kernel_rfl) ?_;refine oG 8 (fun K' hK=> ?_);go_simp;have K6:=K5.set 4 (.slice ab (j+1) ac);have db:=Own.setFar (i:=4) c6 K5.bn (by decide) (.slice ab (j+1) ac);have bt:=Own.setFar (i:=4) dg K5.bn (by decide) (.slice ab (j+1) ac);have cj:=Own.setFar (i:=4) b3 K5.bn (by decide) (.slice ab (j+1) ac);have cm:=Own.setFar (i:=4) er K5.bn (by decide) (.slice ab (j+1) ac);have ea:=Own.setFar (i:=4) ee K5.bn (by decide) (.slice ab (j+1) ac);have ek:=Own.setFar (i:=4) ev K5.bn (by decide) (.slice ab (j+1) ac);rw [Sm] at bt;have au:(Bo j PS++[false]).length=j+1:=by rw [An4,el];rfl
   have bk:=Sk (base:=base) bt (by omega) au;have aj:(InL.mk ae ah (Bo j PS++[false])).cell=.slice ae (j+1) ah:=Lu au
   have av:∀z∈ns++[(⟨ae,ah,Bo j PS++[false]⟩:InL)],z.own (v5.setCell ⟨nb,4,none⟩ (.slice ab (j+1) ac)) base:=by
    intro z hz
    rcases List.mem_append.1 hz with h1|h1
    · exact (a0.out z h1).setFar K5.bn _
    ·
     rw [An0] at h1;rw [h1];exact bk
   have bh:(ns++[(⟨ae,ah,Bo j PS++[false]⟩:InL)]).map InL.bs=IR.map (· ++[false])++[Bo j PS++[false]]:=by
    rw [Am6,cq];rfl
   have eu:Own (v5.setCell ⟨nb,4,none⟩ (.slice ab (j+1) ac)) (w.heap.size+3) 81 1 ab (j+1) ac ((ns++[(⟨ae,ah,Bo j PS++[false]⟩:InL)]).map InL.cell):=by
    rw [Am6,An6,An7,aj];exact db
   refine hK.out _ _ trivial (fun hZ=> ?_);clear hZ hK K';try simp only [Ab,List.set]
   refine oD ?_;go_simp;generalize v5.setCell ⟨nb,4,none⟩ (.slice ab (j+1) ac)=v6 at*;change KA w v6 nb CS XS zG #[.slice CA nc CC,.slice lA (j+1) lC,.slice ao (j+1) ak,.slice a1 (j+1) a2,.slice ab (j+1) ac] at K6;obtain ⟨RR,bm⟩:∃RR:Array Value,RR=#[.slice CA nc CC,.slice lA (j+1) lC,.slice ao (j+1) ak,.slice a1 (j+1) a2,.slice ab (j+1) ac]:=⟨_,rfl⟩;have dh:(Tryz.prog.info? 29).map (·.size)=some RR.size:=by rw [bm];exact bo
   have d8:RR.all (·.oneCell')=true:=by rw [bm];simp [Value.oneCell']
   have ep:(zG:Array Value).size=RR.size:=by rw [bm];rfl
   have cd:Hid (∀wz,Fr (One (w.heap.size+2)) v6 wz→POST (.returned (.tuple #[.agg RR,.int .i64 0])) wz):=by
    intro wz hz;have ce:∀(e:TypeId) (sz n c:Nat) (A:Option Addr) (xs:List Value),Own v6 (w.heap.size+3) e sz A n c xs→Own wz (w.heap.size+3) e sz A n c xs:=fun e sz n c A xs ho=>ho.fr hz (fun k hk e'=>by have h1:=(ho.row k hk).1;have e2:k=w.heap.size+2:=e';omega);rw [bm];refine ad.out lA ao a1 ab lC ak a2 ac _ wz (K6.fr.trans hz (fun k hk e'=>absurd hk (by have e2:k=w.heap.size+2:=e';omega))) (ce _ _ _ _ _ _ cj) (ce _ _ _ _ _ _ cm) (ce _ _ _ _ _ _ ea) (ce _ _ _ _ _ _ ek) (ce _ _ _ _ _ _ eu) ?_ bh;intro y hy;refine RowAt.keepT (av y hy) hz (fun k cs fr hk e'=> ?_);have e2:k=w.heap.size+2:=e';subst e2;have ej:v6.heap[w.heap.size+2]? =some (.cells zG 29 (0,0)):=K6.br;rw [ej] at hk;injection hk with hk
    injection hk with _ ht
    exact absurd ht (by decide)
   rw [← bm] at K6;have e4:=Aq (P:=Tryz.prog) nb 29 Tryz.underlying29 rfl (cs:=RR) dh;have eb:=Bf (P:=Tryz.prog) (w.heap.size+2) 29 dh (old:=zG) ep d8;have bz:=K6.bn;have bq:=K6.br;clear ad bm;go_wp2_with (fail);have dc:=bq.setRow (cs:=RR);have cp:=Lib.hid (cd.out _ ((Fr.refl (One (w.heap.size+2)) v6).setRow (g:=w.heap.size+2) (fun _=>rfl) RR))
   (try simp only [Exit.inBlock,Exit.then])
   refine E0 (t:=29) rfl rfl dc rfl Tryz.underlying29 dh rfl ?_;exact cp.out
end Oq
end
end Go.Proofs.YthpkjfliibdnjaaGreatDoor
