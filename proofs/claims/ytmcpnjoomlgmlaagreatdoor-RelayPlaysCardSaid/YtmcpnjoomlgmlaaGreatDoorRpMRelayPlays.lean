/- huddlelaw31.RelayPlays: whatever the input is, the law returns true: what each operation that comes is told, what is kept, what waits, and what is forwarded, is the document's (the tied card).
Condition: none. -/
import Derived.JoinedOf
import Derived.RowKitTokens
import Derived.LaidLaws
import Derived.Test.YtmcpnjoomlgmlaaGreatDoorTie
import Derived.Test.YtmcpnjoomlgmlaaGreatDoorCards
import Derived.SevenTiedAt
import Derived.Test.YtmcpnjoomlgmlaaGreatDoorRpM21
set_option maxRecDepth 100000
set_option maxHeartbeats 16000000
open Int renaming tmod_eq_emod_of_nonneg->A66
open List renaming length_map->A59,getElem?_map->A60,mem_of_getElem?->A61,getElem?_eq_getElem->A63,length->A64
open Nat renaming zero_le->A62,lt_of_lt_of_le->A65
open Go.Proofs.Tryz
open Go.Proofs.Tryz renaming prog->zp
open Go.Lib renaming hid->lh
open List renaming set->zl
open Go.Ending renaming returned->ze
namespace Go.Proofs.YtmcpnjoomlgmlaaGreatDoor
section
open Go.RowKit
attribute [local go_sem ↓] Go.wp_at_zero Go.wp_at_succ
namespace Oq
attribute [local go_sem] Bool.not_false Bool.not_true
attribute [local go_sem ↓] Gi Lk Bq Ly Vz
theorem A56 {s:BsL} {u:Value} (h:Option.map BsL.cell (some s)=some u):Value.slice s.A s.bs.length s.c=u:=Option.some.inj h
theorem relayPlays_law (A:Option Addr) (c:Nat) (l0:List Int) (A':Option Addr) (c':Nat) (l1:List Int) (A'':Option Addr) (c'':Nat) (l2:List Int) (w:World) (hk:KindsAt w) (hr:Rd w w.heap.size 1 A l0.length (l0.map Iv)) (hnc:l0.length<=c) (hnm:c<=9223372036854775807) (hok:∀x∈l0,I64 x) (hr':Rd w w.heap.size 1 A' l1.length (l1.map Iv)) (_hnc':l1.length<=c') (_hnm':c'<=9223372036854775807) (hok':∀x∈l1,I64 x) (hr'':Rd w w.heap.size 1 A'' l2.length (l2.map Iv)) (_hnc'':l2.length<=c'') (_hnm'':c''<=9223372036854775807) (hok'':∀x∈l2,I64 x):
  Calls zp 3 #[.slice A l0.length c,.slice A' l1.length c',.slice A'' l2.length c''] w (Ae true w):=by
 have cj:0<w.heap.size:=World.block_lt_of_cell? w _ (hk 0 (by decide));have km:=lh (Vi w.heap.size l0.length c A l0 w rfl hr (by omega) hok);unfold Jg at km;have bt:=fun (w':World) (hf:Fr Non w w')=>Ay4 w' (hk.fr hf);unfold Ae at bt;replace bt:=lh bt;have bl:Hid (∀wz,Fr Non w wz->Ae true w (.returned (.bool true)) wz):=fun wz h=>⟨rfl,h⟩;have dg:=lh (fun (w':World) (hf:Fr Non w w')=>hk.fr hf);generalize Ae true w=POST at*;have bb:=lh (fun (b:Nat) (r:FG) (v:World) (hf:Fr Non w v) (h:r.own v b) (hne:r.l≠[])=>Ay6 b w.heap.size l2.length c'' A'' l2 r v h hne rfl (hr''.fr hf zr) (by omega) hok'');unfold Ls at bb;obtain ⟨n1,bq⟩:=Ab l1.length;obtain ⟨n2,ce⟩:=Ab l2.length;rw [ce.out] at bb;have ad:=lh (fun (v:World) (hf:Fr Non w v)=>hr'.fr hf zr);rw [bq.out] at ad;rw [bq.out,ce.out];have ct:n1<=9223372036854775807:=by rw [<- bq.out];omega
 have ar:=lh hok';obtain ⟨n0,e9⟩:=Ab l0.length;rw [e9.out] at km ⊢;clear hk hr hnc hnm hok hr' hok' hr'' hok'' ce _hnc' _hnm' _hnc'' _hnm'';go_enter func3,ntmps3;go_upto_region 2 with (go_at_call 5;(with_reducible refine (km.out).mono ?_);rintro _ w1 ⟨r,rfl,f1,ro,bx,e3⟩;(have bn:=Blk.new w1 28 #[.slice none 0 0,.slice none 0 0,.slice none 0 0,.slice none 0 0]);(have cm:=Cf (P:=zp) w1.heap.size 28 (cs:=r.cells) Dg (old:=#[.slice none 0 0,.slice none 0 0,.slice none 0 0,.slice none 0 0]) rfl (Ic r)))
 have bg:Blk ((w1.alloc (.cells #[.slice none 0 0,.slice none 0 0,.slice none 0 0,.slice none 0 0] 28)).setRow w1.heap.size r.cells) w1.heap.size 28 r.cells:=bn.setRow;have fG:Fr Non w1 ((w1.alloc (.cells #[.slice none 0 0,.slice none 0 0,.slice none 0 0,.slice none 0 0] 28)).setRow w1.heap.size r.cells):=((Fr.refl Non w1).alloc _).setRow (fun hh=>absurd hh (by omega)) _;have f2:=f1.trans fG zr;have ah:=ro.non fG;obtain ⟨gv,en⟩:=Ab w1.heap.size;rw [en.out] at bg f2 ah ⊢;clear cm bn fG ro f1 km;generalize (w1.alloc (.cells #[.slice none 0 0,.slice none 0 0,.slice none 0 0,.slice none 0 0] 28)).setRow gv r.cells=w2 at*;have hl:=Be (P:=zp) gv 28 underlying28 rfl (cs:=r.cells) Dg;have di:r.l≠[]:=by rw [e3];exact O4 _ _
 have ac:=ah.rows;have a6:r.l.length<=14:=ah.num.few;have eb:0<r.l.length:=List.length_pos_iff.2 di;have al:0<w2.heap.size:=A65 cj f2.size;have d2:=lh (fun (B np cp:Nat) (Ap:Option Addr) (ps:List Nat) (v:World) (hv:Fr Non w2 v) (bv:Hid (ps.length=np)) (hrp:Rd v B 1 Ap np (ps.map Qv)) (hlt:Hid (∀p∈ps,p<r.l.length)) (cx:np<=1000000)=>Ay0 w.heap.size B np cp r Ap ps v (ah.non hv) bx bv hrp hlt.out cx (dg.out v (f2.trans hv zr)) (A65 al hv.size));unfold Lr at d2;have br:(zp.info? 52).map (·.size)=some 27:=by kernel_rfl
 obtain ⟨L,hL⟩:=Ab r.l.length;have b0:=lh (A50 ac);have c1:w2.cell? ⟨gv,1,none⟩=some (.slice r.lA L r.lC):=by have h9:=bg.cell 1;rw [show r.cells[1]? =some (.slice r.lA r.l.length r.lC) from rfl,hL.out] at h9;exact h9
 have cz:r.cards.length=4:=by rw [bx,It];rfl
 have c0:w2.cell? ⟨gv,0,none⟩=some (.slice r.cA 4 r.cC):=by have h9:=bg.cell 0;rw [show r.cells[0]? =some (.slice r.cA r.cards.length r.cC) from rfl,cz] at h9;exact h9
 have kn:Hid (Calls zp 6 #[.slice r.cA 4 r.cC] w2 (Gl r.cards w2)):=by
  have d3:=ah.cards.sl.rd;rw [cz,bx] at d3;rw [bx];exact Oz w2.heap.size 4 r.cC r.cA [1,2,2,3] w2 rfl (by decide) d3 al
 unfold Gl at kn;have dk:=a6;rw [hL.out] at a6 eb;clear cz d2;go_upto_region 3 with (go_at_call 6;(with_reducible refine (kn.out).mono ?_);rintro _ w3 ⟨ra,rfl,dx,bj,dt,f3⟩)
 obtain ⟨ab,c3⟩:=Ab ra.rb;rw [c3.out];go_upto_region 6 with (fail)
 have bw:Blk (w3.alloc (.cells #[.slice none 0 0,.slice none 0 0,.slice none 0 0] 34)) w3.heap.size 34 RT.zero.cells:=Blk.new w3 34 #[.slice none 0 0,.slice none 0 0,.slice none 0 0];have c8:Fr Non w3 (w3.alloc (.cells #[.slice none 0 0,.slice none 0 0,.slice none 0 0] 34)):=(Fr.refl Non w3).alloc _;have bp:PlS w2 (w3.alloc (.cells #[.slice none 0 0,.slice none 0 0,.slice none 0 0] 34)) w3.heap.size ab r ra RT.zero:=⟨dx.out.non c8,c3.out,dt.out,bw,RT.zero_own _ _,f3.trans c8 zr,f3.size⟩;obtain ⟨wb,de⟩:=Ab w3.heap.size;rw [de.out] at bp ⊢;clear bw c8 kn c0 dx f3 de;generalize w3.alloc (.cells #[.slice none 0 0,.slice none 0 0,.slice none 0 0] 34)=w4 at*
 have cy:Bi r.cards r.l RT.zero.K RT.zero.W ra.g.pns (ra.ws.map OpL.op):=by
  have h9:=bj.out;rw [show ra.g.pns=[] from congrArg Prod.fst h9,show ra.ws.map OpL.op=[] from congrArg Prod.snd h9];exact Bi.start ac
 have ak:r.l.length<200:=by omega
 have ai:Hid (∀n∈r.l,n.o.ok):=fun n hn=>(ah.ok n hn).1;have f4:=bp.fr;have dl:=f2.trans f4 zr;clear bj c3 dt
 go_upto_block 0 with (fail)
 go_cut [10] from 11 to 89 (fun _ wc=>∃(r1:Ag) (s:RT),Hid (PlS w2 wc wb ab r r1 s)/\Hid (Bi r.cards r.l s.K s.W r1.g.pns (r1.ws.map OpL.op)))
 case first=>
  clear bb bt bl;go_wp2_with fail
  go_loopw [10] (fun v wr=>∃(i:Nat) (r1:Ag) (s:RT),v=.int .i64 (i:Int)/\i<=n1/\i<=30/\Hid (PlS w2 wr wb ab r r1 s)/\Hid (Bi r.cards r.l s.K s.W r1.g.pns (r1.ws.map OpL.op))) (fun v _=>30-(intOf v).toNat)
  case atStart=>exact ⟨0,ra,RT.zero,rfl,A62 _,A62 _,bp,cy⟩
  case round=>
  clear bp cy f4 dl;obtain ⟨i,r1,s,rfl,hi,ed,hp,hs⟩:=hrel
  by_cases hin:i<n1/\i<30
  case neg=>
   have u0:(decide ((i:Int)<(n1:Int))=false/\decide (i<n1)=false)\/(decide ((i:Int)<(n1:Int))=true/\decide ((i:Int)<30)=false/\decide (i<n1)=true/\decide (i<30)=false):=by
    by_cases h1:i<n1
    · exact .inr ⟨decide_eq_true (by omega),decide_eq_false (by omega),decide_eq_true h1,decide_eq_false (fun h2=>hin ⟨h1,h2⟩)⟩
    · exact .inl ⟨decide_eq_false (by omega),decide_eq_false h1⟩
   clear ai b0 ad ar
   rcases u0 with ⟨u0,u1⟩|⟨u0,u1,u2,u3⟩
   all_goals
    go_wp2_with fail;go_meet;exact ⟨r1,s,hp,hs⟩
  case pos=>
  have u0:decide ((i:Int)<(n1:Int))=true:=decide_eq_true (by omega);have u1:decide ((i:Int)<30)=true:=decide_eq_true (by omega);have u2:decide (i<n1)=true:=decide_eq_true hin.1;have u3:decide (i<30)=true:=decide_eq_true hin.2;have f5:=hp.out.fr;have cd:=f2.trans f5 zr;obtain ⟨q,hq⟩:∃q,l1[i]? =some q:=⟨_,A63 (by rw [bq.out];exact hin.1)⟩;obtain ⟨cb,co,u,d9,_,hu,d0⟩:=(ad.out _ cd).at hin.1;rw [A60,hq] at hu;injection hu with hu
  subst hu;replace d0:cI wr cb (co+i) q:=d0;have aq:=ar.out q (A61 hq);have cg:=lh (fun (v:World)=>Pm q 100000 v aq.1 aq.2 (by omega) (by omega));obtain ⟨N,hN⟩:∃N:Nat,Ee q 100000=(N:Int):=⟨_,(Int.toNat_of_nonneg (Jp (n:=q) (m:=100000) (by omega)).1).symm⟩;have er:N<100000:=by have:=(Jp (n:=q) (m:=100000) (by omega)).2;omega
  rw [hN] at cg;obtain ⟨p,c7⟩:∃p:Nat,Hid (N%L=p):=⟨_,rfl⟩;have az:p<L:=by rw [<- c7.out];exact Nat.mod_lt _ (by omega)
  have q4:(N:Int).tmod (L:Int)=(p:Int):=by rw [A66 (by omega),<- c7.out];exact (Int.natCast_emod _ _).symm
  have q5:=iw (p:Int);have ew:¬(L:Int)=0:=by omega
  have ep:((L:Int)==0)=false:=beq_eq_false_iff_ne.2 (by omega);obtain ⟨D,hD⟩:∃D:Nat,Hid (N/20=D):=⟨_,rfl⟩;have q6:(N:Int).tdiv 20=(D:Int):=by rw [Int.tdiv_eq_ediv_of_nonneg (by omega),<- hD.out];rfl
  have e5:D<100000:=by rw [<- hD.out];omega
  have q7:=iw (D:Int);obtain ⟨E,hE⟩:∃E:Nat,Hid (D%6=E):=⟨_,rfl⟩;have ei:E<6:=by rw [<- hE.out];omega
  have q8:(D:Int).tmod 6=(E:Int):=by rw [A66 (by omega),<- hE.out];rfl
  have q9:=iw (E:Int);obtain ⟨ae,bc⟩:=Ab ((E:Int)==0);have qb:=bc.out;obtain ⟨i1,i2,i3⟩:=ix i n1
  have e6:=iw ((i:Int)+1);have ef:=f5.cell c1 zq;rw [d9] at*;clear c7 hD hE hN hq d9 bc;go_upto_region 12 with (go_at_call 7;(with_reducible refine (cg.out _).mono ?_);rintro _ _ ⟨rfl,rfl⟩)
  have d6:=hs.out.few;have dr:=hs.out.kl;have d1:=hs.out.wl;have kt:=lh (A43 w.heap.size w2.heap.size r s p ae wr (ah.non f5) hp.out.own f5.size dr d1 (by omega) (by rw [hL.out];exact az));unfold TakeTPost at kt;obtain ⟨EE,ch⟩:=Ab (C9 r.l s.st (p,ae)).1;obtain ⟨ST,cl⟩:=Ab (C9 r.l s.st (p,ae)).2;rw [ch.out,cl.out] at kt;have cr:=bg.fr f5 zq;have ci:=hp.out.blk;have cu:=Be (P:=zp) wb 34 underlying34 rfl (cs:=s.cells) Cl;clear d0 q4 q5 q6 q7 q8 q9 qb cg ew ep ei e5 er aq;go_upto_region 13 with (go_at_call 8;(with_reducible refine (kt.out).mono ?_);rintro _ w5 ⟨s',rfl,c9,d8,dh⟩;(have bn:=Blk.new w5 34 #[.slice none 0 0,.slice none 0 0,.slice none 0 0]);(have cm:=Cf (P:=zp) w5.heap.size 34 (cs:=s'.cells) Cl (old:=#[.slice none 0 0,.slice none 0 0,.slice none 0 0]) rfl (Hi s')))
  have d7:Blk ((w5.alloc (.cells #[.slice none 0 0,.slice none 0 0,.slice none 0 0] 34)).setRow w5.heap.size s'.cells) w5.heap.size 34 s'.cells:=bn.setRow;have b9:Fr Non w5 ((w5.alloc (.cells #[.slice none 0 0,.slice none 0 0,.slice none 0 0] 34)).setRow w5.heap.size s'.cells):=((Fr.refl Non w5).alloc _).setRow (fun hh=>absurd hh (by omega)) _;have dm:=dh.trans b9 zr;obtain ⟨nb,dw⟩:=Ab w5.heap.size;rw [dw.out] at d7 dm b9 ⊢;have df:=d8.non b9;have ag:=hp.out.non dm;clear cm bn kt cr ci cu dh b9 d8 dw;generalize (w5.alloc (.cells #[.slice none 0 0,.slice none 0 0,.slice none 0 0] 34)).setRow nb s'.cells=w6 at*;have e7:=ag.blk;have el:=Be (P:=zp) nb 34 underlying34 rfl (cs:=s'.cells) Cl;have ev:=Cf (P:=zp) wb 34 (cs:=s'.cells) Cl (old:=s.cells) rfl (Hi s');go_upto_region 14 with (fail)
  have ap:=ag.setR df;clear d7 el ev e7 df ag hp;generalize w6.setRow wb s'.cells=w7 at*;have aa:=hs.out.take b0.out ak (q:=(p,ae)) (by rw [hL.out];exact az);rw [show C9 r.l (s.K,s.W) (p,ae)=C9 r.l s.st (p,ae) from rfl,ch.out,cl.out] at aa;obtain ⟨n,y,yb,yo,hn,a3,a7,ao,be,aj⟩:=ah.place (p:=p) (by rw [hL.out];exact az);have bu:=Ge (P:=zp) y.cells yb (yo+p*27) underlying52 rfl br;have eu:∀w',RgAt w' yb (yo+p*27) y.cells.toList->(ldS 52 (.pointer (some ⟨yb,yo+p*27,none⟩))).run zp w'=.ok (.agg y.cells) w':=fun w' h=>bu w' h;have dv:y.s<2305843009213693950:=by have:=(b0.out n (A61 hn)).1;rw [<- a3] at this;exact this
  have bk:Hj y.op ae=opB r.l (p,ae):=by
   unfold Hj opB;rw [a3,show Bz r.l (p,ae).1=n.o from E1 hn]
  have ay:=A55 (l:=r.l) ai.out (q:=(p,ae)) (by rw [hL.out];exact az)
  have bm:(opB r.l (p,ae)).put.length<=500000:=by
   unfold opB;rw [show Bz r.l (p,ae).1=n.o from E1 hn]
   split
   · exact Ax9 ac hn _
   · exact Jh ac hn
  have f7:=ap.fr;have a2:=lh (fun (v:World) (hv:Fr Non w2 v)=>A53 y ae v (ao.non hv).at a7 dv);unfold NewB at a2;rw [bk] at a2;obtain ⟨ob,du⟩:=Ab (opB r.l (p,ae));rw [du.out] at a2 aa ay bm;obtain ⟨m,hm⟩:=Ab ob.put.length;rw [hm.out] at a2 bm;have kt:=lh (fun (A:Option Addr) (c:Nat) (v:World) (hv:Fr Non w7 v) (au:Rd v v.heap.size 1 A m (ob.put.map Bv))=>Lp w2.heap.size v.heap.size m c A r1 ob v (ap.rel.non hv) (dg.out v (f2.trans (f7.trans hv zr) zr)) hm au (by omega) ay);unfold TakeRPost at kt;rw [ap.rb_,ap.cards,show r1.st=(r1.g.pns,r1.ws.map OpL.op) from rfl,aa.1] at kt;have d4:=lh aa.2;have V0:=bg.fr f7 zq;have C0:w7.cell? ⟨gv,1,none⟩=some (.slice (some ⟨yb,yo,none⟩) L r.lC):=by rw [<- be];exact f7.cell c1 zq
  have R0:RgAt w7 yb (yo+p*27) y.cells.toList:=aj.fr f7 zq;have K0:cS w7 wb 0 s'.kA s'.K.length s'.kC:=ap.blk.cell 0;have W0:cS w7 wb 1 s'.wA s'.W.length s'.wC:=ap.blk.cell 1;have F0:Fr Non w7 w7.drew:=(Fr.refl Non w7).drew;have G0:Fr Non w2 w7.drew:=f7.drew;obtain ⟨p1,p2,p3⟩:=ix p L
  have fd:(EE !=EE)=false:=by simp
  have e4:((s'.W.length:Int) !=(s'.W.length:Int))=false:=by simp
  have ek:=hs.out.few;clear bu aa d6 dr d1 ch cl bk du ay ao dv a7 ef f5 cd;go_upto_region 14 with (fail)
  refine wp_region_held_drew (S:=fun w'=>Blk w' gv 28 r.cells/\cS w' gv 1 (some ⟨yb,yo,none⟩) L r.lC/\RgAt w' yb (yo+p*27) y.cells.toList/\cS w' wb 0 s'.kA s'.K.length s'.kC/\cS w' wb 1 s'.wA s'.W.length s'.wC) (by kernel_rfl) ⟨V0,C0,R0,K0,W0⟩ (fun uu=> ?_);refine tkN 0 7 uu (h:=tkN 9 1 uu (h:=?_));clear uu;refine oG 7 (fun K hK=> ?_);go_simp;go_wp2_with (go_at_call 10;(with_reducible refine (a2.out _ G0).mono ?_);rintro _ v1 ⟨A5,c5,rfl,bi,db⟩;have F1:=F0.trans db zr;have V1:=V0.fr F1 zq;have C1:=F1.cell C0 zq;have R1:=RgAt.fr (S:=Non) R0 F1 zq;obtain ⟨K1,W1⟩:=zk2 F1 K0 W0;have G1:=f7.trans F1 zr);refine hK.out _ _ ⟨V1,C1,R1,K1,W1⟩ (fun hZ=> ?_);clear hZ hK K;try simp only [Ah,zl]
  refine oG 8 (fun K hK=> ?_);go_simp;go_wp2_with (go_at_call 9;(with_reducible refine (kt.out _ _ _ F1 bi.rd).mono ?_);rintro _ v2 ⟨rfl,r2,cq,ba⟩);have G2:Fr Non w2 v2:=(ap.rel.non F1).below cq.out.fr G1 (Nat.le_refl _);have bh:=(ap.non F1).took cq.out
  have a8:Bi r.cards r.l s'.K s'.W r2.g.pns (r2.ws.map OpL.op):=by
   have h9:=d4.out;rw [<- c9.out,<- ba.out] at h9;exact h9
  have V2:=bg.fr G2 zq;have C2:v2.cell? ⟨gv,1,none⟩=some (.slice (some ⟨yb,yo,none⟩) L r.lC):=by rw [<- be];exact G2.cell c1 zq
  have R2:RgAt v2 yb (yo+p*27) y.cells.toList:=aj.fr G2 zq;have K2:cS v2 wb 0 s'.kA s'.K.length s'.kC:=bh.blk.cell 0;have W2:cS v2 wb 1 s'.wA s'.W.length s'.wC:=bh.blk.cell 1;have P2:=lh bh;have eo:=a8.few;have ec:r2.ws.length=s'.W.length:=by have h9:=congrArg A64 a8.ww;rwa [A59,A59] at h9
  have dj:Hid ((s'.K.map (Ar r.l)).length=s'.K.length):=by show _=_;rw [A59]
  have aw:Hid ((Ba (s'.K.map (Ar r.l))).length=s'.K.length):=by show _=_;rw [I7,A59]
  have dc:=lh (fun (v:World) (h:PlS w2 v wb ab r r2 s')=>O2 w2.heap.size r2 v h.rel);rw [bh.rb_,ec] at dc;have b8:=lh (fun (v:World) (h:PlS w2 v wb ab r r2 s')=>U9 w2.heap.size r2 v h.rel);unfold Ek at b8;rw [bh.rb_,a8.ids,aw.out] at b8;have b5:=lh (fun (v:World) (h:PlS w2 v wb ab r r2 s')=>A46 w.heap.size v.heap.size s'.K.length s'.kC r s'.kA s'.K v (ah.non h.fr) rfl h.own.kept.sl.rd a8.kl (by omega));unfold Ek at b5;rw [dj.out] at b5;have cw:=lh (fun (A:Option Addr) (c:Nat) (v:World) (au:Rd v v.heap.size 3 A s'.K.length ((s'.K.map (Ar r.l)).flatMap Id.cells))=>Q4 v.heap.size s'.K.length c A (s'.K.map (Ar r.l)) v dj au (by omega));unfold Qz at cw;have ck:=lh (fun (A A':Option Addr) (c c':Nat) (v:World) (h1:Rd v v.heap.size 3 A s'.K.length ((Ba (s'.K.map (Ar r.l))).flatMap Id.cells)) (h2:Rd v v.heap.size 3 A' s'.K.length ((Ba (s'.K.map (Ar r.l))).flatMap Id.cells))=>As2 v.heap.size s'.K.length c v.heap.size s'.K.length c' A A' _ _ v aw aw h1 h2 (by omega) true ⟨fun _=>rfl,fun _=>rfl⟩);unfold Ae at ck;clear kt a2 ba cq bi;refine hK.out _ _ ⟨V2,C2,R2,K2,W2⟩ (fun uu=> ?_);clear hK K;try simp only [Ah,zl]
  refine tkN 10 3 uu (h:=tkN 14 3 uu (h:=?_));clear uu;refine oG 13 (fun K hK=> ?_);go_simp;go_wp2_with (go_at_call 11;(with_reducible refine (dc.out _ P2.out).mono ?_);rintro _ v3 ⟨rfl,a5⟩;have V3:=V2.fr a5 zq;have C3:=a5.cell C2 zq;have R3:=R2.fr a5 zq;obtain ⟨K3,W3⟩:=zk2 a5 K2 W2;have P3:=lh (P2.out.non a5));refine hK.out _ _ ⟨V3,C3,R3,K3,W3⟩ (fun uu=> ?_);clear hK K;try simp only [Ah,zl]
  refine tkN 17 4 uu (h:=tkN 22 3 uu (h:=?_));clear uu;refine oG 21 (fun K hK=> ?_);go_simp;go_wp2_with (go_at_call 13;(with_reducible refine (b8.out _ P3.out).mono ?_);rintro _ v4 ⟨Aa,ca,rfl,oa,a1⟩;have V4:=V3.fr a1 zq;have C4:=a1.cell C3 zq;have R4:=R3.fr a1 zq;obtain ⟨K4,W4⟩:=zk2 a1 K3 W3;have P4:=lh (P3.out.non a1));refine hK.out _ _ ⟨V4,C4,R4,K4,W4⟩ (fun hZ=> ?_);clear hZ hK K;try simp only [Ah,zl]
  refine oG 25 (fun K hK=> ?_);go_simp;go_wp2_with (go_at_call 15;(with_reducible refine (b5.out _ P4.out).mono ?_);rintro _ v5 ⟨An,cn,rfl,on,ax⟩;have V5:=V4.fr ax zq;have C5:=ax.cell C4 zq;have R5:=R4.fr ax zq;obtain ⟨K5,W5⟩:=zk2 ax K4 W4;have P5:=lh (P4.out.non ax);have et:=oa.fr ax zr);refine hK.out _ _ ⟨V5,C5,R5,K5,W5⟩ (fun hZ=> ?_);clear hZ hK K;try simp only [Ah,zl]
  refine oG 26 (fun K hK=> ?_);go_simp;go_wp2_with (go_at_call 14;(with_reducible refine (cw.out _ _ _ on.rd).mono ?_);rintro _ v6 ⟨As,cs,rfl,os,a0⟩;have V6:=V5.fr a0 zq;have C6:=a0.cell C5 zq;have R6:=R5.fr a0 zq;obtain ⟨K6,W6⟩:=zk2 a0 K5 W5;have P6:=lh (P5.out.non a0);have ey:=et.fr a0 zr);refine hK.out _ _ ⟨V6,C6,R6,K6,W6⟩ (fun hZ=> ?_);clear hZ hK K;try simp only [Ah,zl]
  refine oG 27 (fun K hK=> ?_);go_simp;go_wp2_with (go_at_call 12;(with_reducible refine (ck.out _ _ _ _ _ ey.rd os.rd).mono ?_);rintro _ v7 ⟨rfl,a4⟩;have V7:=V6.fr a4 zq;have C7:=a4.cell C6 zq;have R7:=R6.fr a4 zq;obtain ⟨K7,W7⟩:=zk2 a4 K6 W6;have P7:=lh (P6.out.non a4));refine hK.out _ _ ⟨V7,C7,R7,K7,W7⟩ (fun uu=> ?_);clear hK K;try simp only [Ah,zl]
  refine tkN 28 2 uu (h:=?_);clear uu;refine oD ?_;go_simp;have e2:=P7;have e8:=lh a8;clear dc b8 b5 cw ck on oa os d4 hs;go_wp2_with fail;go_roundw
  case rel=>exact ⟨i+1,r2,s',by go_num,by omega,by omega,e2,e8⟩
  case measure=>simp [intOf];omega
 case rest=>
 obtain ⟨r1,s,hp,hs⟩:=hcut;clear bp cy f4 dl ad ar bq ct b0;have f5:=hp.out.fr;have cd:=f2.trans f5 zr;have cr:=bg.fr f5 zq;have ci:=hp.out.blk;generalize wc=w5 at*;go_upto_region 17 with (go_at_call 16;(with_reducible refine (bb.out _ r _ cd (ah.non f5) di).mono ?_);rintro _ w6 ⟨on,ys,ns,A6,c6,rfl,ea,ao,eg,bo,o6,f6⟩)
 have af:Hid (ns.length<=14):=by
  show _<=_;have h9:=bo.length_eq;rw [A59] at h9;have h8:=Fp ea.1 (ys:=List.range r.l.length) (fun q hq=>List.mem_range.2 (ao q hq));rw [List.length_range] at h8;omega
 obtain ⟨NS,b3⟩:=Ab ns.length;rw [b3.out] at o6 af ⊢;have ag:=hp.out.non f6;have d6:=hs.out.few
 have a9:r1.g.pns.length<=14:=by
  have h9:=congrArg A64 hs.out.ids;rw [A59,A59] at h9;omega
 have bz:=lh (fun (v:World) (hv:Fr Non w6 v)=>A17 w2.heap.size w6.heap.size NS c6 A6 r1 ns v (ag.rel.non hv) (by rw [ag.cards];exact hs.out.rm) a9 b3 (o6.rd.fr hv zr) (by have:=af.out;omega));unfold Lw at bz;rw [ag.rb_] at bz;have b6:=lh (fun (v:World) (hv:Fr Non w6 v)=>A49 w.heap.size w2.heap.size w6.heap.size NS c6 r s A6 ns v (ah.non (ag.fr.trans hv zr)) (ag.own.non hv) hs.out.kl (by omega) b3 (o6.rd.fr hv zr) (by have:=af.out;omega));unfold Lz at b6;have ds:Hid (∀ps:List Nat,ps.map (Ar r.l)=Fe r1.g.pns ns->(∀p∈ps,p<r.l.length)->(Fe r1.g.pns ns).map (fun x=>(Ec r1.g.pns x).put)=ps.map (fun p=>(Bz r.l p).put)):=fun ps h1 h2=>hs.out.op h1 h2;have dy:=hs.out.fors ns;rw [<- dy] at b6;have bf:=lh (fun (n:Pn) (i:Nat) (h:r.l[i]? =some n)=>Jh ac h);have F6:=ag.fr;clear bb ea ao eg bo dy hp cr ci hs a9;go_upto_region 18 with (go_at_call 17;(with_reducible refine (bz.out _ (Fr.refl _ _)).mono ?_);rintro _ w7 ⟨sl,Af,NF,cf,rfl,dz,oF,dq,dd,f7⟩)
 have ez:=bg.fr (F6.trans f7 zr) zq;have ej:=(ag.non f7).blk;have cu:=Be (P:=zp) wb 34 underlying34 rfl (cs:=s.cells) Cl;go_upto_region 19 with (go_at_call 18;(with_reducible refine (b6.out _ f7).mono ?_);rintro _ w8 ⟨ps,Ap,np,cp,rfl,d5,bv,az,cx,oP,f8⟩)
 have b1:=ds.out ps bv.out az.out;rw [<- dd.out] at b1
 have e0:np=NF:=by
  have h9:=congrArg A64 b1;rw [A59,A59,dz.out,d5.out] at h9;exact h9.symm
 subst e0;have e4:((np:Int) !=(np:Int))=false:=by simp
 have F8:=(F6.trans f7 zr).trans f8 zr;have ee:=oF.fr f8 zr;have e1:=dq.out.non f8;have c4:=lh b1;have dn:np<=14:=by omega
 clear bz b6 ds dd b1 bv o6 ag ez ej cu oF dq cx b3 af;go_wp2_with fail
 go_loopw [19] (fun v wr=>∃k:Nat,v=.int .i64 (k:Int)/\k<=np/\Fr Non w8 wr) (fun v _=>np-(intOf v).toNat)
 case atStart=>exact ⟨0,rfl,A62 _,Fr.refl _ _⟩
 case round=>
 obtain ⟨k,rfl,hk,hf⟩:=hrel;have b7:=F8.trans hf zr;have dp:=f2.trans b7 zr
 by_cases hin:k<np
 case neg=>
  obtain rfl:k=np:=by omega
  have t0:decide ((k:Int)<(k:Int))=false:=decide_eq_false (by omega);have fc:decide (k<k)=false:=decide_eq_false (by omega);go_wp2_with (go_at_call 21;(with_reducible refine (bt.out _ dp).mono ?_);rintro _ wA ⟨rfl,fA⟩;have hd:=lh (bl.out wA (dp.trans fA zr)));exact hd.out
 case pos=>
 have t0:decide ((k:Int)<(np:Int))=true:=decide_eq_true (by omega);have fc:decide (k<np)=true:=decide_eq_true hin;obtain ⟨p,b4⟩:∃p,ps[k]? =some p:=⟨_,A63 (by rw [d5.out];exact hin)⟩;have bd:=az.out p (A61 b4);obtain ⟨sx,b2⟩:∃sx,sl[k]? =some sx:=⟨_,A63 (by rw [dz.out];exact hin)⟩;obtain ⟨n,y,yb,yo,hn,a3,a7,ao,be,aj⟩:=ah.place (p:=p) bd
 have da:sx.bs=y.op.put:=by
  have h9:(sl.map BsL.bs)[k]? =(ps.map (fun p=>(Bz r.l p).put))[k]? :=by rw [c4.out]
  rw [A60,A60,b2,b4] at h9;have h8:=Option.some.inj h9;rw [a3,<- E1 hn];exact h8
 obtain ⟨pb,po,eh,d0⟩:=Qv.at (oP.fr hf zr).rd b4 hin;obtain ⟨fb,fo,u,fa,_,hu,g0⟩:=(ee.fr hf zr).rd.at hin;rw [A60,b2] at hu;rw [<- A56 hu] at g0;have av:=(e1.non hf) sx (A61 b2);obtain ⟨m,hm⟩:=Ab sx.bs.length;rw [hm.out] at g0 av;replace g0:cS wr fb (fo+k) sx.A m sx.c:=g0;have cv:Hid (y.op.put.length=m):=by show _=_;rw [<- da];exact hm.out
 have es:m<=500000:=by have h9:=bf.out n _ hn;rw [<- a3,cv.out] at h9;exact h9
 have au:=av.1.rd;rw [da] at au;have bu:=Ge (P:=zp) y.cells yb (yo+p*27) underlying52 rfl br;have eu:∀w',RgAt w' yb (yo+p*27) y.cells.toList->(ldS 52 (.pointer (some ⟨yb,yo+p*27,none⟩))).run zp w'=.ok (.agg y.cells) w':=fun w' h=>bu w' h;have cc:=lh (fun (v:World) (hv:Fr Non wr v)=>Hy y v (ao.non (b7.trans hv zr)).at a7);unfold NewB at cc;rw [cv.out] at cc;have c2:=lh (fun (A:Option Addr) (c:Nat) (v:World) (hv:Fr Non wr v) (h2:Rd v v.heap.size 1 A m (y.op.put.map Bv))=>A54 wr.heap.size v.heap.size m sx.c c sx.A A y.op.put v cv (au.fr hv zr) h2 (by omega));unfold Ae at c2;subst eh fa;rw [hL.out] at bd;have C0:wr.cell? ⟨gv,1,none⟩=some (.slice (some ⟨yb,yo,none⟩) L r.lC):=by rw [<- be];exact b7.cell c1 zq
 have R0:RgAt wr yb (yo+p*27) y.cells.toList:=aj.fr b7 zq;have D0:=d0;have B0:=g0;have F0:Fr Non wr wr.drew:=(Fr.refl Non wr).drew;have G0:Fr Non w8 wr.drew:=hf.drew;obtain ⟨i1,i2,i3⟩:=ix k np
 obtain ⟨p1,p2,p3⟩:=ix p L
 have e6:=iw ((k:Int)+1);clear bu hm av hu b2 b4 a3 a7 ao be aj hn da es bf;go_upto_region 24 with (fail)
 refine wp_region_held_drew (S:=fun w'=>cS w' gv 1 (some ⟨yb,yo,none⟩) L r.lC/\RgAt w' yb (yo+p*27) y.cells.toList/\cI w' pb (po+k) (p:Int)/\cS w' fb (fo+k) sx.A m sx.c) (by kernel_rfl) ⟨C0,R0,D0,B0⟩ (fun uu=> ?_);refine tkN 0 12 uu (h:=?_);clear uu;refine oG 12 (fun K hK=> ?_);go_simp;go_wp2_with (go_at_call 20;(with_reducible refine (cc.out _ F0).mono ?_);rintro _ v1 ⟨A5,c5,rfl,bi,db⟩;have F1:=F0.trans db zr;have C1:=F1.cell C0 zq;have R1:=RgAt.fr (S:=Non) R0 F1 zq;obtain ⟨D1,B1⟩:=zk2 F1 D0 B0;have G1:=hf.trans F1 zr);refine hK.out _ _ ⟨C1,R1,D1,B1⟩ (fun hZ=> ?_);clear hZ hK K;try simp only [Ah,zl]
 refine oG 13 (fun K hK=> ?_);go_simp;go_wp2_with (go_at_call 19;(with_reducible refine (c2.out _ _ _ F1 bi.rd).mono ?_);rintro _ v2 ⟨rfl,em⟩;have F2:=F1.trans em zr;have C2:=F2.cell C0 zq;have R2:=RgAt.fr (S:=Non) R0 F2 zq;obtain ⟨D2,B2⟩:=zk2 F2 D0 B0;have G2:=hf.trans F2 zr);refine hK.out _ _ ⟨C2,R2,D2,B2⟩ (fun uu=> ?_);clear hK K;try simp only [Ah,zl]
 refine tkN 14 1 uu (h:=?_);clear uu;refine oD ?_;go_simp;clear cc c2 bi au;go_wp2_with fail;go_roundw
 case rel=>exact ⟨k+1,by go_num,by omega,G2⟩
 case measure=>simp [intOf];omega
end Oq
end
section
open Go.ChangeShapes Go.WideShapes Go.ChangeAt Go.RowKit
theorem A57 (os:Os) (started:os.Started) (H:Type) (enc:TypeId × Value->H):
  ReturnsInHanded {} Tryz.checked os 3 .any (fun w args=>(Rows.relayPlaysSpec.pre enc zp f3 [] false w args/\laidMetH zp [("huddle/op.kinds",Rows.laid_huddle_op_kinds)] w)/\sizedMet enc zp f3 (OpenSpec.ofChange Rows.relayPlaysSpec) false w args)
   (Rows.relayPlaysSpec.post enc zp f3 false true false false):=by
 refine returnsInHanded_of_change_and (C:=Tryz.checked) (X:=fun w _=>laidMetH zp [("huddle/op.kinds",Rows.laid_huddle_op_kinds)] w) (fun _ _ _ hh h=>h.of_heap hh) Tryz.own started (by kernel_rfl) func3
  (ChangeSpec.witness_at (enc:=enc) (C:=Tryz.checked) (os:=os) (X:=fun w _=>laidMetH zp [("huddle/op.kinds",Rows.laid_huddle_op_kinds)] w) false (M9 os) #[.slice none 0 0,.slice none 0 0,.slice none 0 0] 8 rfl (by kernel_rfl) (by kernel_rfl) (by kernel_rfl) (by kernel_rfl) (by kernel_rfl) (Aa8 os _)) ?_
 intro W base args ds gs before hval0 hW _ _ hL _;have hk:=Aa7 hL;have hval:∀(j:Nat) t v,Tryz.f3.params[j]? =some t->args[j]? =some v->Value.okWide zp W .any base t v:=hval0;have hW':=hW;obtain ⟨p,q,hA0,hV,rfl,hfz,hnd⟩:=hW;have hA:DataW.TrodAll enc zp W 0 (fun _=>true) true Tryz.f3.params.toList args.toList ds p:=hA0;rw [params3] at hA hval;obtain ⟨v0,v1,v2,d0,d1,d2,p0,p1,p2,rfl,rfl,rfl,h0,h1,h2⟩:=trodAll_three hA;obtain ⟨A0,c0,l0,rfl,hlc0,hc0,hr0,hok0⟩:=Mj underlying22 underlying3 (by kernel_rfl) (hval 0 22 v0 rfl rfl) h0;obtain ⟨A1,c1,l1,rfl,hlc1,hc1,hr1,hok1⟩:=Mj underlying22 underlying3 (by kernel_rfl) (hval 1 22 v1 rfl rfl) h1;obtain ⟨A2,c2,l2,rfl,hlc2,hc2,hr2,hok2⟩:=Mj underlying22 underlying3 (by kernel_rfl) (hval 2 22 v2 rfl rfl) h2;refine (Oq.relayPlays_law A0 c0 l0 A1 c1 l1 A2 c2 l2 W hk hr0 hlc0 hc0 hok0 hr1 hlc1 hc1 hok1 hr2 hlc2 hc2 hok2).mono fun e W' ⟨he,hf⟩=> ?_;exact ⟨_,he,Wf Tryz.laidOut (by kernel_rfl) rfl (by kernel_rfl) underlying4 hW' ⟨rfl,rfl,rfl⟩ hf⟩
theorem A58:Rows.RelayPlaysSaid:=
 OpenClaim.holds_of_wide 3 f3 rfl rfl rfl rfl rfl rfl rfl ⟨rfl,rfl,rfl,rfl,rfl⟩ rfl rfl rfl rfl rfl (by kernel_rfl) func3 (by kernel_rfl)
  (of_decide_eq_true (by kernel_rfl)) (by unfold Func.isWrapper;rw [if_neg (by decide+kernel)];exact ⟨rfl,rfl⟩)
  (fun os started H enc _=>A57 os started H enc)
end
section
open Go
theorem relayPlays_card_holds:Rows.RelayPlaysCardSaid:=
 Claim7.holds_tied_plain_at .later [] [.data] true (true, "2f3a27bcf879e67f2274956c545ae7b3ec71a769b9649d691631f46795e5a69b") false
  A58 (fun _ h=>by cases h) (by kernel_rfl) (fun _ h=>by cases h) relayPlays_row_tie rfl ⟨rfl,rfl⟩ (by kernel_rfl) rfl
  (fun f fn hf hfn=>by
   obtain rfl:f=3:=Option.some.inj ((show zp.funcNamed "huddle/huddlelaw31.RelayPlays" =some 3 by kernel_rfl).symm.trans hf)|>.symm;obtain rfl:fn=f3:=(Option.some.inj (Tryz.func3.symm.trans hfn)).symm
   exact ⟨by kernel_rfl,fun j t ht=>by
    rw [params3] at ht
    have hm:t∈([22,22,22]:List TypeId):=by
     have h2:=Array.mem_of_getElem? ht;simpa using h2
    have hall:([22,22,22]:List TypeId).all (fun t=> !(zp.wantsStandIn t))=true:=by kernel_rfl
    have:=List.all_eq_true.1 hall t hm;exact (by simpa using this:zp.wantsStandIn t=false)⟩)
  (by kernel_rfl)
end
end Go.Proofs.YtmcpnjoomlgmlaaGreatDoor
