/-
  huddlelaw31.RelayRow: what is forwarded stands in the row, each behind its parents, and is what its bytes say.
    Conditions: op.kinds lies as its text lays it; the numbers read.
  RelayRow: whatever the input is, where the one listed variable is as its text lays it, the law returns true, and nothing that was there has turned.
    Condition: none.
  RelayRow: the tied card.
    Condition: none.
-/
import Derived.JoinedOf
import Derived.RowKitTokens
import Derived.LaidLaws
import Derived.Test.YtmcpnjoomlgmlaaGreatDoorTie
import Derived.Test.YtmcpnjoomlgmlaaGreatDoorCards
import Derived.SevenTiedAt
import Derived.Test.YtmcpnjoomlgmlaaGreatDoorRwM20
set_option maxRecDepth 100000
set_option maxHeartbeats 16000000
open List renaming mem_of_getElem?->Ax3,length_map->Ax5,getElem?_map->Ax8,getElem?_eq_getElem->Ax9,length_take->Ay0,getElem?_take_of_lt->Ay1,getElem?_inj->Ay2,append_assoc->Ay4,flatMap_append->Ay5
open Nat renaming le_trans->Ax4,zero_le->Ax6,lt_of_lt_of_le->Ay3
open Go.World renaming size_alloc->Ax7
open Go.Proofs.Tryz
open Go.Proofs.Tryz renaming prog->zp
open Go.Lib renaming hid->lh
open List renaming set->zl
open Go.Ending renaming returned->ze
namespace Go.Proofs.YtmcpnjoomlgmlaaGreatDoor
section
open Go.RowKit
attribute [local go_sem ↓] Go.wp_at_zero Go.wp_at_succ
namespace Oq
attribute [local go_sem] Bool.not_false Bool.not_true
attribute [local go_sem ↓] Hm Kk Bo Di
theorem Aw8 {s:BsL} {u:Value} (h:Option.map BsL.cell (some s)=some u):Value.slice s.A s.bs.length s.c=u:=Option.some.inj h
theorem Aw9 {cards:List Cd} {l:List Pn} {r:Ai} {ps:List Nat} (h:Rows cards l) (hl:l.length<=14) (hst:r.st=Cy cards l ps ([],[])) (hps:∀p∈ps,p<l.length) (hall:∀p,p<l.length->p∈ps):Ce cards l r.g.pns []:=by
 obtain ⟨_,h2⟩:=Ao1 h (by omega) hps hall;rw [<- hst] at h2;exact h2
theorem Ax0 {cards:List Cd} {m:List Pn} (hm:Rows cards m) {has:List Id} {k:Nat} {x:Id} (hx:(Bz m has)[k]? =some x):
  ∃(i:Nat) (n:Pn),plc m x=some i/\m[i]? =some n/\Eu m x=n.o/\n.o.name=x/\Bf (has++(Bz m has).take k) x=false/\(∀id∈n.o.past,Bf (has++(Bz m has).take k) id=true)/\(∀y,0<k->(Bz m has)[k-1]? =some y->Ct m y x=true):=by
 obtain ⟨hm1,hm2⟩:=forIds_mem.1 (Ax3 hx);obtain ⟨i,hi⟩:=Option.isSome_iff_exists.1 (hm.placed hm1);obtain ⟨n,hn,e⟩:=Bp hi;refine ⟨i,n,hi,hn,Uk hi hn,by rw [<- (hm.ok i n hn).id,e],?_,?_,?_⟩
 ·
  rw [Bool.eq_false_iff];intro h;rw [Fb,List.mem_append] at h
  rcases h with h|h
  · exact hm2 h
  ·
   obtain ⟨j,hj⟩:=List.getElem?_of_mem h
   have hjk:j<k:=by
    have:=(List.getElem?_eq_some_iff.1 hj).1;rw [Ay0] at this;omega
   rw [Ay1 hjk] at hj;have h1:=(T9 hm has);have:=(Ay2 (List.getElem?_eq_some_iff.1 hj).1 h1).1 (hj.trans hx.symm);omega
 ·
  intro id hid;rw [Fb,List.mem_append]
  rcases At7 hm hx hi hn hid with h|⟨j,hj,h⟩
  · exact .inl h
  · exact .inr (Ax3 (by rw [Ay1 hj];exact h))
 ·
  intro y hk hy;have h1:=Ua m has;unfold RowK at h1;obtain ⟨a,ha⟩:=List.getElem?_eq_some_iff.1 hy;obtain ⟨b,hb⟩:=List.getElem?_eq_some_iff.1 hx;have h2:=List.pairwise_iff_getElem.1 h1 (k-1) k a b (by omega);rw [ha,hb] at h2
  rcases Hn m y x with h|h|h
  · exact h
  ·
   subst h;have:=(Ay2 a (T9 hm has)).1 (hy.trans hx.symm);omega
  ·
   rw [h2] at h
   cases h
theorem relayRow_law (A:Option Addr) (c:Nat) (l0:List Int) (A':Option Addr) (c':Nat) (l1:List Int) (w:World) (hk:KindsAt w) (hr:Rd w w.heap.size 1 A l0.length (l0.map Iv)) (hnc:l0.length<=c) (hnm:c<=9223372036854775807) (hok:∀x∈l0,I64 x) (hr':Rd w w.heap.size 1 A' l1.length (l1.map Iv)) (hnc':l1.length<=c') (hnm':c'<=9223372036854775807) (hok':∀x∈l1,I64 x):
  Calls zp 4 #[.slice A l0.length c,.slice A' l1.length c'] w (Ag true w):=by
 have dr:0<w.heap.size:=World.block_lt_of_cell? w _ (hk 0 (by decide));have km:=lh (T7 w.heap.size l0.length c A l0 w rfl hr (by omega) hok);unfold Ip at km;have cv:=fun (w':World) (hf:Fr Non w w')=>At2 w' (hk.fr hf);unfold Ag at cv;replace cv:=lh cv;have d0:Hid (∀wz,Fr Non w wz->Ag true w (.returned (.bool true)) wz):=fun wz h=>⟨rfl,h⟩;have gk:=lh (fun (w':World) (hf:Fr Non w w')=>hk.fr hf);generalize Ag true w=POST at*;have cw:=lh (fun (b:Nat) (r:FG) (v:World) (hf:Fr Non w v) (h:r.own v b) (hne:r.l≠[])=>At4 b w.heap.size l1.length c' A' l1 r v h hne rfl (hr'.fr hf zr) (by omega) hok');unfold Kq at cw;have bd:=lh (fun (r:FG) (v:World) (hv:Fr Non w v) (h:r.own v w.heap.size) (hne:r.l≠[])=>At6 w.heap.size w.heap.size 0 0 r none 3 [] v h hne ⟨by decide,by decide⟩ rfl (Rd.nil v _ _ _) (fun x hx=>absurd hx List.not_mem_nil));unfold Kr at bd;obtain ⟨n1,fc⟩:=Aa l1.length;rw [fc.out] at cw ⊢;obtain ⟨n0,fo⟩:=Aa l0.length;rw [fo.out] at km ⊢;clear hk hr hnc hnm hok hr' hok' hnc' hnm';go_enter func4,ntmps4;go_upto_region 2 with (go_at_call 5;(with_reducible refine (km.out).mono ?_);rintro _ w1 ⟨r,rfl,f1,ro,fy,fz⟩;(have bn:=Blk.new w1 28 #[.slice none 0 0,.slice none 0 0,.slice none 0 0,.slice none 0 0]);(have cb:=Ch (P:=zp) w1.heap.size 28 (cs:=r.cells) De (old:=#[.slice none 0 0,.slice none 0 0,.slice none 0 0,.slice none 0 0]) rfl (Ho r)))
 have bg:Blk ((w1.alloc (.cells #[.slice none 0 0,.slice none 0 0,.slice none 0 0,.slice none 0 0] 28)).setRow w1.heap.size r.cells) w1.heap.size 28 r.cells:=bn.setRow;have fG:Fr Non w1 ((w1.alloc (.cells #[.slice none 0 0,.slice none 0 0,.slice none 0 0,.slice none 0 0] 28)).setRow w1.heap.size r.cells):=((Fr.refl Non w1).alloc _).setRow (fun hh=>absurd hh (by omega)) _;have f2:=f1.trans fG zr;have a6:=ro.non fG;obtain ⟨gv,fp⟩:=Aa w1.heap.size;rw [fp.out] at bg f2 a6 ⊢;clear cb bn fG ro f1 km;generalize (w1.alloc (.cells #[.slice none 0 0,.slice none 0 0,.slice none 0 0,.slice none 0 0] 28)).setRow gv r.cells=w2 at*;have hl:=Bs (P:=zp) gv 28 underlying28 rfl (cs:=r.cells) De;have d8:r.l≠[]:=by rw [fz];exact N1 _ _
 have ax:=a6.rows;have ct:r.l.length<=14:=a6.num.few;have gl:0<r.l.length:=List.length_pos_iff.2 d8;have b9:0<w2.heap.size:=Ay3 dr f2.size;have db:=lh (fun (B np cp:Nat) (Ap:Option Addr) (ps:List Nat) (v:World) (hv:Fr Non w2 v) (hpn:Hid (ps.length=np)) (hrp:Rd v B 1 Ap np (ps.map Qv)) (hlt:Hid (∀p∈ps,p<r.l.length)) (hnp:np<=1000000)=>As8 w.heap.size B np cp r Ap ps v (a6.non hv) fy hpn hrp hlt.out hnp (gk.out v (f2.trans hv zr)) (Ay3 b9 hv.size));unfold Kp at db;have V0:=bg;have F0:Fr Non w2 w2.drew:=(Fr.refl Non w2).drew;have G0:Fr Non w w2.drew:=f2.drew;refine wp_region_held_drew (S:=fun w'=>Blk w' gv 28 r.cells) (by kernel_rfl) V0 (fun hHeld=> ?_);clear hHeld;refine tkH 0 V0 (h:=tkH 1 V0 (h:=?_));simp only [zl];refine oG 2 (fun K hK=> ?_);go_simp;go_wp2_with (go_at_call 23;(with_reducible refine (bd.out r _ G0 (a6.non F0) d8).mono ?_);rintro _ v1 ⟨ps,A4,n4,c4,rfl,eg,o4,a8,a5,fg,ed⟩;have F1:=F0.trans ed zr;have V1:=V0.fr F1 zq;have G1:=f2.trans F1 zr);refine hK.out _ _ V1 (fun hZ=> ?_);clear hZ hK K;try simp only [Ad,zl]
 refine oG 3 (fun K hK=> ?_);go_simp;go_wp2_with (go_at_call 22;(with_reducible refine (db.out _ n4 c4 A4 ps _ F1 eg o4.rd a8 (by omega)).mono ?_);rintro _ v2 ⟨ra,ba,rfl,fk,bb,es,en,ep⟩;have F2:=F1.trans ep zr;have V2:=V0.fr F2 zq;have G2:=f2.trans F2 zr);refine hK.out _ _ V2 (fun hZ=> ?_);clear hZ hK K;try simp only [Ad,zl]
 refine tkH 4 V2 (h:=?_);simp only [zl];refine oD ?_;go_simp;generalize v2=w3 at*;have f3:=F2;have em:=G2;have cz:=lh (Aw9 ax ct es.out a8.out a5.out);have eh:=V2;clear V0 V1 V2 F0 F1 F2 G0 G1 G2 ed ep o4 a8 a5 eg es bd fg;have e4:=a6.non f3
 have ay:Hid (ra.g.pns.length<=14):=by
  show _<=_;have e:=cz.out.perm.length_eq;rw [List.append_nil,Ax5,Ax5] at e;omega
 have dj:=lh (Ar7 ba ra w3 bb.out);have ce:=lh (fun (B n c:Nat) (A:Option Addr) (has:List Id) (v:World) (hv:Fr Non w3 v) (hn:Hid (has.length=n)) (hr:Rd v B 3 A n (has.flatMap Id.cells)) (hnm:n<=1000000)=>Aw6 ba B n c A ra has v (bb.out.non hv) (by rw [en.out];exact cz.out.rm) ay.out hn hr hnm);unfold Kw at ce;have kO:=lh (fun (x:Id) (v:World) (hv:Fr Non w3 v) (hx:x.ok)=>Ny (l:=ra.g.pns) x (bb.out.graph.fr hv) rfl rfl hx);unfold Io at kO;have kL:=lh (fun (x y:Id) (v:World) (hv:Fr Non w3 v) (hx:x.ok) (hy:y.ok)=>Aw2 ba ra.g x y v (bb.out.graph.fr hv) hx hy);unfold Ag at kL;have bw:Hid (∀x∈ra.g.pns.map Pn.id,x.ok):=Ul bb.out.graph;have cj:Hid (∀n∈ra.g.pns,n.o.ok):=Um bb.out.graph;have cx:Hid (Rows r.cards ra.g.pns):=cz.out.rm;obtain ⟨ab,cy⟩:=Aa ra.rb;obtain ⟨gb,ea⟩:=Aa ra.g.gb;rw [cy.out,ea.out] at dj;rw [cy.out] at ce;rw [ea.out] at kO kL;try rw [cy.out]
 obtain ⟨mm,ew⟩:=Aa ra.g.pns;rw [ew.out] at cx ce kO kL bw cj ay;clear bb en cz fk cy ea ew db;go_upto_region 6 with (go_at_call 24;(with_reducible refine (dj.out).mono ?_);rintro _ w4 ⟨rfl,f4⟩)
 have e5:=f4;have fu:=eh.fr f4 zq;have ef:=e4.non f4;have fs:=em.trans f4 zr;go_upto_region 7 with (go_at_call 16;(with_reducible refine (cw.out _ r _ fs ef d8).mono ?_);rintro _ w5 ⟨on,ys,ns,A5,c5,rfl,e0,ei,fd,cc,o5,f5⟩)
 have d5:=e5.trans f5 zr
 have aq:Hid (ns.length<=14):=by
  show _<=_;obtain ⟨_,m9,_,fn,_,du,_⟩:=Aw7 ax (by omega) e0 ei cc;rw [<- du];exact Ax4 (Bd.few fn).1 ct
 obtain ⟨NS,eb⟩:=Aa ns.length;rw [eb.out] at o5 aq ⊢;go_upto_region 8 with (go_at_call 17;(with_reducible refine (ce.out _ _ _ _ _ _ d5 eb o5.rd (by have:=aq.out;omega)).mono ?_);rintro _ w6 ⟨sl,Af,NF,cf,rfl,e3,oF,ff,c7,f6⟩)
 have er:=d5.trans f6 zr;have ge:=em.trans er zr;have gc:=o5.fr f6 zr;clear dj cw ce eh fu bg a6 e4 ef e0 ei fd cc f4 f5 f6 e5 d5 o5;go_upto_region 9 with (fail)
 have bl:=Blk.new w6 45 #[.int .i64 0,.int .i64 0,.int .u64 0];have d2:Fr Non w6 (w6.alloc (.cells #[.int .i64 0,.int .i64 0,.int .u64 0] 45)):=(Fr.refl Non w6).alloc _;have fh:w6.heap.size<(w6.alloc (.cells #[.int .i64 0,.int .i64 0,.int .u64 0] 45)).heap.size:=by rw [Ax7];omega
 obtain ⟨lb,cd⟩:=Aa w6.heap.size;rw [cd.out] at bl fh ⊢;generalize w6.alloc (.cells #[.int .i64 0,.int .i64 0,.int .u64 0] 45)=w7 at*;have ey:=(gc.fr d2 zr).rd;have gm:=aq.out;go_upto_region 10 with (at_builtin;go_loud (refine Au (base:=w7.heap.size) (.const (.slice none 0 0)) (.tmp 36) 25 rfl rfl rfl rfl C7 (Own.nil w7 w7.heap.size 45 3) ey (Id.cells_one _) (by omega) (by omega) (Nat.le_refl _) ?_);intro A8 c8 w8 b6 c3 d7)
 have fi:=d2.trans c3 (fun k hk e=>by cases e);have dn:w7.heap.size<=w8.heap.size:=c3.size;have a7:Own w8 w7.heap.size 45 3 A8 (NS+0) c8 ((ns++(Bz mm ns).take 0).flatMap Id.cells):=by rw [List.take_zero,List.append_nil,Nat.add_zero];rw [Nat.zero_add,List.nil_append] at b6;exact b6
 have e2:Blk w8 lb 45 Id.zero.V:=bl.fr c3 (fun e=>by cases e)
 have c2:Hid ((Bz mm ns).length=NF):=by
  show _=_;have e:=congrArg List.length c7.out;rw [Ax5,Ax5,e3.out] at e;exact e.symm
 have gg:NF<=14:=by
  rw [<- c2.out];unfold Bz;refine Ax4 (List.length_filter_le _ _) ?_;rw [(Gq _ _).length_eq,(Df _).length_eq,Ax5];exact ay.out
 have ee:=lh (fun (k:Nat) (x:Id) (h:(Bz mm ns)[k]? =some x)=>Ax0 cx.out h)
 have fa:=lh (fun (k:Nat) (x:Id) (h:(Bz mm ns)[k]? =some x)=>by
  have e:(sl.map BsL.bs)[k]? =((Bz mm ns).map (fun x=>(Eu mm x).put))[k]? :=by rw [c7.out]
  rw [Ax8,Ax8,h] at e;exact Option.map_eq_some_iff.1 e)
 have dv:=lh (fun (n:Pn) (i:Nat) (h:mm[i]? =some n)=>Ko cx.out h);have bv:=lh (fun (k:Nat) (x:Id) (h:(Bz mm ns)[k]? =some x)=>bw.out x (forIds_mem.1 (Ax3 h)).1);obtain ⟨FL,ev⟩:=Aa (Bz mm ns);rw [ev.out] at a7 c2 ee fa bv;have az:(zp.info? 52).map (·.size)=some 27:=by kernel_rfl
 clear b6 c3 d7 bl d2 ey c7 e3 cx bw ay ev ax;go_wp2_with fail
 go_loopw [11,12] (fun h v wr=>∃(k c:Nat) (A:Option Addr) (ad:Id),h=.slice A (NS+k) c/\v=.int .i64 (k:Int)/\k<=NF/\Own wr w7.heap.size 45 3 A (NS+k) c ((ns++FL.take k).flatMap Id.cells)/\Blk wr lb 45 ad.V/\Hid (0<k->FL[k-1]? =some ad)/\w7.heap.size<=wr.heap.size/\Fr Non w6 wr) (fun h v _=>NF-(intOf v).toNat)
 case atStart=>exact ⟨0,c8,A8,Id.zero,rfl,rfl,Ax6 _,a7,e2,fun h=>absurd h (by omega),dn,fi⟩
 case round=>
 clear a7 e2;obtain ⟨k,ch,Ah,ad,rfl,rfl,hk,own,bl,bf,gq,hf⟩:=hrel;have eu:=er.trans hf zr;have et:=ge.trans hf zr
 by_cases hin:k<NF
 case neg=>
  obtain rfl:k=NF:=by omega
  have t0:decide ((k:Int)<(k:Int))=false:=decide_eq_false (by omega);have f0:decide (k<k)=false:=decide_eq_false (by omega);go_wp2_with (go_at_call 21;(with_reducible refine (cv.out _ et).mono ?_);rintro _ wA ⟨rfl,fA⟩;have hd:=lh (d0.out wA (et.trans fA zr)));exact hd.out
 case pos=>
 have t0:decide ((k:Int)<(NF:Int))=true:=decide_eq_true (by omega);have f0:decide (k<NF)=true:=decide_eq_true hin;obtain ⟨x,hx⟩:∃x,FL[k]? =some x:=⟨_,Ax9 (by rw [c2.out];exact hin)⟩;obtain ⟨i,n,hi,hn,fj,hnm,fm,a3,c6⟩:=ee.out k x hx;obtain ⟨s,hs,a1⟩:=fa.out k x hx;rw [fj] at a1;have bu:=cj.out n (Ax3 hn);have e1:=bv.out k x hx;obtain ⟨bp,op,u,f7,_,hu,c1⟩:=(oF.fr hf zr).rd.at hin;subst f7;rw [Ax8,hs] at hu;rw [<- Aw8 hu] at c1;have b5:=(ff.out.non hf) s (Ax3 hs);obtain ⟨m6,dx⟩:=Aa s.bs.length;rw [dx.out] at c1 b5;replace c1:cS wr bp (op+k) s.A m6 s.c:=c1;have dc:Hid (n.o.put.length=m6):=by show _=_;rw [<- a1];exact dx.out
 have gp:m6<=500000:=by have h9:=dv.out n _ hn;rw [dc.out] at h9;exact h9
 have d4:=b5.1.rd;rw [a1] at d4
 have kg:Hid (Calls zp 25 #[.slice s.A m6 s.c] wr (fun e w'=>∃x:OpL,x.op=n.o/\e=.returned (.tuple #[.agg x.cells,.int .i64 0])/\x.own w' wr.heap.size/\Fr Non wr w')):=by
  have:=Qa wr.heap.size m6 s.c s.A n.o.put wr dc d4 (by omega);unfold Gi at this;rw [Oo bu.okR] at this;exact this
 obtain ⟨i1,i2,i3⟩:=ix k NF
 have e6:=iw ((k:Int)+1);clear dx dc b5 d4 hu hs a1;go_upto_region 14 with (go_at_call 25;(with_reducible refine (kg.out).mono ?_);rintro _ w9 ⟨y,cl,rfl,yo,f9⟩;(have bn:=Blk.new w9 52 zO);(have cb:=Ch (P:=zp) w9.heap.size 52 (cs:=y.cells) az (old:=zO) rfl (Ds y)))
 have bx:=bn.setRow (cs:=y.cells);have fx:Fr Non w9 ((w9.alloc (.cells zO 52)).setRow w9.heap.size y.cells):=((Fr.refl Non w9).alloc _).setRow (fun hh=>absurd hh (by omega)) _;have b0:=f9.trans fx zr;have br:=(yo.lower (Ax6 _)).non fx;have gj:wr.heap.size<=w9.heap.size:=f9.size;clear kg cb bn fx f9 yo;generalize (w9.alloc (.cells zO 52)).setRow w9.heap.size y.cells=w10 at*;obtain ⟨ob,ca⟩:=Aa w9.heap.size;rw [ca.out] at bx gj ⊢;clear ca;have c0:y.op.ok:=by rw [cl];exact bu
 have lx:=Bs (P:=zp) ob 52 underlying52 rfl (cs:=y.cells) az;have eo:=lh (fun (v:World) (h:Fr Non w10 v)=>Nw y x (by rw [cl];exact hnm) v (br.non h).at c0);go_upto_region 15 with (go_at_call 26;(with_reducible refine (eo.out _ (Fr.refl _ _)).mono ?_);rintro _ cr ⟨rfl,d6⟩)
 have bi:=Blk.new cr 45 x.V;have ak:Fr Non w10 (cr.alloc (.cells x.V 45)):=d6.alloc _;obtain ⟨ib,ec⟩:=Aa cr.heap.size;have dz:w10.heap.size<=cr.heap.size:=d6.size;rw [ec.out] at bi dz ⊢;generalize cr.alloc (.cells x.V 45)=w12 at*;have dh:=b0.trans ak zr;have ck:=bx.fr ak zq;have ci:=br.non ak;have i0:cI w12 ib 0 x.b:=bi.cell 0;have ft:cI w12 ib 1 x.s:=bi.cell 1;have fe:cU w12 ib 2 x.u:=bi.cell 2;have ek:=lh (kO.out x w12 (eu.trans dh zr) e1);clear eo d6 ak bx br ec;go_upto_region 16 with (go_at_call 27;(with_reducible refine (ek.out).mono ?_);rintro _ a2 ⟨y2,is,rfl,dp,ej,yl,e8⟩;(have bn:=Blk.new a2 52 zO);(have cb:=Ch (P:=zp) a2.heap.size 52 (cs:=y2.cells) az (old:=zO) rfl (Ds y2)))
 rw [hi] at dp;obtain rfl:true=is:=dp.out;have e7:y2.op=n.o:=ej.out i n hi hn;have bz:=bn.setRow (cs:=y2.cells);have fx:Fr Non a2 ((a2.alloc (.cells zO 52)).setRow a2.heap.size y2.cells):=((Fr.refl Non a2).alloc _).setRow (fun hh=>absurd hh (by omega)) _;have af:=e8.trans fx zr;have dg:=(yl.out.lower (Ax6 _)).non fx;have b8:=ci.non af;have dw:=ck.fr af zq;have b4:=bi.fr af zq;have ar:=bl.fr (dh.trans af zr) zq;clear cb bn fx e8 yl ci ck i0 ft fe ek dp ej bi;generalize (a2.alloc (.cells zO 52)).setRow a2.heap.size y2.cells=w14 at*;obtain ⟨sb,co⟩:=Aa a2.heap.size;rw [co.out] at bz ⊢;clear co;have be:=dh.trans af zr;have a4:=hf.trans be zr;have lz:=Bs (P:=zp) sb 52 underlying52 rfl (cs:=y2.cells) az;have ks:=lh (fun (v:World) (hv:Fr Non w14 v)=>Yr y y2 v (b8.non hv).at c0 (dg.non hv).at (by rw [e7];exact bu));rw [cl,e7,beq_self_eq_true] at ks;unfold Ag at ks;have da:=lh (fun (hl:ad.ok) (v:World) (hv:Fr Non w14 v)=>kL.out ad x v (eu.trans (be.trans hv zr) zr) hl e1);have au:=own.fr be zr;have dl:Hid ((ns++FL.take k).length=NS+k):=by show _=_;rw [List.length_append,eb.out,Ay0,c2.out];omega
 have kH:=lh (fun (id:Id) (v:World) (hv:Fr Non w14 v)=>Pe w14.heap.size (NS+k) ch Ah (ns++FL.take k) id v dl (au.rd.fr hv zr) (by omega));unfold Ag at kH;have cq:=lh (fun (v:World) (hv:Fr Non w14 v)=>kH.out x v hv);rw [fm] at cq;have ae:Hid (∀v,Fr Non w14 v->Blk v ob 52 y.cells/\Blk v sb 52 y2.cells/\cI v ib 0 x.b/\cI v ib 1 x.s/\cU v ib 2 x.u/\cI v lb 0 ad.b/\cI v lb 1 ad.s/\cU v lb 2 ad.u):=fun v hv=>⟨dw.fr hv zq,bz.fr hv zq,hv.cell (b4.cell 0) zq,hv.cell (b4.cell 1) zq,hv.cell (b4.cell 2) zq,hv.cell (ar.cell 0) zq,hv.cell (ar.cell 1) zq,hv.cell (ar.cell 2) zq⟩;have gn:((0:Int) !=0)=false:=by decide
 obtain ⟨bX,bZ,x0,x1,x2,ai,aj,al⟩:=ae.out w14 (Fr.refl _ _)
 rcases Nat.eq_zero_or_pos k with hk0|hk0
 ·
  have t2:decide ((k:Int)>0)=false:=decide_eq_false (by omega);have fq:decide (0<k)=false:=decide_eq_false (by omega);have fv:Hid (k=0):=hk0;clear hk0
  go_upto_region 18 with (first
   |(go_at_call 28;(with_reducible refine (ks.out _ (Fr.refl _ _)).mono ?_);rintro _ df ⟨rfl,ds⟩;have bh:=ds;clear bX bZ x0 x1 x2 ai aj al;obtain ⟨bX,bZ,x0,x1,x2,ai,aj,al⟩:=ae.out df bh)
   |(go_at_call 30;(with_reducible refine (cq.out _ bh).mono ?_);rintro _ b7 ⟨rfl,dt⟩;have cu:=bh.trans dt zr;clear bX bZ x0 x1 x2 ai aj al;obtain ⟨bX,bZ,x0,x1,x2,ai,aj,al⟩:=ae.out b7 cu))
  have aa:=cu;have bc:=a4.trans aa zr;obtain ⟨P,hP⟩:=Aa y.past.length
  have gf:P<=1000:=by
   have h9:=c0.past.1;rw [show y.op.past=y.past from rfl,hP.out] at h9;omega
  have dy:b7.cell? ⟨ob,4,none⟩=some (.slice y.pastA P y.pastC):=by rw [<- hP.out];exact bX.cell 4
  have bj:=((b8.non aa).at).past.1;rw [hP.out] at bj;have av:=lh (fun (j:Nat) (z:Id) (h:y.past[j]? =some z)=>a3 z (by rw [<- cl];exact Ax3 h));clear bX bZ x0 x1 x2 ai aj al ks da cq;go_wp2_with fail
  go_loopw [18] (fun v wr=>∃j:Nat,v=.int .i64 (j:Int)/\j<=P/\Fr Non b7 wr) (fun v _=>P-(intOf v).toNat)
  case atStart=>exact ⟨0,rfl,Ax6 _,Fr.refl _ _⟩
  case round=>
  obtain ⟨j,rfl,hj,ap⟩:=hrel;have g4:=ap.cell dy zq
  by_cases hjP:j<P
  case pos=>
   have u0:decide ((j:Int)<(P:Int))=true:=decide_eq_true (by omega);have dk:decide (j<P)=true:=decide_eq_true hjP;obtain ⟨z,hz⟩:∃z,y.past[j]? =some z:=⟨_,Ax9 (by rw [hP.out];exact hjP)⟩;have cn:=lh (kH.out z _ (aa.trans ap zr));rw [av.out j z hz] at cn;obtain ⟨bq,oq,cm,_,y0,y1,f8⟩:=Id.at (bj.fr ap zr) hz;rw [cm] at g4;obtain ⟨p1,p2,p3⟩:=ix j P
   have e9:=iw ((j:Int)+1);clear hz cm;go_wp2_with (go_at_call 30;(with_reducible refine (cn.out).mono ?_);rintro _ fw ⟨rfl,dd⟩);have bo:=ap.trans dd zr;go_roundw
   case rel=>exact ⟨j+1,by go_num,by omega,bo⟩
   case measure=>simp [intOf];omega
  case neg=>
  obtain rfl:j=P:=by omega
  have u0:decide ((j:Int)<(j:Int))=false:=decide_eq_false (by omega);have dk:decide (j<j)=false:=decide_eq_false (by omega);generalize wr=wS at*;have fb:=bc.trans ap zr;have ac:=aa.trans ap zr;obtain ⟨bX,bZ,x0,x1,x2,ai,aj,al⟩:=ae.out wS ac;have a9:=au.fr ac zr;have d1:=ar.fr ac zq;have dm:=hf.trans (be.trans ac zr) zr;have bF:=fun (v:World)=>Blk.new v 45 x.V;have d3:w7.heap.size<=wS.heap.size:=by have h2:=be.size;have h4:=ac.size;omega
  clear ae bX bZ kH kL kO bf av bj;go_upto_region 24 with (at_builtin;go_loud (refine Au (base:=w7.heap.size) (.tmp 103) (.tmp 105) 25 rfl rfl rfl rfl C7 (a9.alloc (.cells x.V 45)) (Rd.blk (n:=1) (size:=3) (bF wS) rfl) (by simp [Value.oneCell']) (by omega) (by omega) (by rw [Ax7];omega) ?_);intro A9 c9 w9 ag cg bt)
  have a0:=fun (q:Nat) (hq:Ac Ah=some q)=>own.row q hq;have ao:Fr (fun q=>Ac Ah=some q) wS w9:=(((Fr.refl (fun q=>Ac Ah=some q) wS).alloc (.cells x.V 45)).trans cg zr);have ah:¬Ac Ah=some ib:=fun e=>by have h1:=(a0 ib e).2;have h2:=b0.size;omega
  have bk:¬Ac Ah=some lb:=fun e=>by have h1:=(a0 lb e).1;omega
  have z0:=ao.cell x0 ah;have z1:=ao.cell x1 ah;have z2:=ao.cell x2 ah;have aw:=d1.fr ao bk;have fl:cI w9 lb 0 ad.b:=aw.cell 0;have ga:cI w9 lb 1 ad.s:=aw.cell 1;have gh:cU w9 lb 2 ad.u:=aw.cell 2;have m0:=aw.frozen 0;have b1:Blk (w9.setCell ⟨lb,0,none⟩ (.int .i64 x.b)) lb 45 #[.int .i64 x.b,.int .i64 ad.s,.int .u64 (ad.u:Int)]:=Blk.set aw 0 _;have m1:=b1.frozen 1;have b2:Blk ((w9.setCell ⟨lb,0,none⟩ (.int .i64 x.b)).setCell ⟨lb,1,none⟩ (.int .i64 x.s)) lb 45 #[.int .i64 x.b,.int .i64 x.s,.int .u64 (ad.u:Int)]:=Blk.set b1 1 _;have m2:=b2.frozen 2;have b3:Blk (((w9.setCell ⟨lb,0,none⟩ (.int .i64 x.b)).setCell ⟨lb,1,none⟩ (.int .i64 x.s)).setCell ⟨lb,2,none⟩ (.int .u64 (x.u:Int))) lb 45 x.V:=Blk.set b2 2 _;have fE:Fr (fun q=>q=lb) w9 (((w9.setCell ⟨lb,0,none⟩ (.int .i64 x.b)).setCell ⟨lb,1,none⟩ (.int .i64 x.s)).setCell ⟨lb,2,none⟩ (.int .u64 (x.u:Int))):=(((Fr.refl (fun q=>q=lb) w9).setCell (fun _=>rfl) _).setCell (fun _=>rfl) _).setCell (fun _=>rfl) _
  have bm:Own (((w9.setCell ⟨lb,0,none⟩ (.int .i64 x.b)).setCell ⟨lb,1,none⟩ (.int .i64 x.s)).setCell ⟨lb,2,none⟩ (.int .u64 (x.u:Int))) w7.heap.size 45 3 A9 (NS+(k+1)) c9 ((ns++FL.take (k+1)).flatMap Id.cells):=by
   rw [Dd hx,<- Ay4,Ay5];exact ag.fr fE (fun q hq e=>by have h1:=(ag.row q hq).1;omega)
  have de:Fr Non w6 (((w9.setCell ⟨lb,0,none⟩ (.int .i64 x.b)).setCell ⟨lb,1,none⟩ (.int .i64 x.s)).setCell ⟨lb,2,none⟩ (.int .u64 (x.u:Int))):=(dm.trans ao (fun q hq e=>by have h1:=(a0 q e).1;have h2:=cd.out;omega)).trans fE (fun q hq e=>by have h2:=cd.out;omega);have di:w7.heap.size<=(((w9.setCell ⟨lb,0,none⟩ (.int .i64 x.b)).setCell ⟨lb,1,none⟩ (.int .i64 x.s)).setCell ⟨lb,2,none⟩ (.int .u64 (x.u:Int))).heap.size:=Ax4 d3 (Ax4 ao.size fE.size);have dq:Hid (0<k+1->FL[k+1-1]? =some x):=fun _=>hx;clear ag cg bt fE a0;go_wp2_with fail;go_roundw
  case rel=>exact ⟨k+1,c9,A9,x,rfl,by go_num,by omega,bm,b3,dq,di,de⟩
  case measure=>simp [intOf];omega
 ·
  have t2:decide ((k:Int)>0)=true:=decide_eq_true (by omega);have fq:decide (0<k)=true:=decide_eq_true hk0;have ez:=bf.out hk0;have el:=lh (da.out (bv.out _ ad ez));rw [c6 ad hk0 ez] at el
  go_upto_region 18 with (first
   |(go_at_call 28;(with_reducible refine (ks.out _ (Fr.refl _ _)).mono ?_);rintro _ df ⟨rfl,ds⟩;have bh:=ds;clear bX bZ x0 x1 x2 ai aj al;obtain ⟨bX,bZ,x0,x1,x2,ai,aj,al⟩:=ae.out df bh)
   |(go_at_call 29;(with_reducible refine (el.out _ bh).mono ?_);rintro _ gd ⟨rfl,gi⟩;have d9:=bh.trans gi zr;clear bX bZ x0 x1 x2 ai aj al;obtain ⟨bX,bZ,x0,x1,x2,ai,aj,al⟩:=ae.out gd d9)
   |(go_at_call 30;(with_reducible refine (cq.out _ d9).mono ?_);rintro _ b7 ⟨rfl,dt⟩;have cu:=d9.trans dt zr;clear bX bZ x0 x1 x2 ai aj al;obtain ⟨bX,bZ,x0,x1,x2,ai,aj,al⟩:=ae.out b7 cu))
  have aa:=cu;have bc:=a4.trans aa zr;obtain ⟨P,hP⟩:=Aa y.past.length
  have gf:P<=1000:=by
   have h9:=c0.past.1;rw [show y.op.past=y.past from rfl,hP.out] at h9;omega
  have dy:b7.cell? ⟨ob,4,none⟩=some (.slice y.pastA P y.pastC):=by rw [<- hP.out];exact bX.cell 4
  have bj:=((b8.non aa).at).past.1;rw [hP.out] at bj;have av:=lh (fun (j:Nat) (z:Id) (h:y.past[j]? =some z)=>a3 z (by rw [<- cl];exact Ax3 h));clear bX bZ x0 x1 x2 ai aj al ks da cq;go_wp2_with fail
  go_loopw [18] (fun v wr=>∃j:Nat,v=.int .i64 (j:Int)/\j<=P/\Fr Non b7 wr) (fun v _=>P-(intOf v).toNat)
  case atStart=>exact ⟨0,rfl,Ax6 _,Fr.refl _ _⟩
  case round=>
  obtain ⟨j,rfl,hj,ap⟩:=hrel;have g4:=ap.cell dy zq
  by_cases hjP:j<P
  case pos=>
   have u0:decide ((j:Int)<(P:Int))=true:=decide_eq_true (by omega);have dk:decide (j<P)=true:=decide_eq_true hjP;obtain ⟨z,hz⟩:∃z,y.past[j]? =some z:=⟨_,Ax9 (by rw [hP.out];exact hjP)⟩;have cn:=lh (kH.out z _ (aa.trans ap zr));rw [av.out j z hz] at cn;obtain ⟨bq,oq,cm,_,y0,y1,f8⟩:=Id.at (bj.fr ap zr) hz;rw [cm] at g4;obtain ⟨p1,p2,p3⟩:=ix j P
   have e9:=iw ((j:Int)+1);clear hz cm;go_wp2_with (go_at_call 30;(with_reducible refine (cn.out).mono ?_);rintro _ fw ⟨rfl,dd⟩);have bo:=ap.trans dd zr;go_roundw
   case rel=>exact ⟨j+1,by go_num,by omega,bo⟩
   case measure=>simp [intOf];omega
  case neg=>
  obtain rfl:j=P:=by omega
  have u0:decide ((j:Int)<(j:Int))=false:=decide_eq_false (by omega);have dk:decide (j<j)=false:=decide_eq_false (by omega);generalize wr=wS at*;have fb:=bc.trans ap zr;have ac:=aa.trans ap zr;obtain ⟨bX,bZ,x0,x1,x2,ai,aj,al⟩:=ae.out wS ac;have a9:=au.fr ac zr;have d1:=ar.fr ac zq;have dm:=hf.trans (be.trans ac zr) zr;have bF:=fun (v:World)=>Blk.new v 45 x.V;have d3:w7.heap.size<=wS.heap.size:=by have h2:=be.size;have h4:=ac.size;omega
  clear ae bX bZ kH kL kO bf av bj;go_upto_region 24 with (at_builtin;go_loud (refine Au (base:=w7.heap.size) (.tmp 103) (.tmp 105) 25 rfl rfl rfl rfl C7 (a9.alloc (.cells x.V 45)) (Rd.blk (n:=1) (size:=3) (bF wS) rfl) (by simp [Value.oneCell']) (by omega) (by omega) (by rw [Ax7];omega) ?_);intro A9 c9 w9 ag cg bt)
  have a0:=fun (q:Nat) (hq:Ac Ah=some q)=>own.row q hq;have ao:Fr (fun q=>Ac Ah=some q) wS w9:=(((Fr.refl (fun q=>Ac Ah=some q) wS).alloc (.cells x.V 45)).trans cg zr);have ah:¬Ac Ah=some ib:=fun e=>by have h1:=(a0 ib e).2;have h2:=b0.size;omega
  have bk:¬Ac Ah=some lb:=fun e=>by have h1:=(a0 lb e).1;omega
  have z0:=ao.cell x0 ah;have z1:=ao.cell x1 ah;have z2:=ao.cell x2 ah;have aw:=d1.fr ao bk;have fl:cI w9 lb 0 ad.b:=aw.cell 0;have ga:cI w9 lb 1 ad.s:=aw.cell 1;have gh:cU w9 lb 2 ad.u:=aw.cell 2;have m0:=aw.frozen 0;have b1:Blk (w9.setCell ⟨lb,0,none⟩ (.int .i64 x.b)) lb 45 #[.int .i64 x.b,.int .i64 ad.s,.int .u64 (ad.u:Int)]:=Blk.set aw 0 _;have m1:=b1.frozen 1;have b2:Blk ((w9.setCell ⟨lb,0,none⟩ (.int .i64 x.b)).setCell ⟨lb,1,none⟩ (.int .i64 x.s)) lb 45 #[.int .i64 x.b,.int .i64 x.s,.int .u64 (ad.u:Int)]:=Blk.set b1 1 _;have m2:=b2.frozen 2;have b3:Blk (((w9.setCell ⟨lb,0,none⟩ (.int .i64 x.b)).setCell ⟨lb,1,none⟩ (.int .i64 x.s)).setCell ⟨lb,2,none⟩ (.int .u64 (x.u:Int))) lb 45 x.V:=Blk.set b2 2 _;have fE:Fr (fun q=>q=lb) w9 (((w9.setCell ⟨lb,0,none⟩ (.int .i64 x.b)).setCell ⟨lb,1,none⟩ (.int .i64 x.s)).setCell ⟨lb,2,none⟩ (.int .u64 (x.u:Int))):=(((Fr.refl (fun q=>q=lb) w9).setCell (fun _=>rfl) _).setCell (fun _=>rfl) _).setCell (fun _=>rfl) _
  have bm:Own (((w9.setCell ⟨lb,0,none⟩ (.int .i64 x.b)).setCell ⟨lb,1,none⟩ (.int .i64 x.s)).setCell ⟨lb,2,none⟩ (.int .u64 (x.u:Int))) w7.heap.size 45 3 A9 (NS+(k+1)) c9 ((ns++FL.take (k+1)).flatMap Id.cells):=by
   rw [Dd hx,<- Ay4,Ay5];exact ag.fr fE (fun q hq e=>by have h1:=(ag.row q hq).1;omega)
  have de:Fr Non w6 (((w9.setCell ⟨lb,0,none⟩ (.int .i64 x.b)).setCell ⟨lb,1,none⟩ (.int .i64 x.s)).setCell ⟨lb,2,none⟩ (.int .u64 (x.u:Int))):=(dm.trans ao (fun q hq e=>by have h1:=(a0 q e).1;have h2:=cd.out;omega)).trans fE (fun q hq e=>by have h2:=cd.out;omega);have di:w7.heap.size<=(((w9.setCell ⟨lb,0,none⟩ (.int .i64 x.b)).setCell ⟨lb,1,none⟩ (.int .i64 x.s)).setCell ⟨lb,2,none⟩ (.int .u64 (x.u:Int))).heap.size:=Ax4 d3 (Ax4 ao.size fE.size);have dq:Hid (0<k+1->FL[k+1-1]? =some x):=fun _=>hx;clear ag cg bt fE a0;go_wp2_with fail;go_roundw
  case rel=>exact ⟨k+1,c9,A9,x,rfl,by go_num,by omega,bm,b3,dq,di,de⟩
  case measure=>simp [intOf];omega
end Oq
end
section
open Go.ChangeShapes Go.WideShapes Go.ChangeAt Go.RowKit
theorem Ax1 (os:Os) (started:os.Started) (H:Type) (enc:TypeId × Value->H):
  ReturnsInHanded {} Tryz.checked os 4 .any (fun w args=>(Rows.relayRowSpec.pre enc zp f4 [] false w args/\laidMetH zp [("huddle/op.kinds",Rows.laid_huddle_op_kinds)] w)/\sizedMet enc zp f4 (OpenSpec.ofChange Rows.relayRowSpec) false w args)
   (Rows.relayRowSpec.post enc zp f4 false true false false):=by
 refine returnsInHanded_of_change_and (C:=Tryz.checked) (X:=fun w _=>laidMetH zp [("huddle/op.kinds",Rows.laid_huddle_op_kinds)] w) (fun _ _ _ hh h=>h.of_heap hh) Tryz.own started (by kernel_rfl) func4
  (ChangeSpec.witness_at (enc:=enc) (C:=Tryz.checked) (os:=os) (X:=fun w _=>laidMetH zp [("huddle/op.kinds",Rows.laid_huddle_op_kinds)] w) false (Ly os) #[.slice none 0 0,.slice none 0 0] 8 rfl (by kernel_rfl) (by kernel_rfl) (by kernel_rfl) (by kernel_rfl) (by kernel_rfl) (Yy os _)) ?_
 intro W base args ds gs before hval0 hW _ _ hL _;have hk:=Yx hL;have hval:∀(j:Nat) t v,Tryz.f4.params[j]? =some t->args[j]? =some v->Value.okWide zp W .any base t v:=hval0;have hW':=hW;obtain ⟨p,q,hA0,hV,rfl,hfz,hnd⟩:=hW;have hA:DataW.TrodAll enc zp W 0 (fun _=>true) true Tryz.f4.params.toList args.toList ds p:=hA0;rw [params4] at hA hval;obtain ⟨v0,v1,d0,d1,p0,p1,rfl,rfl,rfl,h0,h1⟩:=trodAll_two hA;obtain ⟨A0,c0,l0,rfl,hlc0,hc0,hr0,hok0⟩:=On underlying22 underlying3 (by kernel_rfl) (hval 0 22 v0 rfl rfl) h0;obtain ⟨A1,c1,l1,rfl,hlc1,hc1,hr1,hok1⟩:=On underlying22 underlying3 (by kernel_rfl) (hval 1 22 v1 rfl rfl) h1;refine (Oq.relayRow_law A0 c0 l0 A1 c1 l1 W hk hr0 hlc0 hc0 hok0 hr1 hlc1 hc1 hok1).mono fun e W' ⟨he,hf⟩=> ?_;exact ⟨_,he,Ur Tryz.laidOut (by kernel_rfl) rfl (by kernel_rfl) underlying4 hW' ⟨rfl,rfl,rfl⟩ hf⟩
theorem Ax2:Rows.RelayRowSaid:=
 OpenClaim.holds_of_wide 4 f4 rfl rfl rfl rfl rfl rfl rfl ⟨rfl,rfl,rfl,rfl,rfl⟩ rfl rfl rfl rfl rfl (by kernel_rfl) func4 (by kernel_rfl)
  (of_decide_eq_true (by kernel_rfl)) (by unfold Func.isWrapper;rw [if_neg (by decide+kernel)];exact ⟨rfl,rfl⟩)
  (fun os started H enc _=>Ax1 os started H enc)
end
section
open Go
theorem relayRow_card_holds:Rows.RelayRowCardSaid:=
 Claim7.holds_tied_plain_at .later [] [.data] true (true, "2f3a27bcf879e67f2274956c545ae7b3ec71a769b9649d691631f46795e5a69b") false
  Ax2 (fun _ h=>by cases h) (by kernel_rfl) (fun _ h=>by cases h) relayRow_row_tie rfl ⟨rfl,rfl⟩ (by kernel_rfl) rfl
  (fun f fn hf hfn=>by
   obtain rfl:f=4:=Option.some.inj ((show zp.funcNamed "huddle/huddlelaw31.RelayRow" =some 4 by kernel_rfl).symm.trans hf)|>.symm;obtain rfl:fn=f4:=(Option.some.inj (Tryz.func4.symm.trans hfn)).symm
   exact ⟨by kernel_rfl,fun j t ht=>by
    rw [params4] at ht
    have hm:t∈([22,22]:List TypeId):=by
     have h2:=Array.mem_of_getElem? ht;simpa using h2
    have hall:([22,22]:List TypeId).all (fun t=> !(zp.wantsStandIn t))=true:=by kernel_rfl
    have:=List.all_eq_true.1 hall t hm;exact (by simpa using this:zp.wantsStandIn t=false)⟩)
  (by kernel_rfl)
end
end Go.Proofs.YtmcpnjoomlgmlaaGreatDoor
