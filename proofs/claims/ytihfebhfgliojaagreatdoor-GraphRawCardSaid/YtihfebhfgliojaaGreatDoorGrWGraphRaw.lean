/-
  huddlelaw12.GraphRaw: of any operation, signed or not, the graph answers as the document does.
    Conditions: op.kinds lies as its text lays it; the numbers read.
  GraphRaw: whatever the input is, where the one listed variable is as its text lays it, the law returns true, and nothing that was there has turned.
    Condition: none.
  GraphRaw: the tied card.
    Condition: none.
-/
import Derived.JoinedOf
import Derived.RowKitTokens
import Derived.LaidLaws
import Derived.Test.YtihfebhfgliojaaGreatDoorTie
import Derived.Test.YtihfebhfgliojaaGreatDoorCards
import Derived.SevenTiedAt
import Derived.Test.YtihfebhfgliojaaGreatDoorGrW18
set_option maxRecDepth 100000
set_option maxHeartbeats 16000000
open Array renaming getElem?_append->An3,setIfInBounds_append_left->An5,getElem?_toList->An6
open List renaming length_map->An4
open Go.Proofs.Tryz
open Go.Proofs.Tryz renaming prog->zp
open Go.Lib renaming hid->lh
open List renaming set->zl
open Go.Ending renaming returned->ze
namespace Go.Proofs.YtihfebhfgliojaaGreatDoor
section
open Go.RowKit
attribute [local go_sem ↓] Go.wp_at_zero Go.wp_at_succ
namespace Oq
attribute [local go_sem ↓] Cg Ej
attribute [local go_sem] Bool.not_false Bool.not_true
attribute [local go_sem ↓] Et Lj Rh
theorem Am5 (x y:OpL) (w:World):(bsO 27 2 #[(0,.agg x.cells),(1,.agg y.cells)]).run zp w=.ok (.slice (some ⟨w.heap.size,0,none⟩) 2 2) (w.alloc (.cells (x.cells++y.cells) 44)):=by
 obtain ⟨ht,hinfo,_⟩:=Gc;obtain ⟨i,hi,hz,hs,_⟩:=info_parts hinfo;exact run_buildSlice w 27 44 2 _ _ i _ ht hi hz (by rw [hs];decide) (by rw [hs];decide) (by rw [hs];kernel_rfl)
theorem Am6 (x y:OpL) (R S:Nat):((x.cells++y.cells).setIfInBounds 25 (.int .u64 (R:Int))).setIfInBounds 26 (.int .u64 (S:Int))=({x with r:=R,s:=S}:OpL).cells++y.cells:=by
 have h0:25<x.cells.size:=by show 25<27;decide
 have h1:26<(x.cells.setIfInBounds 25 (.int .u64 (R:Int))).size:=by rw [Array.size_setIfInBounds];show 26<27;decide
 rw [An5 h0,An5 h1];rfl
theorem Am7 (p v:Value):Instr.storeAt 25 p v=stS 25 p v:=rfl
theorem Am8 (v:Value):Instr.loadAt 25 v=ldS 25 v:=rfl
theorem Am9 {cs:Array Value} {g:Nat} {t:TypeId} {w:World} {u0 u1:Value} (h:Blk w g t cs) (h0:cs[25]? =some u0) (h1:cs[26]? =some u1) (r s:Int):
  (stS 25 (.pointer (some ⟨g,25,none⟩)) (.agg #[.int .u64 r,.int .u64 s])).run zp w=.ok () ((w.setCell ⟨g,25,none⟩ (.int .u64 r)).setCell ⟨g,26,none⟩ (.int .u64 s)):=by
 have c0:=(h.cell 25).trans h0;have c1:=(h.cell 26).trans h1;have hz0:=h.frozen 25;have hz1:=h.frozen 26;unfold stS;go_simp
theorem Sh (x y:OpL):(x.cells++y.cells)[25]? =some (.int .u64 (x.r:Int))/\(x.cells++y.cells)[26]? =some (.int .u64 (x.s:Int)):=by
 have hx:x.cells.size=27:=rfl;constructor
 · rw [An3,if_pos (by omega)];rfl
 · rw [An3,if_pos (by omega)];rfl
attribute [local go_sem ↓] Am7 Am8
theorem An0 (x y:OpL) (i:Nat) (hi:i<2) {w:World} {g:Nat} {t:TypeId} (h:Blk w g t (x.cells++y.cells)):World.rangeAt w g (0+i*27) (if i=0 then x else y).cells.toList:=by
 intro k v hv;have hk:=(List.getElem?_eq_some_iff.1 hv).1;have hl:∀z:OpL,z.cells.toList.length=27:=fun _=>rfl;rw [hl] at hk;have hx:x.cells.size=27:=rfl;rw [h.cell,An3]
 rcases (by omega:i=0\/i=1) with rfl|rfl
 ·
  rw [if_pos (by omega)];rw [if_pos rfl,An6] at hv;rw [show 0+0*27+k=k by omega];exact hv
 ·
  rw [if_neg (by omega)];rw [if_neg (by omega),An6] at hv;rw [show 0+1*27+k-x.cells.size=k by omega];exact hv
theorem graphRaw_law (A:Option Addr) (c:Nat) (l0:List Int) (Ak:Option Addr) (ck:Nat) (lk:List Int) (R S:Nat) (w:World) (hk:KindsAt w)
  (hr:Rd w w.heap.size 1 A l0.length (l0.map Iv)) (hnc:l0.length<=c) (hnm:c<=9223372036854775807) (hok:∀x∈l0,I64 x)
  (hrk:Rd w w.heap.size 1 Ak lk.length (lk.map Iv)) (hkc:lk.length<=ck) (hkm:ck<=9223372036854775807) (hokk:∀x∈lk,I64 x) (hR:R<18446744073709551616) (hS:S<18446744073709551616):
  Calls zp 3 #[.slice A l0.length c,.slice Ak lk.length ck,.agg #[.int .u64 (R:Int),.int .u64 (S:Int)]] w (Ae true w):=by
 have hi:(zp.info? 44).map (·.size)=some OpL.zero.cells.size:=by rw [show OpL.zero.cells.size=27 from rfl];kernel_rfl
 have bp:0<w.heap.size:=World.block_lt_of_cell? w _ (hk 0 (by decide));have bj:=Blk.new w 25 #[.int .u64 (R:Int),.int .u64 (S:Int)];have bm:Fr Non w (w.alloc (.cells #[.int .u64 (R:Int),.int .u64 (S:Int)] 25)):=(Fr.refl Non w).alloc _;have km:=lh (Al0 w.heap.size l0.length c A l0 _ rfl (hr.fr bm zr) hnc hnm hok);have cd:=lh (fun (b:Nat) (r:RG) (w':World) (hf:Fr Non w w') (h:r.own w' b) (hcs:r.cards=Be 0 [1,2,3,1])=>H5 b r w' h hcs (Nat.lt_of_lt_of_le bp hf.size) (hk.fr hf));have a0:=lh (fun (w':World) (hf:Fr Non w w')=>Am4 w.heap.size lk.length ck Ak lk w' rfl (hrk.fr hf zr) hkc hkm hokk);unfold Hr at a0;have ai:=fun (w':World) (hf:Fr Non w w')=>Am0 w' (hk.fr hf);unfold Ae at ai;replace ai:=lh ai;have ah:Hid (∀wz,Fr Non w wz->Ae true w (.returned (.bool true)) wz):=fun wz h=>⟨rfl,h⟩;generalize Ae true w=POST at*;obtain ⟨nl,ci⟩:=Aa l0.length;rw [ci.out] at km ⊢;obtain ⟨nk,bs⟩:=Aa lk.length;rw [bs.out] at a0 ⊢;clear hr hnc hnm hok ci hrk hkc hkm hokk bs;obtain ⟨gs,ce⟩:=Aa w.heap.size;rw [ce.out] at bj;go_enter func3,ntmps3;go_upto_region 1 with (fail)
 try rw [ce.out]
 generalize w.alloc (.cells #[.int .u64 (R:Int),.int .u64 (S:Int)] 25)=w0 at*;go_upto_region 2 with (first|(go_at_call 12;(with_reducible refine (km.out).mono ?_);rintro _ w1 ⟨r,rfl,f1,ro,ba,_⟩;have bn:=Blk.new w1 32 zG;have da:=Ch (P:=zp) w1.heap.size 32 (cs:=r.cells) Cz (old:=zG) rfl (Ed r)))
 have bG:Blk ((w1.alloc (.cells zG 32)).setRow w1.heap.size r.cells) w1.heap.size 32 r.cells:=bn.setRow (cs:=r.cells);have fG:Fr Non w1 ((w1.alloc (.cells zG 32)).setRow w1.heap.size r.cells):=((Fr.refl Non w1).alloc _).setRow (fun hh=>absurd hh (by omega)) _;have a4:=ro.non fG;have aq:=bm.trans (f1.trans fG zr) zr;have bf:=bj.fr (f1.trans fG zr) zq;obtain ⟨gv,b1⟩:=Aa w1.heap.size;rw [b1.out] at bG a4 aq bf ⊢;clear da bn ro fG f1 km b1 bj bm;generalize (w1.alloc (.cells zG 32)).setRow gv r.cells=w2 at*;have hl:=Bb (P:=zp) gv 32 underlying32 rfl (cs:=r.cells) Cz;go_upto_region 3 with (go_at_call 13;(with_reducible refine (cd.out _ r _ aq a4 ba).mono ?_);rintro _ w3 ⟨g,b,rfl,c4,hg,cq,a7,f3⟩)
 have cf:=bG.fr f3 zq;have ct:=bf.fr f3 zq;have cp:=a4.non f3;have a9:=aq.trans f3 zr;have dp:w.heap.size<=b:=Nat.le_trans aq.size c4;obtain ⟨gb,a3⟩:=Aa g.gb;rw [a3.out];clear cd bG a4 aq f3 bf;go_upto_region 5 with (fail)
 have ap:=Cn OpL.zero;go_upto_region 6 with (first|(go_at_call 14;(with_reducible refine (a0.out _ a9).mono ?_);rintro _ w4 ⟨x,rfl,dq,dm,b6,b0,cv,ca,f4⟩;have bz:=Blk.new w4 44 OpL.zero.cells;have ad:=Cn x;have ab:OpL.zero.cells.size=x.cells.size:=rfl;have cx:(zp.info? 44).map (·.size)=some x.cells.size:=hi)|(refine Vm rfl 44 (.tmp 9) (.tmp 21) rfl rfl rfl rfl bz cx ab ad ?_;intro wa bk ch _))
 have fa:Fr Non w4 wa:=((Fr.refl Non w4).alloc (.cells OpL.zero.cells 44)).trans ch (fun k hk e=>by have e':k=w4.heap.size:=e;omega);have ak:=f4.trans fa zr;have bd:=a9.trans ak zr;have b8:=cf.fr ak zq;have cy:=ct.fr ak zq;have bw:=cp.non ak;have aa:=hg.fr ak;have bq:=ca.non fa;have a2:=Vl b6 b0 cv;have dl:=Gn (lk.take 60) 1 (m:=6) (by decide);obtain ⟨d,hd⟩:∃d:Nat,x.by_=(d:Int):=⟨x.by_.toNat,by omega⟩;have bl:=lh (fun (v:World) (hf:Fr Non wa v)=>Lv x d w3.heap.size v hd (by omega) (bq.non hf) a2);unfold Jc at bl;obtain ⟨gx,b4⟩:=Aa w4.heap.size;rw [b4.out] at bk ⊢;have dh:=Bb (P:=zp) gx 44 underlying44 rfl (cs:=x.cells) cx;have B0:=bk;have F0:Fr Non wa wa.drew:=(Fr.refl Non wa).drew;clear bz bk ch fa cf cp hg ca f4 a9 ct ak b4 a0 ad ab;refine Cy (S:=fun w'=>Blk w' gx 44 x.cells) 4 (by kernel_rfl) ?_;refine tkG 0 B0 (h:=tkG 1 B0 (h:=?_));simp only [zl];refine Bf 2 (by kernel_rfl) rfl (fun K hK=> ?_);go_simp;go_wp2_with (go_at_call 15;(with_reducible refine (bl.out _ F0).mono ?_);rintro _ v1 ⟨y,rfl,bu,bt,ae⟩;have F1:=F0.trans ae zr;have B1:=B0.fr F1 zq);refine hK.out _ _ B1 (fun hZ=> ?_);clear hZ hK K;try simp only [Ac,zl]
 have dd:=Am5 x y;refine Bf 3 (by kernel_rfl) rfl (fun K hK=> ?_);go_simp;have ar:=Blk.new v1 44 (x.cells++y.cells);have F2:Fr Non wa (v1.alloc (.cells (x.cells++y.cells) 44)):=F1.alloc _;have bx:=bt.non ((Fr.refl Non v1).alloc (.cells (x.cells++y.cells) 44));obtain ⟨rb,ax⟩:=Aa v1.heap.size;rw [ax.out] at ar ⊢;generalize v1.alloc (.cells (x.cells++y.cells) 44)=v2 at*;have B2:=B0.fr F2 zq;refine hK.out _ _ B2 (fun hZ=> ?_);clear hZ hK K;try simp only [Ac,zl]
 refine Cs (by kernel_rfl) ?_;refine oG 4 (fun K hK=> ?_);go_simp;refine hK.out _ _ trivial (fun hZ=> ?_);clear hZ hK K;try simp only [Ac,zl]
 refine oD ?_;go_simp;have bo:=Am9 ar (Sh x y).1 (Sh x y).2 (R:Int) (S:Int);have cz:=cy.fr F2 zq;have di:=Bb (P:=zp) gs 25 underlying25 rfl (cs:=#[.int .u64 (R:Int),.int .u64 (S:Int)]) (by kernel_rfl);have a8:=(ar.set 25 (.int .u64 (R:Int))).set 26 (.int .u64 (S:Int));rw [Am6] at a8;go_upto_region 8 with (fail)
 have F7:Fr (One rb) v2 ((v2.setCell ⟨rb,25,none⟩ (.int .u64 (R:Int))).setCell ⟨rb,26,none⟩ (.int .u64 (S:Int))):=((Fr.refl (One rb) v2).setOne 25 _).setOne 26 _;have bh:w.heap.size<=rb:=by rw [<- ax.out];exact (bd.trans F1 zr).size
 have b3:Fr Non w ((v2.setCell ⟨rb,25,none⟩ (.int .u64 (R:Int))).setCell ⟨rb,26,none⟩ (.int .u64 (S:Int))):=(bd.trans F2 zr).trans F7 (fun k hk e=>by have e':k=rb:=e;omega);have al:Fr Non wa ((v2.setCell ⟨rb,25,none⟩ (.int .u64 (R:Int))).setCell ⟨rb,26,none⟩ (.int .u64 (S:Int))):=F2.trans F7 (fun k hk e=>by have e':k=rb:=e;have h1:=F1.size;have h2:=ax.out;omega);have cn:=bq.non al;have cr:=bx.keepP F7 (Types.one ar) (by decide) (by decide) (by decide) (by decide) (by decide) (by decide) (by decide);have c8:=bw.non al;have c7:=aa.fr al;have c3:=b8.fr al zq;have b2:({x with r:=R,s:=S}:OpL).op.ok:={a2 with r:=hR,s:=hS};have co:=Jb cn R S;have cl:y.op.ok:=by rw [bu];exact Ff a2
 generalize (v2.setCell ⟨rb,25,none⟩ (.int .u64 (R:Int))).setCell ⟨rb,26,none⟩ (.int .u64 (S:Int))=w7 at*;generalize ({x with r:=R,s:=S}:OpL)=z at*
 have bb:Hid (∀i,i<2->∃q:OpL,RgAt w7 rb (i*27) q.cells.toList/\q.own w7 w3.heap.size/\q.op.ok):=by
  intro i cm;have h:=An0 z y i cm a8;rw [Nat.zero_add] at h;refine ⟨if i=0 then z else y,h,?_,?_⟩
  ·
   split
   · exact co
   · exact cr
  ·
   split
   · exact b2
   · exact cl
 have k7:=hk.fr b3;have be:=lh ba;clear bl dh B0 B1 B2 a2 dl b6 b0 cv cn cr co b2 cl a8 bo di cz ar bx bt bu F0 F1 F2 F7 al b8 cy bw aa bq bd hd bh ax ae ap dd ba;obtain ⟨N,hN⟩:=Aa r.l.length;go_wp2_with fail
 go_loopw [11] (fun v wr=>∃i:Nat,v=.int .i64 (i:Int)/\i<=2/\Fr Non w7 wr) (fun v _=>2-(intOf v).toNat)
 case atStart=>exact ⟨0,rfl,by omega,Fr.refl _ _⟩
 case round=>
 obtain ⟨i,rfl,cm,hf⟩:=hrel;have ag:=b3.trans hf zr;have af:Hid (r.own wr w0.heap.size):=c8.non hf;have aa:Hid (GAt wr b g):=c7.fr hf;have bv:=c3.fr hf zq
 by_cases hlt:i<2
 case neg=>
  obtain rfl:i=2:=by omega
  have a1:Hid (∀w',Fr Non wr w'->Calls zp 21 #[.pointer (some ⟨gb,0,none⟩)] w' (Co (An (r.l.map Pn.id)) w')):=by
   intro w' bi;have:=Ag8 b g w' Rv (aa.out.fr bi);rw [a3.out] at this;refine this.mono ?_;rintro e ay ⟨A5,c5,out,rfl,hp,hs,o5,f5⟩;obtain rfl:=Nl hs (Am2 a7 hp);exact ⟨A5,c5,rfl,o5,f5⟩
  have c2:(An (r.l.map Pn.id)).length<=200:=by rw [E0,An4];exact af.out.few
  have aw:Hid (∀w',Fr Non wr w'->Calls zp 22 #[.agg r.cells] w' (Co (An (r.l.map Pn.id)) w')):=by
   intro w' bi;have:=Lf w0.heap.size r w' (af.out.non bi);refine this.mono ?_;rintro e ay ⟨A5,c5,rfl,o5,f5⟩;have hn:r.l.length=(An (r.l.map Pn.id)).length:=by rw [E0,An4]
   rw [hn] at o5 ⊢;exact ⟨A5,c5,rfl,o5,f5⟩
  obtain ⟨IS,dk⟩:=Aa (An (r.l.map Pn.id));rw [dk.out] at a1 aw c2;have bg:Hid (∀(A5 A6:Option Addr) (c5 c6:Nat) (w':World),Rd w' w'.heap.size 3 A5 IS.length (IS.flatMap Id.cells)->Rd w' w'.heap.size 3 A6 IS.length (IS.flatMap Id.cells)->Calls zp 20 #[.slice A5 IS.length c5,.slice A6 IS.length c6] w' (Ae true w')):=fun A5 A6 c5 c6 w' h1 h2=>Ab5 w'.heap.size IS.length c5 w'.heap.size IS.length c6 A5 A6 IS IS w' rfl rfl h1 h2 (by omega) true (by simp);unfold Ae at bg;unfold Co at a1 aw;obtain ⟨NI,c1⟩:=Aa IS.length;rw [c1.out] at a1 aw bg;have hl:=Bb (P:=zp) gv 32 underlying32 rfl (cs:=r.cells) Cz;have V0:=bv;have F0:Fr Non wr wr.drew:=(Fr.refl Non wr).drew;have G0:Fr Non w wr.drew:=ag.drew;clear bb af aa be;clear bv;go_upto_region 16 with (fail)
  refine wp_region_held_drew (S:=fun w'=>Blk w' gv 32 r.cells) (by kernel_rfl) V0 (fun hHeld=> ?_);clear hHeld;refine tkH 0 V0 (h:=tkH 2 V0 (h:=?_));simp only [zl];refine oG 1 (fun K hK=> ?_);go_simp;go_wp2_with (go_at_call 21;(with_reducible refine (a1.out _ F0).mono ?_);rintro _ v1 ⟨A5,c5,rfl,df,ae⟩;have F1:=F0.trans ae zr;have V1:=V0.fr F1 zq;have G1:=ag.trans F1 zr);refine hK.out _ _ V1 (fun hZ=> ?_);clear hZ hK K;try simp only [Ac,zl]
  refine oG 3 (fun K hK=> ?_);go_simp;go_wp2_with (go_at_call 22;(with_reducible refine (aw.out _ F1).mono ?_);rintro _ v2 ⟨A6,c6,rfl,db,au⟩;have F2:=F1.trans au zr;have V2:=V0.fr F2 zq;have G2:=ag.trans F2 zr;have dj:=df.rd.fr au zr);refine hK.out _ _ V2 (fun hZ=> ?_);clear hZ hK K;try simp only [Ac,zl]
  refine oG 4 (fun K hK=> ?_);go_simp;go_wp2_with (go_at_call 20;(with_reducible refine (bg.out _ _ _ _ _ (dj.mono au.size) db.rd).mono ?_);rintro _ v3 ⟨rfl,dg⟩;have F3:=F2.trans dg zr;have V3:=V0.fr F3 zq;have G3:=ag.trans F3 zr);refine hK.out _ _ V3 (fun hZ=> ?_);clear hZ hK K;try simp only [Ac,zl]
  refine tkH 5 V3 (h:=?_);simp only [zl];refine oG 6 (fun K hK=> ?_);go_simp;go_wp2_with (go_at_call 19;(with_reducible refine (ai.out _ G3).mono ?_);rintro _ v4 ⟨rfl,dc⟩;have F4:=F3.trans dc zr;have V4:=V0.fr F4 zq;have G4:=ag.trans F4 zr);refine hK.out _ _ V4 (fun hZ=> ?_);clear hZ hK K;try simp only [Ac,zl]
  refine tkH 7 V4 (h:=tkH 8 V4 (h:=?_));simp only [zl];refine oD ?_;go_simp;go_wp2_with fail;exact ah.out _ G4
 case pos=>
  have t0:decide ((i:Int)<2)=true:=decide_eq_true (by omega);have t1:decide (i<2)=true:=decide_eq_true hlt;obtain ⟨q,cu,av,az⟩:=bb.out i hlt;have i1:(0:Int)<=i:=by omega
  have i2:(i:Int)<2:=by omega
  have i3:(i:Int).toNat=i:=by omega
  have b9:=Kv (P:=zp) q.cells rb (i*27) underlying44 rfl hi;have cj:∀w',RgAt w' rb (i*27) q.cells.toList->(ldS 44 (.pointer (some ⟨rb,i*27,none⟩))).run zp w'=.ok (.agg q.cells) w':=fun w' h=>b9 w' h;have kw:=lh (fun (w':World) (h:Fr Non wr w')=>Re w0.heap.size r q w' (af.out.non h) (av.non (hf.trans h zr)).at az);unfold Gb at kw;have ac:=lh (fun (w':World) (h:Fr Non wr w') (e0:Ah r.cards r.l q.op=0)=>Gh (x:=q) (l:=r.l) a7 (aa.out.fr h) (av.non (hf.trans h zr)).at az (k7.fr (hf.trans h zr)) (by rw [cq];exact e0) rfl);have aj:=lh (fun (w':World) (h:Fr Non wr w') (E:Int) (e1:Ah r.cards r.l q.op=E) (e0:E≠0)=>Ma (x:=q) (l:=r.l) a7 (aa.out.fr h) (av.non (hf.trans h zr)).at az (k7.fr (hf.trans h zr)) (by rw [cq];exact e1) e0);rw [a3.out] at ac aj;unfold Gu at ac;obtain ⟨E,hE⟩:=Aa (Ah r.cards r.l q.op);rw [hE.out] at kw ac aj;have R0:RgAt wr rb (i*27) q.cells.toList:=cu.fr hf zq;obtain ⟨PQ,b7⟩:=Aa (Au r.l q.op);rw [b7.out] at ac;obtain ⟨QC,cc⟩:=Aa q.cells;rw [cc.out] at R0 cj kw ac aj;have hl:=Bb (P:=zp) gv 32 underlying32 rfl (cs:=r.cells) Cz;have V0:=bv;have F0:Fr Non wr wr.drew:=(Fr.refl Non wr).drew;have G0:Fr Non w wr.drew:=ag.drew;clear bb cu av az b9 hE cc b7;go_upto_region 11 with (fail)
  refine wp_region_held_drew (S:=fun w'=>Blk w' gv 32 r.cells/\RgAt w' rb (i*27) QC.toList) (by kernel_rfl) ⟨V0,R0⟩ (fun hHeld=> ?_);clear hHeld;have uu:=aI V0 R0;refine tkH 0 uu (h:=tkH 1 uu (h:=tkH 2 uu (h:=tkH 3 uu (h:=tkH 4 uu (h:=?_)))));clear uu;simp only [zl];refine oG 5 (fun K hK=> ?_);go_simp;go_wp2_with (go_at_call 16;(with_reducible refine (kw.out _ F0).mono ?_);rintro _ v1 ⟨A9,n9,c9,rfl,_,ae⟩;have F1:=F0.trans ae zr;have V1:=V0.fr F1 zq;have R1:=RgAt.fr (S:=Non) R0 F1 zq;have G1:=ag.trans F1 zr);refine hK.out _ _ ⟨V1,R1⟩ (fun hZ=> ?_);clear hZ hK K;try simp only [Ac,zl]
  have uu:=aI V1 R1;refine tkH 6 uu (h:=tkH 7 uu (h:=tkH 8 uu (h:=tkH 9 uu (h:=tkH 10 uu (h:=?_)))));clear uu;simp only [zl];refine oD ?_;go_simp;have de:=cj v1 R1;have ft:Fr Non wr v1:=F1
  by_cases e0:E=0
  case neg=>
   have ka:=lh (aj.out v1 F1 E rfl e0);have en:(E !=E)=false:=by simp
   have ez:(E==0)=false:=beq_eq_false_iff_ne.2 e0;clear ac aj kw ai ah af aa;go_wp2_with (go_at_call 17;(with_reducible refine (ka.out).mono ?_);rintro _ v2 ⟨rfl,f2⟩);have fz:=hf.trans (F1.trans f2 zr) zr;go_roundw
   case rel=>exact ⟨i+1,by go_num,by omega,fz⟩
   case measure=>simp [intOf];omega
  case pos=>
   subst e0;have ka:=lh (ac.out v1 F1 rfl);have cg:=lh (fun k hk=>aa.out.ge (k:=k) hk);have cw:=(aa.out.fr F1).types;have br:=af.out.few;rw [hN.out] at br;clear ac aj kw af aa;go_wp2_with (go_at_call 17;(with_reducible refine (ka.out).mono ?_);rintro _ v2 ⟨rfl,g2,cb,a6,bc,ao,f2⟩);have a5:Fr Non w v2:=G1.trans f2 (fun k hk e=>by have:=cg.out k e;omega);have V2:=V1.fr f2 (fun e=>by have:=cw _ _ _ _ V1 e;revert this;unfold Gty;decide)
   have b5:g2.nodes.length=N+1:=by
    have h1:=congrArg List.length ao;unfold Gph.pns at h1;rw [An4,List.length_append,hN.out] at h1;exact h1
   have c0:Hid (∀w',Fr Non v2 w'->Calls zp 18 #[.pointer (some ⟨gb,0,none⟩)] w' (fun e ay=>e=.returned (.int .i64 ((N:Int)+1))/\Fr Non w' ay)):=by
    intro w' h;have:=Np b g2 w' (cb.fr h);rw [a6,a3.out,b5] at this;refine this.mono ?_;rintro e ay ⟨rfl,rfl⟩;exact ⟨by rw [show ((N+1:Nat):Int)=(N:Int)+1 from by omega],Fr.refl _ _⟩
   have L0:v2.cell? ⟨gv,1,none⟩=some (.slice r.lA N r.lC):=by rw [<- hN.out];exact V2.cell 1
   have eN:=iw ((N:Int)+1);have dn:(((N:Int)+1)==((N:Int)+1))=true:=by simp
   clear cb ao bc b5 ka cg cw;go_upto_region 15 with (fail)
   have F0:Fr Non v2 v2.drew:=(Fr.refl Non v2).drew;have G0:Fr Non w v2.drew:=a5.drew;refine wp_region_held_drew (S:=fun w'=>cS w' gv 1 r.lA N r.lC) (by kernel_rfl) L0 (fun hHeld=> ?_);clear hHeld;refine tkH 0 L0 (h:=tkH 2 L0 (h:=tkH 3 L0 (h:=tkH 4 L0 (h:=tkH 5 L0 (h:=?_)))));simp only [zl];refine oG 1 (fun K hK=> ?_);go_simp;go_wp2_with (go_at_call 18;(with_reducible refine (c0.out _ F0).mono ?_);rintro _ v1 ⟨rfl,ae⟩;have F1:=F0.trans ae zr;have L1:=F1.cell L0 zq;have G1:=a5.trans F1 zr);refine hK.out _ _ L1 (fun hZ=> ?_);clear hZ hK K;try simp only [Ac,zl]
   refine tkH 6 L1 (h:=tkH 7 L1 (h:=?_));simp only [zl];refine oG 8 (fun K hK=> ?_);go_simp;go_wp2_with (go_at_call 19;(with_reducible refine (ai.out _ G1).mono ?_);rintro _ v2 ⟨rfl,au⟩;have F2:=F1.trans au zr;have L2:=F2.cell L0 zq;have G2:=a5.trans F2 zr);refine hK.out _ _ L2 (fun hZ=> ?_);clear hZ hK K;try simp only [Ac,zl]
   refine tkH 9 L2 (h:=tkH 10 L2 (h:=?_));simp only [zl];refine oD ?_;go_simp;go_wp2_with fail;exact ah.out _ G2
end Oq
end
section
open Go.ChangeShapes Go.WideShapes Go.ChangeAt Go.RowKit
theorem An1 (os:Os) (started:os.Started) (H:Type) (enc:TypeId × Value->H):
  ReturnsInHanded {} Tryz.checked os 3 .any (fun w args=>(Rows.graphRawSpec.pre enc zp f3 [] false w args/\laidMetH zp [("huddle/op.kinds",Rows.laid_huddle_op_kinds)] w)/\sizedMet enc zp f3 (OpenSpec.ofChange Rows.graphRawSpec) false w args)
   (Rows.graphRawSpec.post enc zp f3 false true false false):=by
 refine returnsInHanded_of_change_and (C:=Tryz.checked) (X:=fun w _=>laidMetH zp [("huddle/op.kinds",Rows.laid_huddle_op_kinds)] w) (fun _ _ _ hh h=>h.of_heap hh) Tryz.own started (by kernel_rfl) func3
  (ChangeSpec.witness_at (enc:=enc) (C:=Tryz.checked) (os:=os) (X:=fun w _=>laidMetH zp [("huddle/op.kinds",Rows.laid_huddle_op_kinds)] w) false (Ke os) #[.slice none 0 0,.slice none 0 0,.agg #[.int .u64 0,.int .u64 0]] 8 rfl (by kernel_rfl) (by kernel_rfl) (by kernel_rfl) (by kernel_rfl) (by kernel_rfl) (Vk os _)) ?_
 intro W base args ds gs before hval0 hW _ _ hL _;have hk:=Vj hL;have hval:∀(j:Nat) t v,Tryz.f3.params[j]? =some t->args[j]? =some v->Value.okWide zp W .any base t v:=hval0;have hW':=hW;obtain ⟨p,q,hA0,hV,rfl,hfz,hnd⟩:=hW;have hA:DataW.TrodAll enc zp W 0 (fun _=>true) true Tryz.f3.params.toList args.toList ds p:=hA0;rw [params3] at hA hval;obtain ⟨v0,v1,v2,d0,d1,d2,p0,p1,p2,rfl,rfl,rfl,h0,h1,h2⟩:=trodAll_three hA;obtain ⟨A0,c0,l0,rfl,hlc0,hc0,hr0,hok0⟩:=Ms underlying22 underlying3 (by kernel_rfl) (hval 0 22 v0 rfl rfl) h0;obtain ⟨A1,c1,l1,rfl,hlc1,hc1,hr1,hok1⟩:=Ms underlying22 underlying3 (by kernel_rfl) (hval 1 22 v1 rfl rfl) h1;obtain ⟨R2,S2,rfl,hR2,hS2⟩:=Ss (hval 2 25 v2 rfl rfl) h2;refine (Oq.graphRaw_law A0 c0 l0 A1 c1 l1 R2 S2 W hk hr0 hlc0 hc0 hok0 hr1 hlc1 hc1 hok1 hR2 hS2).mono fun e W' ⟨he,hf⟩=> ?_;exact ⟨_,he,Sn Tryz.laidOut (by kernel_rfl) rfl (by kernel_rfl) underlying4 hW' ⟨rfl,rfl,rfl⟩ hf⟩
theorem An2:Rows.GraphRawSaid:=
 OpenClaim.holds_of_wide 3 f3 rfl rfl rfl rfl rfl rfl rfl ⟨rfl,rfl,rfl,rfl,rfl⟩ rfl rfl rfl rfl rfl (by kernel_rfl) func3 (by kernel_rfl)
  (of_decide_eq_true (by kernel_rfl)) (by unfold Func.isWrapper;rw [if_neg (by decide+kernel)];exact ⟨rfl,rfl⟩)
  (fun os started H enc _=>An1 os started H enc)
end
section
open Go
theorem graphRaw_card_holds:Rows.GraphRawCardSaid:=
 Claim7.holds_tied_plain_at .later [] [.data] true (true, "384d72dad725d37bd6ac49b23d359ed0607772ed35652509833cbd7c76661533") false
  An2 (fun _ h=>by cases h) (by kernel_rfl) (fun _ h=>by cases h) graphRaw_row_tie rfl ⟨rfl,rfl⟩ (by kernel_rfl) rfl
  (fun f fn hf hfn=>by
   obtain rfl:f=3:=Option.some.inj ((show zp.funcNamed "huddle/huddlelaw12.GraphRaw" =some 3 by kernel_rfl).symm.trans hf)|>.symm;obtain rfl:fn=f3:=(Option.some.inj (Tryz.func3.symm.trans hfn)).symm
   exact ⟨by kernel_rfl,fun j t ht=>by
    rw [params3] at ht
    have hm:t∈([22,22,25]:List TypeId):=by
     have h2:=Array.mem_of_getElem? ht;simpa using h2
    have hall:([22,22,25]:List TypeId).all (fun t=> !(zp.wantsStandIn t))=true:=by kernel_rfl
    have:=List.all_eq_true.1 hall t hm;exact (by simpa using this:zp.wantsStandIn t=false)⟩)
  (by kernel_rfl)
end
end Go.Proofs.YtihfebhfgliojaaGreatDoor
