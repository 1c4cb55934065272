/-
  huddlelaw13.ForkTells: which devices have forked, from where on, which two operations show it, and which are void, is the document's.
    Conditions: op.kinds lies as its text lays it; the numbers read.
  ForkTells: whatever the input is, where the one listed variable is as its text lays it, the law returns true, and nothing that was there has turned.
    Condition: none.
  ForkTells: the tied card.
    Condition: none.
-/
import Derived.ChangeVars
import Derived.JoinedOf
import Derived.RowKitTokens
import Derived.LaidLaws
import Derived.Test.YtkanjaikgphjfaaGreatDoorTie
import Derived.Test.YtkanjaikgphjfaaGreatDoorCards
import Derived.SevenTiedAt
import Derived.Test.YtkanjaikgphjfaaGreatDoorFkN1
import Derived.Test.YtkanjaikgphjfaaGreatDoorFkN4
import Derived.Test.YtkanjaikgphjfaaGreatDoorFkN12
import Derived.Test.YtkanjaikgphjfaaGreatDoorFkN15
set_option maxRecDepth 100000
set_option maxHeartbeats 16000000
namespace Go.Proofs.YtkanjaikgphjfaaGreatDoor
section
open Go.RowKit
attribute [local go_sem ↓] Go.wp_at_zero Go.wp_at_succ
namespace Oq
attribute [local go_sem] Bool.not_false Bool.not_true
attribute [local go_sem ↓] Fz Gs Jv Tg
theorem forkTells_law (A:Option Addr) (c:Nat) (l0:List Int) (A':Option Addr) (c':Nat) (l1:List Int) (dv:Int) (w:World) (hk:KindsAt w) (hr:Rd w w.heap.size 1 A l0.length (l0.map Iv)) (hnc:l0.length≤c) (hnm:c≤9223372036854775807) (hok:∀x∈l0,I64 x) (hr':Rd w w.heap.size 1 A' l1.length (l1.map Iv)) (hnc':l1.length≤c') (hnm':c'≤9223372036854775807) (hok':∀x∈l1,I64 x) (dv0: -9223372036854775808≤dv) (dv1:dv≤9223372036854775807):
  Calls Tryz.prog 5 #[.slice A l0.length c,.slice A' l1.length c',.int .i64 dv] w (Ad true w):=by
 have a3:0<w.heap.size:=World.block_lt_of_cell? w _ (hk 0 (by decide));have km:=Lib.hid (Jt w.heap.size l0.length c A l0 w rfl hr (by omega) hok);have cg:=Lib.hid (fun (b:Nat) (r:FG) (w':World) (hf:Fr Non w w') (h:r.own w' b) (hcs:r.cards=Ba 0 [1,2,2,3])=>Ju b r w' h hcs (Nat.lt_of_lt_of_le a3 hf.size) (hk.fr hf));have ax:=fun (w':World) (hf:Fr Non w w')=>M6 w' (hk.fr hf);unfold Ad at ax;replace ax:=Lib.hid ax;have bo:=Lib.hid (fun (b:Nat) (r:FG) (v:World) (hf:Fr Non w v) (h:r.own v b) (hne:r.l≠[])=>Ms b w.heap.size l1.length c' A' l1 r v h hne rfl (hr'.fr hf zr) (by omega) hok');obtain ⟨n1,co⟩:=Ab l1.length;rw [co.out] at bo ⊢;have bi:Hid (∀wz,Fr Non w wz→Ad true w (.returned (.bool true)) wz):=fun wz h=>⟨rfl,h⟩;generalize Ad true w=POST at*;obtain ⟨n0,cz⟩:=Ab l0.length;rw [cz.out] at km ⊢;clear hk a3 hr hnc hnm hok hr' hnc' hnm' hok' co;go_enter Tryz.func5,Tryz.ntmps5;go_upto_region 2 with (go_at_call 9;(with_reducible refine (km.out).mono ?_);rintro _ w1 ⟨r,rfl,f1,ro,b7,cc⟩;(have bn:=Blk.new w1 28 #[.slice none 0 0,.slice none 0 0,.slice none 0 0,.slice none 0 0]);(have a1:=Bb (P:=Tryz.prog) w1.heap.size 28 (cs:=r.cells) Bu (old:=#[.slice none 0 0,.slice none 0 0,.slice none 0 0,.slice none 0 0]) rfl (Ez r)))
 have bg:Blk ((w1.alloc (.cells #[.slice none 0 0,.slice none 0 0,.slice none 0 0,.slice none 0 0] 28)).setRow w1.heap.size r.cells) w1.heap.size 28 r.cells:=bn.setRow;have fG:Fr Non w1 ((w1.alloc (.cells #[.slice none 0 0,.slice none 0 0,.slice none 0 0,.slice none 0 0] 28)).setRow w1.heap.size r.cells):=((Fr.refl Non w1).alloc _).setRow (fun hh=>absurd hh (by omega)) _;have f2:=f1.trans fG zr;have a7:=ro.non fG;obtain ⟨gv,c5⟩:=Ab w1.heap.size;rw [c5.out] at bg f2 a7 ⊢;clear a1 bn fG ro f1;generalize (w1.alloc (.cells #[.slice none 0 0,.slice none 0 0,.slice none 0 0,.slice none 0 0] 28)).setRow gv r.cells=w2 at*;have hl:=Bi (P:=Tryz.prog) gv 28 Tryz.underlying28 rfl (cs:=r.cells) Bu;go_upto_region 3 with (go_at_call 10;(with_reducible refine (cg.out _ r _ f2 a7 b7).mono ?_);rintro _ w3 ⟨g,b,rfl,c6,hg,cu,cy,f3⟩)
 have a6:=bg.fr f3 zq;have ap:=a7.non f3;have bc:=f2.trans f3 zr;have cp:r.l≠[]:=by rw [cc];exact Ht _ _
 have ad:r.ids.length=r.l.length:=FG.ids_len r;have a2:Cs r.ids:=ap.fkOk;have ay:r.ids.length≤14:=by rw [ad];exact ap.num.few
 have c2:w3.cell? ⟨gv,2,none⟩=some (.slice r.iA r.ids.length r.iC):=by have h9:=a6.cell 2;rw [show r.cells[2]? =some (.slice r.iA r.l.length r.iC) from rfl,← ad] at h9;exact h9
 have aj:=ap.rdIds;rw [← ad] at aj;have a0:=Lib.hid aj;have dc:r.ids.Nodup:=Jx ap.rows;have cq:=Lib.hid (fun (v:World)=>Hx dv 14 v dv0 dv1 (by omega) (by omega));generalize C4 dv 14=aD at*;have ag:∀(ids:List Id),Cs ids→∀x∈ids,0<x.s:=fun ids h x hx=>by have:=(h x hx).2.2.1;omega
 have cr:w3.cell? ⟨gv,2,none⟩=some (.slice r.iA r.l.length r.iC):=a6.cell 2;clear cc b7 hg cu cy c6 km cg a7;go_upto_region 5 with (fail)
 have V0:Blk w3 gv 28 r.cells:=a6;have C0:w3.cell? ⟨gv,2,none⟩=some (.slice r.iA r.l.length r.iC):=cr;have F0:Fr Non w3 w3.drew:=(Fr.refl Non w3).drew;refine wp_region_held_drew (S:=fun w'=>Blk w' gv 28 r.cells∧w'.cell? ⟨gv,2,none⟩=some (.slice r.iA r.l.length r.iC)) (by kernel_rfl) ⟨V0,C0⟩ (fun hHeld=> ?_);clear hHeld;refine tkH 0 ⟨V0,C0⟩ (h:=tkH 1 ⟨V0,C0⟩ (h:=tkH 2 ⟨V0,C0⟩ (h:=tkH 3 ⟨V0,C0⟩ (h:=?_))));simp only [List.set];refine oG 4 (fun K hK=> ?_);go_simp;go_wp2_with (go_at_call 11;(with_reducible refine (bo.out _ r _ (bc.trans F0 zr) (ap.non F0) cp).mono ?_);rintro _ v1 ⟨on,ys,ns,A4,c4,rfl,b0,b3,b1,av,o4,ae⟩;have F1:=F0.trans ae zr;have V1:=V0.fr F1 zq;have C1:=F1.cell C0 zq);refine hK.out _ _ ⟨V1,C1⟩ (fun hZ=> ?_);clear hZ hK K;try simp only [Aj,List.set]
 refine oG 5 (fun K hK=> ?_);go_simp;have ac:Fr Non v1 (v1.alloc (.cells #[.slice r.iA r.l.length r.iC,.slice A4 ns.length c4,.slice none 0 0] 25)):=(Fr.refl _ _).alloc _;have bA:=Blk.new v1 25 #[.slice r.iA r.l.length r.iC,.slice A4 ns.length c4,.slice none 0 0];have o5:=o4.fr ac zr;have F2:=F1.trans ac zr;have V2:=V0.fr F2 zq;have C2:=F2.cell C0 zq;refine hK.out _ _ ⟨V2,C2⟩ (fun hZ=> ?_);clear hZ hK K;try simp only [Aj,List.set]
 generalize v1.alloc (.cells #[.slice r.iA r.l.length r.iC,.slice A4 ns.length c4,.slice none 0 0] 25)=v2 at*;refine tkH 6 ⟨V2,C2⟩ (h:=?_);simp only [List.set];refine oD ?_;go_simp;have hP:=M8 ap b0 b3 b1 av;have ah:r.l.length=r.ids.length:=ad.symm;obtain ⟨AC,bh⟩:∃AC:Array Value,AC=#[.slice r.iA r.l.length r.iC,.slice A4 ns.length c4,.slice none 0 0]:=⟨_,rfl⟩;rw [← bh] at bA
 have ai:Hid (∀i:Nat,i<3→∃(ids:List Id) (n c:Nat) (A':Option Addr) (B:Nat),AC[i]? =some (.slice A' n c)∧Hid (ids.length=n)∧n≤14∧Cs ids∧Hid (∀v,Fr Non v2 v→Rd v B 3 A' n (ids.flatMap Id.cells))):=by
  intro i hi;rw [bh]
  match i,hi with
  |0,_=>exact ⟨r.ids,_,_,_,w3.heap.size,rfl,ad,by rw [ah];exact ay,a2,fun v hv=>by rw [ah];exact a0.out.fr (F2.trans hv zr) zr⟩
  |1,_=>exact ⟨ns,_,_,_,v2.heap.size,rfl,rfl,hP.len,hP.ok,fun v hv=>o5.rd.fr hv zr⟩
  |2,_=>exact ⟨[],0,0,none,0,rfl,rfl,by omega,fun x hx=>absurd hx List.not_mem_nil,fun v hv=>Rd.nil _ _ _ _⟩
 obtain ⟨aB,b4⟩:=Ab v1.heap.size;rw [b4.out] at bA ⊢;have ci:=bc.trans F2 zr;obtain ⟨DC,bf⟩:∃DC:Array Value,DC=#[.int .i64 dv,.int .i64 aD,.int .i64 1,.int .i64 2]:=⟨_,rfl⟩
 have a5:Hid (∀j:Nat,j<4→∃d:Int,DC[j]? =some (.int .i64 d)):=by
  intro j hj;rw [bf]
  match j,hj with
  |0,_=>exact ⟨_,rfl⟩
  |1,_=>exact ⟨_,rfl⟩
  |2,_=>exact ⟨_,rfl⟩
  |3,_=>exact ⟨_,rfl⟩
 clear V0 V1 V2 C0 C1 C2 F0 F1 F2 b0 b3 b1 av o4 o5 ac ae hP bh b4 bo a6 bg c2 cr ap hl ad ah ay dc a2 a0 aj bc f2 f3 ag cp;have ag:Hid (∀(ids:List Id),Cs ids→∀x∈ids,0<x.s):=fun ids h x hx=>by have:=(h x hx).2.2.1;omega
 go_upto_region 7 with (go_at_call 18;(with_reducible refine (cq.out _).mono ?_);rintro _ _ ⟨rfl,rfl⟩)
 have bD:=Blk.new v2 3 #[.int .i64 dv,.int .i64 aD,.int .i64 1,.int .i64 2];have f3:Fr Non v2 (v2.alloc (.cells #[.int .i64 dv,.int .i64 aD,.int .i64 1,.int .i64 2] 3)):=(Fr.refl _ _).alloc _;rw [← bf] at bD f3 ⊢;have db:=bA.fr f3 zq;obtain ⟨dB,bx⟩:=Ab v2.heap.size;rw [bx.out] at bD ⊢;generalize v2.alloc (.cells DC 3)=u3 at*;have c3:=ci.trans f3 zr;clear cq bf bx dv0 dv1 ci bA;go_wp2_with (fail)
 go_loopw [11] (fun v wr=>∃i:Nat,v=.int .i64 (i:Int)∧i≤3∧Fr Non u3 wr) (fun v _=>3-(intOf v).toNat)
 case atStart=>exact ⟨0,rfl,by omega,Fr.refl _ _⟩
 case round=>
  obtain ⟨i,rfl,dg,hf⟩:=hrel
  by_cases hin:i<3
  ·
   obtain ⟨ids,n,c,A',B,cb,hn,ba,hok,cd⟩:=ai.out i hin;have ck:=(db.cell i).trans cb;have au:=Lib.hid (fun (v:World) (hv:Fr Non u3 v)=>hv.cell ck zq);have c0:=au.out wr hf;have i1:(0:Int)≤i:=by omega
   have i2:(i:Int)<3:=by omega
   have i3:(i:Int).toNat=i:=by omega
   have t0:decide ((i:Int)<3)=true:=decide_eq_true i2;have cv:decide (i<3)=true:=decide_eq_true hin;have df:IntKind.i64.wrap ((i:Int)+1)=(i:Int)+1:=IntWalk.i64_in _ (by omega);have ao:=Lib.hid (fun (v:World) (hv:Fr Non u3 v)=>cd.out v (f3.trans hv zr));have kF:=Lib.hid (fun (gvv:Value) (v:World) (hv:Fr Non u3 v)=>Gt B n c A' ids gvv v hn (ao.out v hv) (by omega) hok);have kG:=Lib.hid (fun (v:World) (hv:Fr Non u3 v)=>Ai5 B n c A' ids v hn (ao.out v hv) (by omega));have kV:=Lib.hid (fun (gvv:Value) (v:World) (hv:Fr Non u3 v)=>Js B n c A' ids gvv v hn (ao.out v hv) (by omega) hok);have kW:=Lib.hid (fun (v:World) (hv:Fr Non u3 v)=>Ai7 B n c A' ids v hn (ao.out v hv) (by omega));have kP:=Lib.hid (fun (gvv:Value) (d:Int) (v:World) (hv:Fr Non u3 v)=>Jw B n c A' ids d gvv v hn (ao.out v hv) (by omega) hok);have kQ:=Lib.hid (fun (d:Int) (v:World) (hv:Fr Non u3 v)=>Al2 B n c A' ids d v hn (ao.out v hv) (by omega) (ag.out ids hok));unfold Hr at kF;unfold Mu at kG;unfold Eb at kV kW;unfold Ef at kP kQ;have cn:(Cc ids).length≤14:=Nat.le_trans (M9 _) (by rw [hn.out];exact ba);have ce:(Aq ids).length≤12:=S9 _;generalize Cc ids=VA at*;generalize Aq ids=FA at*;have kS:=Lib.hid (fun (B B' c c':Nat) (A A':Option Addr) (v:World) (h1:Rd v B 3 A VA.length (VA.flatMap Id.cells)) (h2:Rd v B' 3 A' VA.length (VA.flatMap Id.cells))=>Rv B VA.length c B' VA.length c' A A' VA VA v rfl rfl h1 h2 (by omega) true (by simp));unfold Ad at kS;obtain ⟨nF,be⟩:=Ab FA.length;rw [be.out] at kF kG ce;obtain ⟨nV,cl⟩:=Ab VA.length;rw [cl.out] at kV kW kS cn;generalize VA.flatMap Id.cells=VC at*;have cw:((nF:Int) !=(nF:Int))=false:=by simp
   clear cb hn hok cd ck ao;go_upto_region 11 with (go_at_call 12;(with_reducible refine (kF.out _ _ hf).mono ?_);rintro _ w7 ⟨A7,c7,rfl,o7,f7⟩)
   have g7:=hf.trans f7 zr;have cx:=au.out w7 g7;clear c0;go_upto_region 12 with (go_at_call 19;(with_reducible refine (kG.out _ g7).mono ?_);rintro _ w8 ⟨A8,c8,rfl,o8,f8⟩)
   have g8:=g7.trans f8 zr;have C0:=au.out w8 g8;have bu:=o7.rd.fr f8 zr;have ch:=o8.rd;have F0:Fr Non w8 w8.drew:=(Fr.refl Non w8).drew;have bv:=Lib.hid (fun (gvv:Value) (v:World) (hv:Fr Non w8 v)=>kV.out gvv v (g8.trans hv zr));have cm:=Lib.hid (fun (v:World) (hv:Fr Non w8 v)=>kW.out v (g8.trans hv zr));clear cx kF kG kV kW f7 f8 o7 o8;refine wp_region_held_drew (S:=fun w'=>w'.cell? ⟨aB,i,none⟩=some (.slice A' n c)) (by kernel_rfl) C0 (fun hHeld=> ?_);clear hHeld;refine tkH 0 C0 (h:=tkH 1 C0 (h:=tkH 2 C0 (h:=tkH 3 C0 (h:=tkH 4 C0 (h:=tkH 5 C0 (h:=tkH 6 C0 (h:=tkH 7 C0 (h:=tkH 8 C0 (h:=tkH 9 C0 (h:=tkH 10 C0 (h:=tkH 12 C0 (h:=?_))))))))))));simp only [List.set];refine tkH 13 C0 (h:=tkH 14 C0 (h:=tkH 15 C0 (h:=?_)));simp only [List.set];refine oG 11 (fun K hK=> ?_);go_simp;go_wp2_with (go_at_call 13;(with_reducible refine (bv.out _ _ F0).mono ?_);rintro _ v1 ⟨A9,c9,rfl,o9,ae⟩;have F1:=F0.trans ae zr;have C1:=F1.cell C0 zq);refine hK.out _ _ C1 (fun hZ=> ?_);clear hZ hK K;try simp only [Aj,List.set]
   refine oG 16 (fun K hK=> ?_);go_simp;go_wp2_with (go_at_call 21;(with_reducible refine (cm.out _ F1).mono ?_);rintro _ v2 ⟨Aa,ca,rfl,oa,ac⟩;have F2:=F1.trans ac zr;have C2:=F2.cell C0 zq;have bw:=Lib.hid (kS.out _ _ c9 ca _ _ v2 (o9.rd.fr ac zr) oa.rd));refine hK.out _ _ C2 (fun hZ=> ?_);clear hZ hK K;try simp only [Aj,List.set]
   refine oG 17 (fun K hK=> ?_);go_simp;go_wp2_with (go_at_call 20;(with_reducible refine (bw.out).mono ?_);rintro _ v3 ⟨rfl,cf⟩;have F3:=F2.trans cf zr;have C3:=F3.cell C0 zq);refine hK.out _ _ C3 (fun hZ=> ?_);clear hZ hK K;try simp only [Aj,List.set]
   refine tkH 18 C3 (h:=tkH 19 C3 (h:=?_));simp only [List.set];refine oD ?_;go_simp;have g9:=g8.trans F3 zr;have br:=bu.fr F3 zr;have bs:=ch.fr F3 zr;clear kS bw o9 oa C0 C1 C2 C3 F0 F1 F2 F3 bu ch bv cm g8 g7 ae ac cf cl;go_wp2_with (fail);have bj:=Lib.hid (fun (v:World) (hv:Fr Non v3 v)=>bD.fr (g9.trans hv zr) zq);have bm:=Lib.hid (fun (v:World) (hv:Fr Non v3 v)=>au.out v (g9.trans hv zr));have a9:=Lib.hid (fun (gvv:Value) (d:Int) (v:World) (hv:Fr Non v3 v)=>kP.out gvv d v (g9.trans hv zr));have bd:=Lib.hid (fun (d:Int) (v:World) (hv:Fr Non v3 v)=>kQ.out d v (g9.trans hv zr));clear kP kQ
   go_loopw [14] (fun v wr=>∃k:Nat,v=.int .i64 (k:Int)∧k≤nF∧Fr Non v3 wr) (fun v _=>nF-(intOf v).toNat)
   case atStart=>exact ⟨0,rfl,Nat.zero_le _,Fr.refl _ _⟩
   case round=>
    obtain ⟨k,rfl,hk,az⟩:=hrel
    by_cases hkn:k<nF
    ·
     obtain ⟨f,bk⟩:∃f,FA[k]? =some f:=⟨_,List.getElem?_eq_getElem (by rw [be.out];exact hkn)⟩;obtain ⟨b5,q5,rfl,_,h5⟩:=Dn (f:=Cn) (fun _=>rfl) (by omega) (br.fr az zr) bk;obtain ⟨b6,q6,rfl,_,h6⟩:=Dn (f:=Cn) (fun _=>rfl) (by omega) (bs.fr az zr) bk;have P0:wr.cell? ⟨b5,q5+k*2,none⟩=some (.int .i64 f.1):=h5 0 (by omega) _ rfl;have Q0:wr.cell? ⟨b5,q5+k*2+1,none⟩=some (.int .i64 f.2):=h5 1 (by omega) _ rfl;have R0:wr.cell? ⟨b6,q6+k*2,none⟩=some (.int .i64 f.1):=h6 0 (by omega) _ rfl;have S0:wr.cell? ⟨b6,q6+k*2+1,none⟩=some (.int .i64 f.2):=h6 1 (by omega) _ rfl;have j1:(0:Int)≤k:=by omega
     have j2:(k:Int)<nF:=by omega
     have j3:(k:Int).toNat=k:=by omega
     have u0:decide ((k:Int)<nF)=true:=decide_eq_true j2;have a8:decide (k<nF)=true:=decide_eq_true hkn;have e1:IntKind.i64.wrap ((k:Int)+1)=(k:Int)+1:=IntWalk.i64_in _ (by omega);have di:(f.1 !=f.1)=false:=by simp
     have dh:(f.2 !=f.2)=false:=by simp
     have F0:Fr Non wr wr.drew:=(Fr.refl Non wr).drew;clear h5 h6 bk br bs bm bj a9 bd a5 ai au;go_upto_region 17 with (fail)
     refine wp_region_held_drew (S:=fun w'=>w'.cell? ⟨b5,q5+k*2,none⟩=some (.int .i64 f.1)∧w'.cell? ⟨b5,q5+k*2+1,none⟩=some (.int .i64 f.2)∧w'.cell? ⟨b6,q6+k*2,none⟩=some (.int .i64 f.1)∧w'.cell? ⟨b6,q6+k*2+1,none⟩=some (.int .i64 f.2)) (by kernel_rfl) ⟨P0,Q0,R0,S0⟩ (fun hHeld=> ?_);clear hHeld;refine tkH 0 ⟨P0,Q0,R0,S0⟩ (h:=tkH 1 ⟨P0,Q0,R0,S0⟩ (h:=tkH 2 ⟨P0,Q0,R0,S0⟩ (h:=tkH 3 ⟨P0,Q0,R0,S0⟩ (h:=tkH 4 ⟨P0,Q0,R0,S0⟩ (h:=tkH 5 ⟨P0,Q0,R0,S0⟩ (h:=tkH 6 ⟨P0,Q0,R0,S0⟩ (h:=tkH 7 ⟨P0,Q0,R0,S0⟩ (h:=tkH 8 ⟨P0,Q0,R0,S0⟩ (h:=tkH 9 ⟨P0,Q0,R0,S0⟩ (h:=tkH 10 ⟨P0,Q0,R0,S0⟩ (h:=tkH 11 ⟨P0,Q0,R0,S0⟩ (h:=?_))))))))))));simp only [List.set];refine tkH 12 ⟨P0,Q0,R0,S0⟩ (h:=tkH 13 ⟨P0,Q0,R0,S0⟩ (h:=tkH 14 ⟨P0,Q0,R0,S0⟩ (h:=tkH 15 ⟨P0,Q0,R0,S0⟩ (h:=tkH 16 ⟨P0,Q0,R0,S0⟩ (h:=tkH 17 ⟨P0,Q0,R0,S0⟩ (h:=tkH 18 ⟨P0,Q0,R0,S0⟩ (h:=tkH 19 ⟨P0,Q0,R0,S0⟩ (h:=tkH 20 ⟨P0,Q0,R0,S0⟩ (h:=tkH 21 ⟨P0,Q0,R0,S0⟩ (h:=tkH 22 ⟨P0,Q0,R0,S0⟩ (h:=tkH 23 ⟨P0,Q0,R0,S0⟩ (h:=?_))))))))))));simp only [List.set];refine oD ?_;go_simp;have fz:=az.trans F0 zr;go_wp2_with (fail);go_roundw
     case rel=>exact ⟨k+1,by go_num,by omega,fz⟩
     case measure=>simp [intOf];omega
    ·
     obtain rfl:k=nF:=by omega
     have u0:decide ((k:Int)<k)=false:=decide_eq_false (by omega);have a8:decide (k<k)=false:=decide_eq_false (by omega);clear br bs be ce cw cn ai;go_wp2_with (fail);generalize wr=wk at*
     go_loopw [15] (fun v wr=>∃j:Nat,v=.int .i64 (j:Int)∧j≤4∧Fr Non v3 wr) (fun v _=>4-(intOf v).toNat)
     case atStart=>exact ⟨0,rfl,Nat.zero_le _,az⟩
     case round=>
      clear az;obtain ⟨j,rfl,hj,ak⟩:=hrel
      by_cases hjn:j<4
      ·
       obtain ⟨d,hd⟩:=a5.out j hjn;have C0:=bm.out wr ak;have D0:=((bj.out wr ak).cell j).trans hd;have j1:(0:Int)≤j:=by omega
       have j2:(j:Int)<4:=by omega
       have j3:(j:Int).toNat=j:=by omega
       have u0:decide ((j:Int)<4)=true:=decide_eq_true j2;have a8:decide (j<4)=true:=decide_eq_true hjn;have e1:IntKind.i64.wrap ((j:Int)+1)=(j:Int)+1:=IntWalk.i64_in _ (by omega);have aw:=Lib.hid (fun (gvv:Value) (v:World) (hv:Fr Non wr v)=>a9.out gvv d v (ak.trans hv zr));have a4:=Lib.hid (fun (v:World) (hv:Fr Non wr v)=>bd.out d v (ak.trans hv zr));generalize Ce ids d=PK at*;have al:(Tryz.prog.info? 52).map (·.size)=some (Co PK).size:=by rw [Ee,Gu]
       have ar:(Co PK).all (·.oneCell')=true:=Na _;have aq:(#[.int .i64 0,.int .i64 0,.int .u64 0,.int .i64 0,.int .i64 0,.int .u64 0]:Array Value).size=(Co PK).size:=by rw [Gu];rfl
       have bt:=Td PK;have de:=Te;obtain ⟨TC,b8⟩:=Ab (Co PK);rw [b8.out] at aw a4 al ar aq bt;obtain ⟨FO,b2⟩:=Ab PK.isSome;rw [b2.out] at aw a4;have dd:(FO !=FO)=false:=by cases FO<;>rfl
       have c1:(FO==FO)=true:=beq_self_eq_true _;clear b8 b2 hd a9 bd a5 bm bj au;go_upto_region 22 with (fail)
       go_cut [16,17] from 105 to 117 (fun s1 s2 wc=>∃pB:Nat,s1=.pointer (some ⟨pB,0,none⟩)∧s2=.bool FO∧Blk wc pB 52 TC∧Fr Non wr wc)
       case first=>
        have F0:Fr Non wr wr.drew:=(Fr.refl Non wr).drew;refine wp_region_held_drew (S:=fun w'=>w'.cell? ⟨aB,i,none⟩=some (.slice A' n c)∧w'.cell? ⟨dB,j,none⟩=some (.int .i64 d)) (by kernel_rfl) ⟨C0,D0⟩ (fun hHeld=> ?_);clear hHeld;refine tkH 0 ⟨C0,D0⟩ (h:=tkH 1 ⟨C0,D0⟩ (h:=tkH 2 ⟨C0,D0⟩ (h:=tkH 3 ⟨C0,D0⟩ (h:=tkH 4 ⟨C0,D0⟩ (h:=tkH 5 ⟨C0,D0⟩ (h:=tkH 6 ⟨C0,D0⟩ (h:=tkH 7 ⟨C0,D0⟩ (h:=tkH 8 ⟨C0,D0⟩ (h:=?_)))))))));simp only [List.set];refine Th 9 13 (by kernel_rfl) rfl rfl (by kernel_rfl) (by kernel_rfl) (fun K hK=> ?_) (fun K hK=> ?_)
        ·
         skip
         go_simp;go_wp2_with (go_at_call 22;(with_reducible refine (aw.out _ _ F0).mono ?_);rintro _ v1 ⟨rfl,ae⟩;have F1:=F0.trans ae zr;have C1:=F1.cell C0 zq;have D1:=F1.cell D0 zq);refine hK.out _ _ ⟨C1,D1⟩ (fun hZ=> ?_);clear hZ hK K;try simp only [Aj,List.set]
         refine tkH 10 ⟨C1,D1⟩ (h:=tkH 11 ⟨C1,D1⟩ (h:=tkH 12 ⟨C1,D1⟩ (h:=?_)));simp only [List.set];refine oG 13 (fun K hK=> ?_);go_simp;have ac:Fr Non v1 (v1.alloc (.cells #[.int .i64 0,.int .i64 0,.int .u64 0,.int .i64 0,.int .i64 0,.int .u64 0] 52)):=(Fr.refl _ _).alloc _;have ab:=Blk.new v1 52 #[.int .i64 0,.int .i64 0,.int .u64 0,.int .i64 0,.int .i64 0,.int .u64 0];have F2:=F1.trans ac zr;have C2:=F2.cell C0 zq;have D2:=F2.cell D0 zq;obtain ⟨pB,aa⟩:=Ab v1.heap.size;rw [aa.out] at ab ⊢;have bl:wr.heap.size≤pB:=by rw [← aa.out];exact F1.size
         refine hK.out _ _ ⟨C2,D2⟩ (fun hZ=> ?_);clear hZ hK K;try simp only [Aj,List.set]
         generalize v1.alloc (.cells #[.int .i64 0,.int .i64 0,.int .u64 0,.int .i64 0,.int .i64 0,.int .u64 0] 52)=v2 at*;have a1:=Bb (P:=Tryz.prog) pB 52 (cs:=TC) al (old:=#[.int .i64 0,.int .i64 0,.int .u64 0,.int .i64 0,.int .i64 0,.int .u64 0]) aq ar;refine oG 14 (fun K hK=> ?_);go_simp;have bz:=ab.setRow (cs:=TC);have F3:Fr Non wr (v2.setRow pB TC):=F2.setRow (fun hh=>absurd hh (by omega)) _;have C3:=F3.cell C0 zq;have D3:=F3.cell D0 zq;refine hK.out _ _ ⟨C3,D3⟩ (fun hZ=> ?_);clear hZ hK K;try simp only [Aj,List.set]
         refine tkH 15 ⟨C3,D3⟩ (h:=?_);simp only [List.set];refine oD ?_;go_simp;go_wp2_with (fail);go_meet;exact ⟨pB,rfl,rfl,bz,F3⟩
        ·
         have F0:Fr Non wr wr:=Fr.refl Non wr;go_simp;have ae:Fr Non wr ((wr.alloc (.cells #[.int .i64 0,.int .i64 0,.int .u64 0,.int .i64 0,.int .i64 0,.int .u64 0] 52)).drew):=((Fr.refl Non wr).alloc (.cells #[.int .i64 0,.int .i64 0,.int .u64 0,.int .i64 0,.int .i64 0,.int .u64 0] 52)).drew;have af:=(Blk.new wr 52 #[.int .i64 0,.int .i64 0,.int .u64 0,.int .i64 0,.int .i64 0,.int .u64 0]).drew;have F1:=F0.trans ae zr;have C1:=F1.cell C0 zq;have D1:=F1.cell D0 zq;obtain ⟨pB,aa⟩:=Ab wr.heap.size;rw [aa.out] at af ⊢;have bl:wr.heap.size≤pB:=by rw [← aa.out];exact Nat.le_refl _
         refine hK.out _ _ ⟨C1,D1⟩ (fun hZ=> ?_);clear hZ hK K;try simp only [Aj,List.set]
         generalize (wr.alloc (.cells #[.int .i64 0,.int .i64 0,.int .u64 0,.int .i64 0,.int .i64 0,.int .u64 0] 52)).drew=v1 at*;refine oG 9 (fun K hK=> ?_);go_simp;go_wp2_with (go_at_call 22;(with_reducible refine (aw.out _ _ F1).mono ?_);rintro _ v2 ⟨rfl,ac⟩;have F2:=F1.trans ac zr;have C2:=F2.cell C0 zq;have D2:=F2.cell D0 zq;have ab:=af.fr ac zq);refine hK.out _ _ ⟨C2,D2⟩ (fun hZ=> ?_);clear hZ hK K;try simp only [Aj,List.set]
         refine tkH 10 ⟨C2,D2⟩ (h:=tkH 11 ⟨C2,D2⟩ (h:=tkH 12 ⟨C2,D2⟩ (h:=?_)));simp only [List.set];have a1:=Bb (P:=Tryz.prog) pB 52 (cs:=TC) al (old:=#[.int .i64 0,.int .i64 0,.int .u64 0,.int .i64 0,.int .i64 0,.int .u64 0]) aq ar;refine oG 14 (fun K hK=> ?_);go_simp;have bz:=ab.setRow (cs:=TC);have F3:Fr Non wr (v2.setRow pB TC):=F2.setRow (fun hh=>absurd hh (by omega)) _;have C3:=F3.cell C0 zq;have D3:=F3.cell D0 zq;refine hK.out _ _ ⟨C3,D3⟩ (fun hZ=> ?_);clear hZ hK K;try simp only [Aj,List.set]
         refine tkH 15 ⟨C3,D3⟩ (h:=?_);simp only [List.set];refine oD ?_;go_simp;go_wp2_with (fail);go_meet;exact ⟨pB,rfl,rfl,bz,F3⟩
       case rest=>
        obtain ⟨pB,rfl,rfl,bp,fc⟩:=hcut;have C1:=fc.cell C0 zq;have D1:=fc.cell D0 zq;have b9:=ak.trans fc zr;have bb:=Lib.hid (fun (v:World) (hv:Fr Non wc v)=>a4.out v (fc.trans hv zr));clear C0 D0 aw a4;generalize wc=wd at*;have C0:=C1;have D0:=D1;clear C1 D1 fc ak;go_upto_region 23 with (fail)
        go_cut [18,19] from 118 to 129 (fun s1 s2 wc=>∃pB:Nat,s1=.pointer (some ⟨pB,0,none⟩)∧s2=.bool FO∧Blk wc pB 52 TC∧Fr Non wd wc)
        case first=>
         have F0:Fr Non wd wd.drew:=(Fr.refl Non wd).drew;refine wp_region_held_drew (S:=fun w'=>w'.cell? ⟨aB,i,none⟩=some (.slice A' n c)∧w'.cell? ⟨dB,j,none⟩=some (.int .i64 d)) (by kernel_rfl) ⟨C0,D0⟩ (fun hHeld=> ?_);clear hHeld;refine tkH 0 ⟨C0,D0⟩ (h:=tkH 1 ⟨C0,D0⟩ (h:=tkH 2 ⟨C0,D0⟩ (h:=tkH 3 ⟨C0,D0⟩ (h:=tkH 4 ⟨C0,D0⟩ (h:=tkH 5 ⟨C0,D0⟩ (h:=tkH 6 ⟨C0,D0⟩ (h:=tkH 7 ⟨C0,D0⟩ (h:=?_))))))));simp only [List.set];refine Th 8 12 (by kernel_rfl) rfl rfl (by kernel_rfl) (by kernel_rfl) (fun K hK=> ?_) (fun K hK=> ?_)
         ·
          skip
          go_simp;go_wp2_with (go_at_call 23;(with_reducible refine (bb.out _ F0).mono ?_);rintro _ v1 ⟨rfl,ae⟩;have F1:=F0.trans ae zr;have C1:=F1.cell C0 zq;have D1:=F1.cell D0 zq);refine hK.out _ _ ⟨C1,D1⟩ (fun hZ=> ?_);clear hZ hK K;try simp only [Aj,List.set]
          refine tkH 9 ⟨C1,D1⟩ (h:=tkH 10 ⟨C1,D1⟩ (h:=tkH 11 ⟨C1,D1⟩ (h:=?_)));simp only [List.set];refine oG 12 (fun K hK=> ?_);go_simp;have ac:Fr Non v1 (v1.alloc (.cells #[.int .i64 0,.int .i64 0,.int .u64 0,.int .i64 0,.int .i64 0,.int .u64 0] 52)):=(Fr.refl _ _).alloc _;have ab:=Blk.new v1 52 #[.int .i64 0,.int .i64 0,.int .u64 0,.int .i64 0,.int .i64 0,.int .u64 0];have F2:=F1.trans ac zr;have C2:=F2.cell C0 zq;have D2:=F2.cell D0 zq;obtain ⟨pB,aa⟩:=Ab v1.heap.size;rw [aa.out] at ab ⊢;have bl:wd.heap.size≤pB:=by rw [← aa.out];exact F1.size
          refine hK.out _ _ ⟨C2,D2⟩ (fun hZ=> ?_);clear hZ hK K;try simp only [Aj,List.set]
          generalize v1.alloc (.cells #[.int .i64 0,.int .i64 0,.int .u64 0,.int .i64 0,.int .i64 0,.int .u64 0] 52)=v2 at*;have a1:=Bb (P:=Tryz.prog) pB 52 (cs:=TC) al (old:=#[.int .i64 0,.int .i64 0,.int .u64 0,.int .i64 0,.int .i64 0,.int .u64 0]) aq ar;refine oG 13 (fun K hK=> ?_);go_simp;have bz:=ab.setRow (cs:=TC);have F3:Fr Non wd (v2.setRow pB TC):=F2.setRow (fun hh=>absurd hh (by omega)) _;have C3:=F3.cell C0 zq;have D3:=F3.cell D0 zq;refine hK.out _ _ ⟨C3,D3⟩ (fun hZ=> ?_);clear hZ hK K;try simp only [Aj,List.set]
          refine tkH 14 ⟨C3,D3⟩ (h:=?_);simp only [List.set];refine oD ?_;go_simp;go_wp2_with (fail);go_meet;exact ⟨pB,rfl,rfl,bz,F3⟩
         ·
          have F0:Fr Non wd wd:=Fr.refl Non wd;go_simp;have ae:Fr Non wd ((wd.alloc (.cells #[.int .i64 0,.int .i64 0,.int .u64 0,.int .i64 0,.int .i64 0,.int .u64 0] 52)).drew):=((Fr.refl Non wd).alloc (.cells #[.int .i64 0,.int .i64 0,.int .u64 0,.int .i64 0,.int .i64 0,.int .u64 0] 52)).drew;have af:=(Blk.new wd 52 #[.int .i64 0,.int .i64 0,.int .u64 0,.int .i64 0,.int .i64 0,.int .u64 0]).drew;have F1:=F0.trans ae zr;have C1:=F1.cell C0 zq;have D1:=F1.cell D0 zq;obtain ⟨pB,aa⟩:=Ab wd.heap.size;rw [aa.out] at af ⊢;have bl:wd.heap.size≤pB:=by rw [← aa.out];exact Nat.le_refl _
          refine hK.out _ _ ⟨C1,D1⟩ (fun hZ=> ?_);clear hZ hK K;try simp only [Aj,List.set]
          generalize (wd.alloc (.cells #[.int .i64 0,.int .i64 0,.int .u64 0,.int .i64 0,.int .i64 0,.int .u64 0] 52)).drew=v1 at*;refine oG 8 (fun K hK=> ?_);go_simp;go_wp2_with (go_at_call 23;(with_reducible refine (bb.out _ F1).mono ?_);rintro _ v2 ⟨rfl,ac⟩;have F2:=F1.trans ac zr;have C2:=F2.cell C0 zq;have D2:=F2.cell D0 zq;have ab:=af.fr ac zq);refine hK.out _ _ ⟨C2,D2⟩ (fun hZ=> ?_);clear hZ hK K;try simp only [Aj,List.set]
          refine tkH 9 ⟨C2,D2⟩ (h:=tkH 10 ⟨C2,D2⟩ (h:=tkH 11 ⟨C2,D2⟩ (h:=?_)));simp only [List.set];have a1:=Bb (P:=Tryz.prog) pB 52 (cs:=TC) al (old:=#[.int .i64 0,.int .i64 0,.int .u64 0,.int .i64 0,.int .i64 0,.int .u64 0]) aq ar;refine oG 13 (fun K hK=> ?_);go_simp;have bz:=ab.setRow (cs:=TC);have F3:Fr Non wd (v2.setRow pB TC):=F2.setRow (fun hh=>absurd hh (by omega)) _;have C3:=F3.cell C0 zq;have D3:=F3.cell D0 zq;refine hK.out _ _ ⟨C3,D3⟩ (fun hZ=> ?_);clear hZ hK K;try simp only [Aj,List.set]
          refine tkH 14 ⟨C3,D3⟩ (h:=?_);simp only [List.set];refine oD ?_;go_simp;go_wp2_with (fail);go_meet;exact ⟨pB,rfl,rfl,bz,F3⟩
        case rest=>
         obtain ⟨qB,rfl,rfl,bq,fe⟩:=hcut;have cj:=bp.fr fe zq;have ct:=bq;have da:=b9.trans fe zr;have lp:=Bi (P:=Tryz.prog) pB 52 Tryz.underlying52 rfl (cs:=TC) al;have lq:=Bi (P:=Tryz.prog) qB 52 Tryz.underlying52 rfl (cs:=TC) al;generalize wc=we at*;have P0:=cj;have Q0:=ct;have F0:Fr Non we we.drew:=(Fr.refl Non we).drew;clear bb C0 D0 bp bq fe b9 ar aq cj ct;have fz:=da;clear F0;go_wp2_with (fail);go_roundw
         case rel=>exact ⟨j+1,by go_num,by omega,fz⟩
         case measure=>simp [intOf];omega
      ·
       obtain rfl:j=4:=by omega
       have u0:decide (((4:Nat):Int)<4)=false:=by decide
       have a8:decide (4<4)=false:=by decide
       have fz:=g9.trans ak zr;go_wp2_with (fail);go_roundw
       case rel=>exact ⟨i+1,by go_num,by omega,fz⟩
       case measure=>simp [intOf];omega
  ·
   obtain rfl:i=3:=by omega
   have t0:decide (((3:Nat):Int)<3)=false:=by decide
   have cv:decide (3<3)=false:=by decide
   have fz:=c3.trans hf zr;have kl:=Lib.hid (ax.out wr fz);clear ax ai a5;go_wp2_with (go_at_call 15;(with_reducible refine (kl.out).mono ?_);rintro _ wq ⟨rfl,fq⟩;(have hd:=Lib.hid (bi.out wq (fz.trans fq zr))));exact hd.out
end Oq
end
section
open Go.ChangeShapes Go.WideShapes Go.ChangeAt Go.RowKit
theorem Am4 (os:Os) (started:os.Started) (H:Type) (enc:TypeId × Value→H):
  ReturnsInHanded {} Tryz.checked os 5 .any (fun w args=>(Rows.forkTellsSpec.pre enc Tryz.prog Tryz.f5 [] false w args∧laidMetH Tryz.prog [("huddle/op.kinds",Rows.laid_huddle_op_kinds)] w)∧sizedMet enc Tryz.prog Tryz.f5 (OpenSpec.ofChange Rows.forkTellsSpec) false w args)
   (Rows.forkTellsSpec.post enc Tryz.prog Tryz.f5 false true false false):=by
 refine returnsInHanded_of_change_and (C:=Tryz.checked) (X:=fun w _=>laidMetH Tryz.prog [("huddle/op.kinds",Rows.laid_huddle_op_kinds)] w) (fun _ _ _ hh h=>h.of_heap hh) Tryz.own started (by kernel_rfl) Tryz.func5
  (ChangeSpec.witness_at (enc:=enc) (C:=Tryz.checked) (os:=os) (X:=fun w _=>laidMetH Tryz.prog [("huddle/op.kinds",Rows.laid_huddle_op_kinds)] w) false (Hc os) #[.slice none 0 0,.slice none 0 0,.int .i64 0] 8 rfl (by kernel_rfl) (by kernel_rfl) (by kernel_rfl) (by kernel_rfl) (by kernel_rfl) (Kz os _)) ?_
 intro W base args ds gs before hval0 hW _ _ hL _;have hk:=Ky hL;have hval:∀(j:Nat) t v,Tryz.f5.params[j]? =some t→args[j]? =some v→Value.okWide Tryz.prog W .any base t v:=hval0;have hW':=hW;obtain ⟨p,q,hA0,hV,rfl,hfz,hnd⟩:=hW;have hA:DataW.TrodAll enc Tryz.prog W 0 (fun _=>true) true Tryz.f5.params.toList args.toList ds p:=hA0;rw [Tryz.params5] at hA hval;obtain ⟨v0,v1,v2,d0,d1,d2,p0,p1,p2,rfl,rfl,rfl,h0,h1,h2⟩:=trodAll_three hA;obtain ⟨A0,c0,l0,rfl,hlc0,hc0,hr0,hok0⟩:=Gg Tryz.underlying22 Tryz.underlying3 (by kernel_rfl) (hval 0 22 v0 rfl rfl) h0;obtain ⟨A1,c1,l1,rfl,hlc1,hc1,hr1,hok1⟩:=Gg Tryz.underlying22 Tryz.underlying3 (by kernel_rfl) (hval 1 22 v1 rfl rfl) h1;obtain ⟨x2,rfl,rfl,rfl,wf2⟩:=open_int Tryz.underlying3 (hval 2 3 v2 rfl rfl) h2;have bd2:=Gx wf2;refine (Oq.forkTells_law A0 c0 l0 A1 c1 l1 x2 W hk hr0 hlc0 hc0 hok0 hr1 hlc1 hc1 hok1 bd2.1 bd2.2).mono fun e W' ⟨he,hf⟩=> ?_;exact ⟨_,he,J5 Tryz.laidOut (by kernel_rfl) rfl (by kernel_rfl) Tryz.underlying4 hW' ⟨rfl,rfl,rfl⟩ hf⟩
theorem Am5:Rows.ForkTellsSaid:=
 OpenClaim.holds_of_wide 5 Tryz.f5 rfl rfl rfl rfl rfl rfl rfl ⟨rfl,rfl,rfl,rfl,rfl⟩ rfl rfl rfl rfl rfl (by kernel_rfl) Tryz.func5 (by kernel_rfl)
  (of_decide_eq_true (by kernel_rfl)) (by unfold Func.isWrapper;rw [if_neg (by decide+kernel)];exact ⟨rfl,rfl⟩)
  (fun os started H enc _=>Am4 os started H enc)
end
section
open Go
theorem forkTells_card_holds:Rows.ForkTellsCardSaid:=
 Claim7.holds_tied_plain_at .later [] [.data] true (true, "5a1175df055d93971c25109e8ab4623de026253a388d36766dc23903d972f333") false
  Am5 (fun _ h=>by cases h) (by kernel_rfl) (fun _ h=>by cases h) forkTells_row_tie rfl ⟨rfl,rfl⟩ (by kernel_rfl) rfl
  (fun f fn hf hfn=>by
   obtain rfl:f=5:=Option.some.inj ((show Tryz.prog.funcNamed "huddle/huddlelaw13.ForkTells" =some 5 by kernel_rfl).symm.trans hf)|>.symm;obtain rfl:fn=Tryz.f5:=(Option.some.inj (Tryz.func5.symm.trans hfn)).symm
   exact ⟨by kernel_rfl,fun j t ht=>by
    rw [Tryz.params5] at ht
    have hm:t∈([22,22,3]:List TypeId):=by
     have h2:=Array.mem_of_getElem? ht;simpa using h2
    have hall:([22,22,3]:List TypeId).all (fun t=> !(Tryz.prog.wantsStandIn t))=true:=by kernel_rfl
    have:=List.all_eq_true.1 hall t hm;exact (by simpa using this:Tryz.prog.wantsStandIn t=false)⟩)
  (by kernel_rfl)
end
end Go.Proofs.YtkanjaikgphjfaaGreatDoor
