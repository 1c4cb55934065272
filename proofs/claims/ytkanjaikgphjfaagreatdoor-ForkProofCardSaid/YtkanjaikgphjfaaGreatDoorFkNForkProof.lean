/-
  huddlelaw13.ForkProof: both operations of a proof are of the device, of one number, signed by it, not the same, and neither is ahead of the other.
    Conditions: op.kinds lies as its text lays it; the numbers read.
  ForkProof: whatever the input is, where the one listed variable is as its text lays it, the law returns true, and nothing that was there has turned.
    Condition: none.
  ForkProof: the tied card.
    Condition: none.
-/
import Derived.ChangeVars
import Derived.JoinedOf
import Derived.RowKitTokens
import Derived.LaidLaws
import Derived.Test.YtkanjaikgphjfaaGreatDoorTie
import Derived.Test.YtkanjaikgphjfaaGreatDoorCards
import Derived.SevenTiedAt
import Derived.Test.YtkanjaikgphjfaaGreatDoorFkN1
import Derived.Test.YtkanjaikgphjfaaGreatDoorFkN3
import Derived.Test.YtkanjaikgphjfaaGreatDoorFkN4
import Derived.Test.YtkanjaikgphjfaaGreatDoorFkN7
import Derived.Test.YtkanjaikgphjfaaGreatDoorFkN15
set_option maxRecDepth 100000
set_option maxHeartbeats 16000000
namespace Go.Proofs.YtkanjaikgphjfaaGreatDoor
section
open Go.RowKit
attribute [local go_sem ↓] Go.wp_at_zero Go.wp_at_succ
namespace Oq
attribute [local go_sem] Bool.not_false Bool.not_true
attribute [local go_sem ↓] Fz Gs Cg Es Jv Al9 Am0 E8
theorem forkProof_law (A:Option Addr) (c:Nat) (l0:List Int) (A':Option Addr) (c':Nat) (l1:List Int) (dv:Int) (w:World) (hk:KindsAt w) (hr:Rd w w.heap.size 1 A l0.length (l0.map Iv)) (hnc:l0.length≤c) (hnm:c≤9223372036854775807) (hok:∀x∈l0,I64 x) (hr':Rd w w.heap.size 1 A' l1.length (l1.map Iv)) (hnc':l1.length≤c') (hnm':c'≤9223372036854775807) (hok':∀x∈l1,I64 x) (dv0: -9223372036854775808≤dv) (dv1:dv≤9223372036854775807):
  Calls Tryz.prog 8 #[.slice A l0.length c,.slice A' l1.length c',.int .i64 dv] w (Ad true w):=by
 have br:0<w.heap.size:=World.block_lt_of_cell? w _ (hk 0 (by decide));have km:=Lib.hid (Jt w.heap.size l0.length c A l0 w rfl hr (by omega) hok);have d2:=Lib.hid (fun (b:Nat) (r:FG) (w':World) (hf:Fr Non w w') (h:r.own w' b) (ct:r.cards=Ba 0 [1,2,2,3])=>Ju b r w' h ct (Nat.lt_of_lt_of_le br hf.size) (hk.fr hf));have bo:=fun (w':World) (hf:Fr Non w w')=>M6 w' (hk.fr hf);unfold Ad at bo;replace bo:=Lib.hid bo;have de:=Lib.hid (fun (b:Nat) (r:FG) (v:World) (hf:Fr Non w v) (h:r.own v b) (ec:r.l≠[])=>Ms b w.heap.size l1.length c' A' l1 r v h ec rfl (hr'.fr hf zr) (by omega) hok');obtain ⟨n1,d1⟩:=Ab l1.length;rw [d1.out] at de ⊢;have cj:Hid (∀wz,Fr Non w wz→Ad true w (.returned (.bool true)) wz):=fun wz h=>⟨rfl,h⟩;generalize Ad true w=POST at*;obtain ⟨n0,d8⟩:=Ab l0.length;rw [d8.out] at km ⊢;clear hk br hr hnc hnm hok hr' hnc' hnm' hok' d1;go_enter Tryz.func8,Tryz.ntmps8;go_upto_region 2 with (go_at_call 9;(with_reducible refine (km.out).mono ?_);rintro _ w1 ⟨r,rfl,f1,ro,bd,ee⟩;(have bn:=Blk.new w1 28 #[.slice none 0 0,.slice none 0 0,.slice none 0 0,.slice none 0 0]);(have a5:=Bb (P:=Tryz.prog) w1.heap.size 28 (cs:=r.cells) Bu (old:=#[.slice none 0 0,.slice none 0 0,.slice none 0 0,.slice none 0 0]) rfl (Ez r)))
 have bg:Blk ((w1.alloc (.cells #[.slice none 0 0,.slice none 0 0,.slice none 0 0,.slice none 0 0] 28)).setRow w1.heap.size r.cells) w1.heap.size 28 r.cells:=bn.setRow;have fG:Fr Non w1 ((w1.alloc (.cells #[.slice none 0 0,.slice none 0 0,.slice none 0 0,.slice none 0 0] 28)).setRow w1.heap.size r.cells):=((Fr.refl Non w1).alloc _).setRow (fun hh=>absurd hh (by omega)) _;have f2:=f1.trans fG zr;have b1:=ro.non fG;obtain ⟨gv,d0⟩:=Ab w1.heap.size;rw [d0.out] at bg f2 b1 ⊢;clear a5 bn fG ro f1;generalize (w1.alloc (.cells #[.slice none 0 0,.slice none 0 0,.slice none 0 0,.slice none 0 0] 28)).setRow gv r.cells=w2 at*;have hl:=Bi (P:=Tryz.prog) gv 28 Tryz.underlying28 rfl (cs:=r.cells) Bu;go_upto_region 3 with (go_at_call 10;(with_reducible refine (d2.out _ r _ f2 b1 bd).mono ?_);rintro _ w3 ⟨g,b,rfl,fk,hg,cw,dn,f3⟩)
 have b0:=bg.fr f3 zq;have ar:=b1.non f3;have ci:=f2.trans f3 zr;have fl:r.l≠[]:=by rw [ee];exact Ht _ _
 have ac:r.ids.length=r.l.length:=FG.ids_len r;have aj:Cs r.ids:=ar.fkOk;have bw:r.ids.length≤14:=by rw [ac];exact ar.num.few
 have c2:w3.cell? ⟨gv,2,none⟩=some (.slice r.iA r.ids.length r.iC):=by have h9:=b0.cell 2;rw [show r.cells[2]? =some (.slice r.iA r.l.length r.iC) from rfl,← ac] at h9;exact h9
 have a9:=ar.rdIds;rw [← ac] at a9;have bm:=Lib.hid a9;have ei:r.ids.Nodup:=Jx ar.rows;have eg:=Lib.hid (fun (v:World)=>Hx dv 4 v dv0 dv1 (by omega) (by omega));have hD:=Hw (n:=dv) (m:=4) (by omega);have fg:=hD.1;have en:=hD.2
 have cu:Hid (∀(ids:List Id),(∀x∈ids,x∈r.ids)→Cs ids→ids.Nodup→∀(d:Int) (x y:Id),Ce ids d=some (x,y)→x.b=d∧x.ok∧y.ok∧Id.eq x y=false∧Id.less x y=true∧Ct ids x=true∧Ct ids y=true∧bef r.l x y=false∧bef r.l y x=false∧∃(p q:Nat) (n m:Pn) (c:Cd),plc r.l x=some p∧r.l[p]? =some n∧plc r.l y=some q∧r.l[q]? =some m∧n.o.ok∧m.o.ok∧n.o.by_=d∧m.o.by_=d∧n.o.sq=m.o.sq∧(n.o.put==m.o.put)=false∧Cw r.cards d=some c∧c.s<18446744073709551616∧c.d=d∧Sg.check c.s n.o.bare n.o.r n.o.s=true∧Sg.check c.s m.o.bare m.o.r m.o.s=true):=by
  intro ids ad ep co d x y h;obtain ⟨h1,h2,h3,h4,h5,h6,h7⟩:=Al3 ep co h;obtain ⟨k1,k2,k3⟩:=Al4 ar (ad x h1) (ad y h2) (by omega) h5 h6;rw [h3] at k3;exact ⟨h3,(aj x (ad x h1)).1,(aj y (ad y h2)).1,Bool.eq_false_iff.2 (fun e=>h6 ((Id.eq_iff x y).1 e)),h7,(G7 _ _).2 h1,(G7 _ _).2 h2,k1,k2,k3⟩
 have a3:=Lib.hid (show GAt w3 b g∧g.cards=r.cards∧g.pns=r.l∧g.cards.length≤1000000 from ⟨hg,cw,dn,by rw [cw];have:=ar.cfew;omega⟩);obtain ⟨gb,bs⟩:=Ab g.gb
 have dx:Hid (∀(nm:Id) (p:Nat) (n:Pn) (v:World),Fr Non w3 v→plc r.l nm=some p→r.l[p]? =some n→nm.ok→Calls Tryz.prog 24 #[.pointer (some ⟨gb,0,none⟩),.agg nm.V] v fun e v'=>∃y:OpL,e=.returned (.tuple #[.agg y.cells,.bool true])∧Hid (y.op=n.o)∧Hid (y.own v' v.heap.size)∧Fr Non v v'):=by
  intro nm p n v hv hp hn el;obtain ⟨x,h1,h2⟩:=Ac6 a3.out.2.2.1 hp hn;have h3:=Xl b g nm v (a3.out.1.fr hv) el;rw [h1,bs.out] at h3;refine h3.mono ?_;rintro e v' ⟨y,rfl,y1,y2,y3⟩;exact ⟨y,rfl,y1.trans h2,y2,y3⟩
 have ea:Hid (∀(d:Int) (c:Cd) (v:World),Fr Non w3 v→Cw r.cards d=some c→Calls Tryz.prog 25 #[.pointer (some ⟨gb,0,none⟩),.int .i64 d] v fun e v'=>e=.returned (.tuple #[.agg c.cells.toArray,.bool true])∧Fr Non v v'):=by
  intro d c v hv hc;have h3:=Ks b g d v (a3.out.1.fr hv) a3.out.2.2.2;have h4:g.card d=some c:=by unfold Gph.card;rw [a3.out.2.1];exact hc
  rw [h4,bs.out] at h3;exact h3
 have ef:Hid (∀(x y:Id) (v:World),Fr Non w3 v→x.ok→y.ok→Calls Tryz.prog 16 #[.pointer (some ⟨gb,0,none⟩),.agg x.V,.agg y.V] v fun e w'=>e=.returned (.bool (bef r.l x y))∧Fr Non v w'):=fun x y v hv hx hy=>by
  have h9:=Va b g x y v (a3.out.1.fr hv) hx hy;rw [g.before_eq,a3.out.2.2.1,bs.out] at h9;exact h9
 rw [bs.out];have fn:Hid (∀x∈r.ids,x∈r.ids):=fun x hx=>hx;clear hD bs cw dn hg fk ee bd d0 d8 km d2 b1 dv0 dv1;generalize C4 dv 4=aD at*;obtain ⟨D,b3⟩:∃D,(1:Int)+aD=D:=⟨_,rfl⟩;have e3:IntKind.i64.wrap ((1:Int)+aD)=D:=by rw [← b3];exact IntWalk.i64_in _ (by omega)
 replace b3:=Lib.hid b3;have dk:w3.cell? ⟨gv,2,none⟩=some (.slice r.iA r.l.length r.iC):=b0.cell 2;go_upto_region 6 with (go_at_call 18;(with_reducible refine (eg.out _).mono ?_);rintro _ _ ⟨rfl,rfl⟩)
 have V0:Blk w3 gv 28 r.cells:=b0;have C0:w3.cell? ⟨gv,2,none⟩=some (.slice r.iA r.l.length r.iC):=dk;have F0:Fr Non w3 w3.drew:=(Fr.refl Non w3).drew;refine wp_region_held_drew (S:=fun w'=>Blk w' gv 28 r.cells∧w'.cell? ⟨gv,2,none⟩=some (.slice r.iA r.l.length r.iC)) (by kernel_rfl) ⟨V0,C0⟩ (fun hHeld=> ?_);clear hHeld;refine tkH 0 ⟨V0,C0⟩ (h:=tkH 1 ⟨V0,C0⟩ (h:=tkH 2 ⟨V0,C0⟩ (h:=tkH 3 ⟨V0,C0⟩ (h:=?_))));simp only [List.set];refine oG 4 (fun K hK=> ?_);go_simp;go_wp2_with (go_at_call 11;(with_reducible refine (de.out _ r _ (ci.trans F0 zr) (ar.non F0) fl).mono ?_);rintro _ v1 ⟨on,ys,ns,A4,c4,rfl,dm,dz,dl,bi,o4,b5⟩;have F1:=F0.trans b5 zr;have V1:=V0.fr F1 zq;have C1:=F1.cell C0 zq);refine hK.out _ _ ⟨V1,C1⟩ (fun hZ=> ?_);clear hZ hK K;try simp only [Aj,List.set]
 refine oG 5 (fun K hK=> ?_);go_simp;have bh:Fr Non v1 (v1.alloc (.cells #[.slice r.iA r.l.length r.iC,.slice A4 ns.length c4] 25)):=(Fr.refl _ _).alloc _;have bA:=Blk.new v1 25 #[.slice r.iA r.l.length r.iC,.slice A4 ns.length c4];have o5:=o4.fr bh zr;have F2:=F1.trans bh zr;have V2:=V0.fr F2 zq;have C2:=F2.cell C0 zq;refine hK.out _ _ ⟨V2,C2⟩ (fun hZ=> ?_);clear hZ hK K;try simp only [Aj,List.set]
 generalize v1.alloc (.cells #[.slice r.iA r.l.length r.iC,.slice A4 ns.length c4] 25)=v2 at*;refine tkH 6 ⟨V2,C2⟩ (h:=?_);simp only [List.set];refine oD ?_;go_simp;have hP:=M8 ar dm dz dl bi;have ag:r.l.length=r.ids.length:=ac.symm;obtain ⟨AC,da⟩:∃AC:Array Value,AC=#[.slice r.iA r.l.length r.iC,.slice A4 ns.length c4]:=⟨_,rfl⟩;rw [← da] at bA
 have bl:Hid (∀i:Nat,i<2→∃(ids:List Id) (n c:Nat) (A':Option Addr) (B:Nat),AC[i]? =some (.slice A' n c)∧Hid (ids.length=n)∧n≤14∧Cs ids∧ids.Nodup∧(∀x∈ids,x∈r.ids)∧Hid (∀v,Fr Non v2 v→Rd v B 3 A' n (ids.flatMap Id.cells))):=by
  intro i hi;rw [da]
  match i,hi with
  |0,_=>exact ⟨r.ids,_,_,_,w3.heap.size,rfl,ac,by rw [ag];exact bw,aj,ei,fun x hx=>hx,fun v hv=>by rw [ag];exact bm.out.fr (F2.trans hv zr) zr⟩
  |1,_=>exact ⟨ns,_,_,_,v2.heap.size,rfl,rfl,hP.len,hP.ok,hP.nodup,hP.sub,fun v hv=>o5.rd.fr hv zr⟩
 obtain ⟨aB,d7⟩:=Ab v1.heap.size;rw [d7.out] at bA ⊢;have ap:(Tryz.prog.info? 67).map (·.size)=some 27:=by kernel_rfl
 have fa:=ci.trans F2 zr;have kb:=Lib.hid (fun (x y:Id) (v:World) (hv:Fr Non v2 v)=>ef.out x y v (F2.trans hv zr));have ko:=Lib.hid (fun (nm:Id) (p:Nat) (n:Pn) (v:World) (hv:Fr Non v2 v)=>dx.out nm p n v (F2.trans hv zr));have kd:=Lib.hid (fun (d:Int) (c:Cd) (v:World) (hv:Fr Non v2 v)=>ea.out d c v (F2.trans hv zr));clear V0 V1 V2 C0 C1 C2 F0 F1 F2 dm dz dl bi o4 o5 bh b5 hP da d7 a3 dx ea ef de b0 bg c2 dk ar hl ac ag bw ei aj bm a9 fn e3 fg en eg ci f2 f3 b3;generalize r.l=l at*;go_wp2_with (fail)
 go_loopw [11] (fun v wr=>∃i:Nat,v=.int .i64 (i:Int)∧i≤2∧Fr Non v2 wr) (fun v _=>2-(intOf v).toNat)
 case atStart=>exact ⟨0,rfl,by omega,Fr.refl _ _⟩
 case round=>
  obtain ⟨i,rfl,fv,hf⟩:=hrel
  by_cases hin:i<2
  ·
   obtain ⟨ids,n,c,A',B,d3,hn,fo,hok,co,ad,db⟩:=bl.out i hin;have cI:wr.cell? ⟨aB,i,none⟩=some (.slice A' n c):=((bA.fr hf zq).cell i).trans d3;have i1:(0:Int)≤i:=by omega
   have i2:(i:Int)<2:=by omega
   have i3:(i:Int).toNat=i:=by omega
   have t0:decide ((i:Int)<2)=true:=decide_eq_true i2;have ez:decide (i<2)=true:=decide_eq_true hin;have ft:IntKind.i64.wrap ((i:Int)+1)=(i:Int)+1:=IntWalk.i64_in _ (by omega);have kP:=Lib.hid (fun (gvv:Value)=>Jw B n c A' ids D gvv wr hn (db.out wr hf) (by omega) hok);unfold Ef at kP;have kh:=Lib.hid (fun (x:Id) (v:World) (hv:Fr Non wr v)=>Oo B n c A' ids x v hn ((db.out wr hf).fr hv zr) (by omega));unfold Ad at kh;have cg:=Lib.hid (fun (x y:Id) (h:Ce ids D=some (x,y))=>cu.out ids ad hok co D x y h);obtain ⟨PK,ds⟩:=Ab (Ce ids D);rw [ds.out] at kP cg;have cr:(Tryz.prog.info? 52).map (·.size)=some (Co PK).size:=by rw [Ee,Gu]
   have c3:(Co PK).all (·.oneCell')=true:=Na _;have cl:(#[.int .i64 0,.int .i64 0,.int .u64 0,.int .i64 0,.int .i64 0,.int .u64 0]:Array Value).size=(Co PK).size:=by rw [Gu];rfl
   have fi:=Lib.hid (rfl:Co PK=Co PK);obtain ⟨TC,a8⟩:=Ab (Co PK);rw [a8.out] at kP cr c3 cl;obtain ⟨FO,bx⟩:=Ab PK.isSome;rw [bx.out] at kP;clear fi;go_upto_region 11 with (go_at_call 22;(with_reducible refine (kP.out _).mono ?_);rintro _ w7 ⟨rfl,f7⟩;(have dg:=Bb (P:=Tryz.prog) w7.heap.size 52 (cs:=TC) cr (old:=#[.int .i64 0,.int .i64 0,.int .u64 0,.int .i64 0,.int .i64 0,.int .u64 0]) cl c3);(have bn:=Blk.new w7 52 #[.int .i64 0,.int .i64 0,.int .u64 0,.int .i64 0,.int .i64 0,.int .u64 0]))
   have bp:Blk ((w7.alloc (.cells #[.int .i64 0,.int .i64 0,.int .u64 0,.int .i64 0,.int .i64 0,.int .u64 0] 52)).setRow w7.heap.size TC) w7.heap.size 52 TC:=bn.setRow;have fT:Fr Non w7 ((w7.alloc (.cells #[.int .i64 0,.int .i64 0,.int .u64 0,.int .i64 0,.int .i64 0,.int .u64 0] 52)).setRow w7.heap.size TC):=((Fr.refl Non w7).alloc _).setRow (fun hh=>absurd hh (by omega)) _;have f8:=f7.trans fT zr;obtain ⟨pB,ed⟩:=Ab w7.heap.size;rw [ed.out] at bp f8 ⊢;clear dg bn fT f7 ed cI;generalize (w7.alloc (.cells #[.int .i64 0,.int .i64 0,.int .u64 0,.int .i64 0,.int .i64 0,.int .u64 0] 52)).setRow pB TC=w8 at*;have bk:=hf.trans f8 zr
   rcases PK with _|⟨x,y⟩
   ·
    obtain rfl:false=FO:=bx.out;go_wp2_with (fail);go_roundw
    case rel=>exact ⟨i+1,by go_num,by omega,bk⟩
    case measure=>simp [intOf];omega
   ·
    obtain rfl:true=FO:=bx.out;obtain ⟨xb,dh,cp,ec,bt,ev,fj,fc,ek,p,q,nx,ny,cd,p1,p2,q1,q2,d6,eh,b6,b7,b8,a6,bd,ct,a4,e5,e7⟩:=cg.out x y rfl;clear xb;replace b6:=Lib.hid b6;replace b7:=Lib.hid b7;replace b8:=Lib.hid b8;replace a4:=Lib.hid a4;replace bd:=Lib.hid bd;replace a6:=Lib.hid a6
    have bf:Hid (∀v,Fr Non w8 v→v.cell? ⟨pB,0,none⟩=some (.int .i64 x.b)∧v.cell? ⟨pB,1,none⟩=some (.int .i64 x.s)∧v.cell? ⟨pB,2,none⟩=some (.int .u64 (x.u:Int))∧v.cell? ⟨pB,3,none⟩=some (.int .i64 y.b)∧v.cell? ⟨pB,4,none⟩=some (.int .i64 y.s)∧v.cell? ⟨pB,5,none⟩=some (.int .u64 (y.u:Int))):=fun v hv=>by
     have b9:=bp.fr hv zq;rw [← a8.out] at b9;exact ⟨b9.cell 0,b9.cell 1,b9.cell 2,b9.cell 3,b9.cell 4,b9.cell 5⟩
    obtain ⟨x0,x1,x2,y0,y1,y2⟩:=bf.out w8 (Fr.refl _ _);have dy:=Lib.hid (ko.out x p nx w8 bk p1 p2 dh);go_upto_region 13 with (go_at_call 24;(with_reducible refine (dy.out).mono ?_);rintro _ w9 ⟨u1,rfl,bb,dw,f9⟩;(have bn:=Blk.new w9 67 zO);(have a5:=Bb (P:=Tryz.prog) w9.heap.size 67 (cs:=u1.cells) ap (old:=zO) rfl (Fb u1)))
    have bu:=bn.setRow (cs:=u1.cells);have fu:Fr Non w9 ((w9.alloc (.cells zO 67)).setRow w9.heap.size u1.cells):=((Fr.refl Non w9).alloc _).setRow (fun hh=>absurd hh (by omega)) _;have bz:=f9.trans fu zr;have l1:=Lib.hid ((dw.out.lies.lower (Nat.zero_le _)).non fu);clear bn a5 fu dw f9 x0 x1 x2 y0 y1 y2 dy;generalize (w9.alloc (.cells zO 67)).setRow w9.heap.size u1.cells=w10 at*;obtain ⟨aX,eb⟩:=Ab w9.heap.size;rw [eb.out] at bu ⊢;clear eb;obtain ⟨x0,x1,x2,y0,y1,y2⟩:=bf.out w10 bz;have d9:=Lib.hid (ko.out y q ny w10 (bk.trans bz zr) q1 q2 cp);go_upto_region 14 with (go_at_call 24;(with_reducible refine (d9.out).mono ?_);rintro _ al ⟨u2,rfl,ba,di,ej⟩;(have bn:=Blk.new al 67 zO);(have a5:=Bb (P:=Tryz.prog) al.heap.size 67 (cs:=u2.cells) ap (old:=zO) rfl (Fb u2)))
    have bv:=bn.setRow (cs:=u2.cells);have fu:Fr Non al ((al.alloc (.cells zO 67)).setRow al.heap.size u2.cells):=((Fr.refl Non al).alloc _).setRow (fun hh=>absurd hh (by omega)) _;have ab:=ej.trans fu zr;have d5:=bu.fr ab zq;have dq:=Lib.hid (l1.out.non ab);have dt:=Lib.hid ((di.out.lies.lower (Nat.zero_le _)).non fu);have cc:=bz.trans ab zr;clear bn a5 fu di ej x0 x1 x2 y0 y1 y2 d9 bu l1 ab bz;generalize (al.alloc (.cells zO 67)).setRow al.heap.size u2.cells=w12 at*;obtain ⟨aY,dp⟩:=Ab al.heap.size;rw [dp.out] at bv ⊢;clear dp;have cf:=Lib.hid (kd.out D cd w12 (bk.trans cc zr) bd.out);have dj:cd.cells.toArray.all (·.oneCell')=true:=by simp [Cd.cells,Value.oneCell']
    have ce:(Tryz.prog.info? 71).map (·.size)=some cd.cells.toArray.size:=Am1;have d4:(zC:Array Value).size=cd.cells.toArray.size:=rfl
    have b4:=Lib.hid (fun (u:OpL) (n:Pn) (v:World) (hu:u.op=n.o) (hl:u.lies v 0) (hk:n.o.ok) (hb:n.o.by_=D) (hs:Sg.check cd.s n.o.bare n.o.r n.o.s=true)=>show Calls Tryz.prog 26 #[.agg cd.cells.toArray,.agg u.cells] v (Ad true v) from by
     have h1:=Lg cd.d cd.m cd.l cd.k cd.s u v hl.at (by rw [hu];exact hk) ct;have e1:u.by_=D:=by rw [← hb,← hu];rfl
     have e2:u.r=n.o.r:=by rw [← hu];rfl
     have e3:u.s=n.o.s:=by rw [← hu];rfl
     have e4:((u.by_==cd.d)&&Sg.check cd.s u.op.bare u.r u.s)=true:=by rw [e1,a4.out,beq_self_eq_true,hu,e2,e3,hs];rfl
     rw [e4] at h1;exact h1)
    obtain ⟨CC,es⟩:=Ab cd.cells.toArray;rw [es.out] at cf dj ce d4 b4;go_upto_region 15 with (go_at_call 25;(with_reducible refine (cf.out).mono ?_);rintro _ ak ⟨rfl,du⟩;(have bn:=Blk.new ak 71 zC);(have a5:=Bb (P:=Tryz.prog) ak.heap.size 71 (cs:=CC) ce (old:=zC) d4 dj))
    have bc:=bn.setRow (cs:=CC);have fu:Fr Non ak ((ak.alloc (.cells zC 71)).setRow ak.heap.size CC):=((Fr.refl Non ak).alloc _).setRow (fun hh=>absurd hh (by omega)) _;have aa:=du.trans fu zr;have bX:=d5.fr aa zq;have bY:=bv.fr aa zq;have lX:=Lib.hid (dq.out.non aa);have lY:=Lib.hid (dt.out.non aa);have bq:=cc.trans aa zr;clear bn a5 fu du cf d5 bv dq dt aa cc;generalize (ak.alloc (.cells zC 71)).setRow ak.heap.size CC=w14 at*;obtain ⟨cB,dr⟩:=Ab ak.heap.size;rw [dr.out] at bc ⊢;clear dr;obtain ⟨x0,x1,x2,y0,y1,y2⟩:=bf.out w14 bq;obtain ⟨SQ,c8⟩:=Ab nx.o.sq;have eu:w14.cell? ⟨aX,0,none⟩=some (.int .i64 D):=by rw [bX.cell 0,← b6.out,← bb.out];rfl
    have e9:w14.cell? ⟨aX,1,none⟩=some (.int .i64 SQ):=by rw [bX.cell 1,← c8.out,← bb.out];rfl
    have e0:w14.cell? ⟨aY,0,none⟩=some (.int .i64 D):=by rw [bY.cell 0,← b7.out,← ba.out];rfl
    have em:w14.cell? ⟨aY,1,none⟩=some (.int .i64 SQ):=by rw [bY.cell 1,← c8.out,b8.out,← ba.out];rfl
    have fp:(D !=D)=false:=by simp
    have fs:(SQ !=SQ)=false:=by simp
    have fw:=Ko;have ca:=Lib.hid (N9 x y);rw [bt] at ca;unfold Ad at ca;have c5:=Lib.hid (fun (v:World) (hv:Fr Non w14 v)=>b4.out u1 nx v bb.out (lX.out.non hv) d6 b6.out e5);have c6:=Lib.hid (fun (v:World) (hv:Fr Non w14 v)=>b4.out u2 ny v ba.out (lY.out.non hv) eh b7.out e7);have ks:=Lib.hid (fun (v:World) (hv:Fr Non w14 v)=>Vk u1 u2 v (lX.out.non hv).at (by rw [bb.out];exact d6) (lY.out.non hv).at (by rw [ba.out];exact eh));rw [bb.out,ba.out,a6.out] at ks;have ao:=bk.trans bq zr;have df:=Lib.hid (fun (v:World) (hv:Fr Non w14 v)=>kb.out x y v (ao.trans hv zr) dh cp);have ck:=Lib.hid (fun (v:World) (hv:Fr Non w14 v)=>kb.out y x v (ao.trans hv zr) cp dh);rw [fc] at df;rw [ek] at ck;have bj:=f8.trans bq zr;have cy:=Lib.hid (fun (v:World) (hv:Fr Non w14 v)=>kh.out x v (bj.trans hv zr));have cz:=Lib.hid (fun (v:World) (hv:Fr Non w14 v)=>kh.out y v (bj.trans hv zr));rw [ev] at cy;rw [fj] at cz;unfold Ad at c5 c6 ks;have lc:=Bi (P:=Tryz.prog) cB 71 Tryz.underlying71 rfl (cs:=CC) ce;have lx:=Bi (P:=Tryz.prog) aX 67 Tryz.underlying67 rfl (cs:=u1.cells) ap;have ly:=Bi (P:=Tryz.prog) aY 67 Tryz.underlying67 rfl (cs:=u2.cells) ap;have a7:=(bA.fr ao zq).cell i;rw [d3] at a7;have ae:Hid (∀v,Fr Non w14 v→Blk v cB 71 CC∧Blk v aX 67 u1.cells∧Blk v aY 67 u2.cells∧v.cell? ⟨aB,i,none⟩=some (.slice A' n c)∧v.cell? ⟨pB,0,none⟩=some (.int .i64 x.b)∧v.cell? ⟨pB,1,none⟩=some (.int .i64 x.s)∧v.cell? ⟨pB,2,none⟩=some (.int .u64 (x.u:Int))∧v.cell? ⟨pB,3,none⟩=some (.int .i64 y.b)∧v.cell? ⟨pB,4,none⟩=some (.int .i64 y.s)∧v.cell? ⟨pB,5,none⟩=some (.int .u64 (y.u:Int))):=fun v hv=>⟨bc.fr hv zq,bX.fr hv zq,bY.fr hv zq,hv.cell a7 zq,bf.out v (bq.trans hv zr)⟩;clear b4 kh kb kd ko kP cg cu bf db cr c3 cl a8 bx ds bp;go_upto_region 17 with (go_at_call 17;(with_reducible refine (ca.out _).mono ?_);rintro _ fb ⟨rfl,fh⟩)
    have cm:=fh;clear x0 x1 x2 y0 y1 y2 eu e9 e0 em ca bc bX bY lX lY bq bb ba a7 c8 b8;obtain ⟨c1,cX,cY,af,x0,x1,x2,y0,y1,y2⟩:=ae.out fb cm
    go_upto_region 19 with (first
     |(go_at_call 26;(with_reducible refine (c5.out _ cm).mono ?_);rintro _ fm ⟨rfl,ey⟩;(have cv:=cm.trans ey zr);clear c1 cX cY af x0 x1 x2 y0 y1 y2;obtain ⟨c1,cX,cY,af,x0,x1,x2,y0,y1,y2⟩:=ae.out fm cv)
     |(go_at_call 26;(with_reducible refine (c6.out _ cv).mono ?_);rintro _ ew ⟨rfl,e8⟩;(have cn:=cv.trans e8 zr);clear c1 cX cY af x0 x1 x2 y0 y1 y2;obtain ⟨c1,cX,cY,af,x0,x1,x2,y0,y1,y2⟩:=ae.out ew cn)
     |(go_at_call 27;(with_reducible refine (ks.out _ cn).mono ?_);rintro _ er ⟨rfl,ff⟩;(have cx:=cn.trans ff zr);clear c1 cX cY af x0 x1 x2 y0 y1 y2;obtain ⟨c1,cX,cY,af,x0,x1,x2,y0,y1,y2⟩:=ae.out er cx)
     |(go_at_call 16;(with_reducible refine (df.out _ cx).mono ?_);rintro _ fe ⟨rfl,e6⟩;(have c0:=cx.trans e6 zr);clear c1 cX cY af x0 x1 x2 y0 y1 y2;obtain ⟨c1,cX,cY,af,x0,x1,x2,y0,y1,y2⟩:=ae.out fe c0)
     |(go_at_call 16;(with_reducible refine (ck.out _ c0).mono ?_);rintro _ be ⟨rfl,eo⟩;(have b2:=c0.trans eo zr);clear c1 cX cY af x0 x1 x2 y0 y1 y2;obtain ⟨c1,cX,cY,af,x0,x1,x2,y0,y1,y2⟩:=ae.out be b2))
    clear lc lx ly c5 c6 ks df ck;have I0:=af;have a0:=x0;have aq:=x1;have aw:=x2;have av:=y0;have ai:=y1;have a2:=y2;have F0:Fr Non be be.drew:=(Fr.refl Non be).drew;have et:=Lib.hid (fun (v:World) (hv:Fr Non be v)=>cy.out v (b2.trans hv zr));have fd:=Lib.hid (fun (v:World) (hv:Fr Non be v)=>cz.out v (b2.trans hv zr));clear c1 cX cY af x0 x1 x2 y0 y1 y2 cy cz;refine wp_region_held_drew (S:=fun w'=>w'.cell? ⟨aB,i,none⟩=some (.slice A' n c)∧w'.cell? ⟨pB,0,none⟩=some (.int .i64 x.b)∧w'.cell? ⟨pB,1,none⟩=some (.int .i64 x.s)∧w'.cell? ⟨pB,2,none⟩=some (.int .u64 (x.u:Int))∧w'.cell? ⟨pB,3,none⟩=some (.int .i64 y.b)∧w'.cell? ⟨pB,4,none⟩=some (.int .i64 y.s)∧w'.cell? ⟨pB,5,none⟩=some (.int .u64 (y.u:Int))) (by kernel_rfl) ⟨I0,a0,aq,aw,av,ai,a2⟩ (fun hHeld=> ?_);clear hHeld;refine tkH 0 ⟨I0,a0,aq,aw,av,ai,a2⟩ (h:=tkH 1 ⟨I0,a0,aq,aw,av,ai,a2⟩ (h:=tkH 2 ⟨I0,a0,aq,aw,av,ai,a2⟩ (h:=tkH 3 ⟨I0,a0,aq,aw,av,ai,a2⟩ (h:=tkH 4 ⟨I0,a0,aq,aw,av,ai,a2⟩ (h:=tkH 5 ⟨I0,a0,aq,aw,av,ai,a2⟩ (h:=?_))))));simp only [List.set];refine oG 6 (fun K hK=> ?_);go_simp;go_wp2_with (go_at_call 14;(with_reducible refine (et.out _ F0).mono ?_);rintro _ v1 ⟨rfl,b5⟩;have F1:=F0.trans b5 zr;have I1:=F1.cell I0 zq;have a1:=F1.cell a0 zq;have az:=F1.cell aq zq;have ax:=F1.cell aw zq;have au:=F1.cell av zq;have ay:=F1.cell ai zq;have ah:=F1.cell a2 zq);refine hK.out _ _ ⟨I1,a1,az,ax,au,ay,ah⟩ (fun hZ=> ?_);clear hZ hK K;try simp only [Aj,List.set]
    refine tkH 7 ⟨I1,a1,az,ax,au,ay,ah⟩ (h:=tkH 8 ⟨I1,a1,az,ax,au,ay,ah⟩ (h:=tkH 9 ⟨I1,a1,az,ax,au,ay,ah⟩ (h:=tkH 10 ⟨I1,a1,az,ax,au,ay,ah⟩ (h:=tkH 11 ⟨I1,a1,az,ax,au,ay,ah⟩ (h:=tkH 12 ⟨I1,a1,az,ax,au,ay,ah⟩ (h:=tkH 13 ⟨I1,a1,az,ax,au,ay,ah⟩ (h:=tkH 14 ⟨I1,a1,az,ax,au,ay,ah⟩ (h:=?_))))))));simp only [List.set];refine oG 15 (fun K hK=> ?_);go_simp;go_wp2_with (go_at_call 14;(with_reducible refine (fd.out _ F1).mono ?_);rintro _ v2 ⟨rfl,bh⟩;have F2:=F1.trans bh zr;have I2:=F2.cell I0 zq;have cq:=F2.cell a0 zq;have c9:=F2.cell aq zq;have cb:=F2.cell aw zq;have dc:=F2.cell av zq;have c7:=F2.cell ai zq;have dd:=F2.cell a2 zq);refine hK.out _ _ ⟨I2,cq,c9,cb,dc,c7,dd⟩ (fun hZ=> ?_);clear hZ hK K;try simp only [Aj,List.set]
    refine tkH 16 ⟨I2,cq,c9,cb,dc,c7,dd⟩ (h:=tkH 17 ⟨I2,cq,c9,cb,dc,c7,dd⟩ (h:=?_));simp only [List.set];refine oD ?_;go_simp;have ch:=ao.trans (b2.trans F2 zr) zr;go_wp2_with (fail);go_roundw
    case rel=>exact ⟨i+1,by go_num,by omega,ch⟩
    case measure=>simp [intOf];omega
  ·
   obtain rfl:i=2:=by omega
   have t0:decide (((2:Nat):Int)<2)=false:=by decide
   have ez:decide (2<2)=false:=by decide
   have fz:=fa.trans hf zr;have kl:=Lib.hid (bo.out wr fz);clear bo bl kb ko kd cu;go_wp2_with (go_at_call 15;(with_reducible refine (kl.out).mono ?_);rintro _ wq ⟨rfl,fq⟩;(have hd:=Lib.hid (cj.out wq (fz.trans fq zr))));exact hd.out
end Oq
end
section
open Go.ChangeShapes Go.WideShapes Go.ChangeAt Go.RowKit
theorem Am2 (os:Os) (started:os.Started) (H:Type) (enc:TypeId × Value→H):
  ReturnsInHanded {} Tryz.checked os 8 .any (fun w args=>(Rows.forkProofSpec.pre enc Tryz.prog Tryz.f8 [] false w args∧laidMetH Tryz.prog [("huddle/op.kinds",Rows.laid_huddle_op_kinds)] w)∧sizedMet enc Tryz.prog Tryz.f8 (OpenSpec.ofChange Rows.forkProofSpec) false w args)
   (Rows.forkProofSpec.post enc Tryz.prog Tryz.f8 false true false false):=by
 refine returnsInHanded_of_change_and (C:=Tryz.checked) (X:=fun w _=>laidMetH Tryz.prog [("huddle/op.kinds",Rows.laid_huddle_op_kinds)] w) (fun _ _ _ hh h=>h.of_heap hh) Tryz.own started (by kernel_rfl) Tryz.func8
  (ChangeSpec.witness_at (enc:=enc) (C:=Tryz.checked) (os:=os) (X:=fun w _=>laidMetH Tryz.prog [("huddle/op.kinds",Rows.laid_huddle_op_kinds)] w) false (Hc os) #[.slice none 0 0,.slice none 0 0,.int .i64 0] 8 rfl (by kernel_rfl) (by kernel_rfl) (by kernel_rfl) (by kernel_rfl) (by kernel_rfl) (Kz os _)) ?_
 intro W base args ds gs before hval0 hW _ _ hL _;have hk:=Ky hL;have hval:∀(j:Nat) t v,Tryz.f8.params[j]? =some t→args[j]? =some v→Value.okWide Tryz.prog W .any base t v:=hval0;have hW':=hW;obtain ⟨p,q,hA0,hV,rfl,hfz,hnd⟩:=hW;have hA:DataW.TrodAll enc Tryz.prog W 0 (fun _=>true) true Tryz.f8.params.toList args.toList ds p:=hA0;rw [Tryz.params8] at hA hval;obtain ⟨v0,v1,v2,d0,d1,d2,p0,p1,p2,rfl,rfl,rfl,h0,h1,h2⟩:=trodAll_three hA;obtain ⟨A0,c0,l0,rfl,hlc0,hc0,hr0,hok0⟩:=Gg Tryz.underlying22 Tryz.underlying3 (by kernel_rfl) (hval 0 22 v0 rfl rfl) h0;obtain ⟨A1,c1,l1,rfl,hlc1,hc1,hr1,hok1⟩:=Gg Tryz.underlying22 Tryz.underlying3 (by kernel_rfl) (hval 1 22 v1 rfl rfl) h1;obtain ⟨x2,rfl,rfl,rfl,wf2⟩:=open_int Tryz.underlying3 (hval 2 3 v2 rfl rfl) h2;have bd2:=Gx wf2;refine (Oq.forkProof_law A0 c0 l0 A1 c1 l1 x2 W hk hr0 hlc0 hc0 hok0 hr1 hlc1 hc1 hok1 bd2.1 bd2.2).mono fun e W' ⟨he,hf⟩=> ?_;exact ⟨_,he,J5 Tryz.laidOut (by kernel_rfl) rfl (by kernel_rfl) Tryz.underlying4 hW' ⟨rfl,rfl,rfl⟩ hf⟩
theorem Am3:Rows.ForkProofSaid:=
 OpenClaim.holds_of_wide 8 Tryz.f8 rfl rfl rfl rfl rfl rfl rfl ⟨rfl,rfl,rfl,rfl,rfl⟩ rfl rfl rfl rfl rfl (by kernel_rfl) Tryz.func8 (by kernel_rfl)
  (of_decide_eq_true (by kernel_rfl)) (by unfold Func.isWrapper;rw [if_neg (by decide+kernel)];exact ⟨rfl,rfl⟩)
  (fun os started H enc _=>Am2 os started H enc)
end
section
open Go
theorem forkProof_card_holds:Rows.ForkProofCardSaid:=
 Claim7.holds_tied_plain_at .later [] [.data] true (true, "5a1175df055d93971c25109e8ab4623de026253a388d36766dc23903d972f333") false
  Am3 (fun _ h=>by cases h) (by kernel_rfl) (fun _ h=>by cases h) forkProof_row_tie rfl ⟨rfl,rfl⟩ (by kernel_rfl) rfl
  (fun f fn hf hfn=>by
   obtain rfl:f=8:=Option.some.inj ((show Tryz.prog.funcNamed "huddle/huddlelaw13.ForkProof" =some 8 by kernel_rfl).symm.trans hf)|>.symm;obtain rfl:fn=Tryz.f8:=(Option.some.inj (Tryz.func8.symm.trans hfn)).symm
   exact ⟨by kernel_rfl,fun j t ht=>by
    rw [Tryz.params8] at ht
    have hm:t∈([22,22,3]:List TypeId):=by
     have h2:=Array.mem_of_getElem? ht;simpa using h2
    have hall:([22,22,3]:List TypeId).all (fun t=> !(Tryz.prog.wantsStandIn t))=true:=by kernel_rfl
    have:=List.all_eq_true.1 hall t hm;exact (by simpa using this:Tryz.prog.wantsStandIn t=false)⟩)
  (by kernel_rfl)
end
end Go.Proofs.YtkanjaikgphjfaaGreatDoor
