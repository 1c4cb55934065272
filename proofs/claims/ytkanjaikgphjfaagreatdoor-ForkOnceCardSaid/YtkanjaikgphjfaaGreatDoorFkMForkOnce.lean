/-
  huddlelaw13.ForkOnce: a device that has not forked has made one operation after the other; what is not void stands ahead of what is.
    Conditions: op.kinds lies as its text lays it; the numbers read.
  ForkOnce: whatever the input is, where the one listed variable is as its text lays it, the law returns true, and nothing that was there has turned.
    Condition: none.
  ForkOnce: the tied card.
    Condition: none.
-/
import Derived.ChangeVars
import Derived.JoinedOf
import Derived.RowKitTokens
import Derived.LaidLaws
import Derived.Test.YtkanjaikgphjfaaGreatDoorTie
import Derived.Test.YtkanjaikgphjfaaGreatDoorCards
import Derived.SevenTiedAt
import Derived.Test.YtkanjaikgphjfaaGreatDoorFkM1
import Derived.Test.YtkanjaikgphjfaaGreatDoorFkM3
import Derived.Test.YtkanjaikgphjfaaGreatDoorFkM10
import Derived.Test.YtkanjaikgphjfaaGreatDoorFkM11
import Derived.Test.YtkanjaikgphjfaaGreatDoorFkM14
set_option maxRecDepth 100000
set_option maxHeartbeats 16000000
open List renaming getElem?_eq_getElem→Af8,mem_of_getElem?→Af9
namespace Go.Proofs.YtkanjaikgphjfaaGreatDoor
section
open Go.RowKit
attribute [local go_sem ↓] Go.wp_at_zero Go.wp_at_succ
namespace Oq
attribute [local go_sem] Bool.not_false Bool.not_true
attribute [local go_sem ↓] Fg Ga Lg Rp Et
theorem forkOnce_law (A:Option Addr) (c:Nat) (l0:List Int) (w:World) (hk:KindsAt w) (hr:Rd w w.heap.size 1 A l0.length (l0.map Iv)) (hnc:l0.length≤c) (hnm:c≤9223372036854775807) (hok:∀x∈l0,I64 x):
  Calls Tryz.prog 7 #[.slice A l0.length c] w (Ac true w):=by
 have az:0<w.heap.size:=World.block_lt_of_cell? w _ (hk 0 (by decide));have km:=Lib.hid (I4 w.heap.size l0.length c A l0 w rfl hr (by omega) hok);have cd:=Lib.hid (fun (b:Nat) (r:FG) (w':World) (hf:Fr Non w w') (h:r.own w' b) (hcs:r.cards=Av 0 [1,2,2,3])=>I5 b r w' h hcs (Nat.lt_of_lt_of_le az hf.size) (hk.fr hf));have a4:=fun (w':World) (hf:Fr Non w w')=>Lo w' (hk.fr hf);unfold Ac at a4;replace a4:=Lib.hid a4;have bi:Hid (∀wz,Fr Non w wz→Ac true w (.returned (.bool true)) wz):=fun wz h=>⟨rfl,h⟩;generalize Ac true w=POST at*;obtain ⟨n0,ci⟩:=Aa l0.length;rw [ci.out] at km ⊢;clear hk az hr hnc hnm hok;go_enter Tryz.func7,Tryz.ntmps7;go_upto_region 2 with (go_at_call 9;(with_reducible refine (km.out).mono ?_);rintro _ w1 ⟨r,rfl,f1,ro,cg,b7⟩;(have bn:=Blk.new w1 28 #[.slice none 0 0,.slice none 0 0,.slice none 0 0,.slice none 0 0]);(have c0:=Bq (P:=Tryz.prog) w1.heap.size 28 (cs:=r.cells) Bp (old:=#[.slice none 0 0,.slice none 0 0,.slice none 0 0,.slice none 0 0]) rfl (Ek r)))
 have bg:Blk ((w1.alloc (.cells #[.slice none 0 0,.slice none 0 0,.slice none 0 0,.slice none 0 0] 28)).setRow w1.heap.size r.cells) w1.heap.size 28 r.cells:=bn.setRow;have fG:Fr Non w1 ((w1.alloc (.cells #[.slice none 0 0,.slice none 0 0,.slice none 0 0,.slice none 0 0] 28)).setRow w1.heap.size r.cells):=((Fr.refl Non w1).alloc _).setRow (fun hh=>absurd hh (by omega)) _;have f2:=f1.trans fG zr;have be:=ro.non fG;obtain ⟨gv,ce⟩:=Aa w1.heap.size;rw [ce.out] at bg f2 be ⊢;clear c0 bn fG ro f1;generalize (w1.alloc (.cells #[.slice none 0 0,.slice none 0 0,.slice none 0 0,.slice none 0 0] 28)).setRow gv r.cells=w2 at*;have hl:=Cf (P:=Tryz.prog) gv 28 Tryz.underlying28 rfl (cs:=r.cells) Bp;go_upto_region 3 with (go_at_call 10;(with_reducible refine (cd.out _ r _ f2 be cg).mono ?_);rintro _ w3 ⟨g,b,rfl,cm,hg,c3,ca,f3⟩)
 have cb:=bg.fr f3 zq;have ak:=be.non f3;have cc:=f2.trans f3 zr;have cu:r.l≠[]:=by rw [b7];exact G6 _ _
 have ap:r.ids.length=r.l.length:=FG.ids_len r;have ag:Eb r.ids:=ak.fkOk;have av:r.ids.length≤14:=by rw [ap];exact ak.num.few
 have c2:w3.cell? ⟨gv,2,none⟩=some (.slice r.iA r.ids.length r.iC):=by have h9:=cb.cell 2;rw [show r.cells[2]? =some (.slice r.iA r.l.length r.iC) from rfl,← ap] at h9;exact h9
 have ar:=ak.rdIds;rw [← ap] at ar;have af:=Lib.hid ar;have cj:r.ids.Nodup:=Lp ak.rows;have cf:=hg;have bj:=Lib.hid (fun (gv:Value) (d:Int) (v:World) (hv:Fr Non w3 v)=>Ae9 w3.heap.size r.ids.length r.iC r.iA r.ids d gv v rfl (af.out.fr hv zr) (by omega) ag);have bs:=Lib.hid (fun (gv:Value) (v:World) (hv:Fr Non w3 v)=>G5 w3.heap.size r.ids.length r.iC r.iA r.ids gv v rfl (af.out.fr hv zr) (by omega) ag);have ai:∀x∈r.ids,0<x.s:=fun x hx=>by have:=(ag x hx).2.2.1;omega
 have bh:Hid (∀(x y:Id) (v:World),Fr Non w3 v→x.ok→y.ok→Calls Tryz.prog 16 #[.pointer (some ⟨g.gb,0,none⟩),.agg x.V,.agg y.V] v fun e w'=>e=.returned (.bool (bef r.l x y))∧Fr Non v w'):=fun x y v hv hx hy=>by
  have h9:=Nc b g x y v (cf.fr hv) hx hy;rw [g.before_eq,ca] at h9;exact h9
 have aq:Hid (∀x∈r.ids,x.ok):=fun x hx=>(ag x hx).1;have ae:=ak.rows;have a7:=ak.num.s1
 have ad:Hid (∀x∈r.ids,∀y∈r.ids,(x.b==y.b)=true→Id.eq x y=false→(Dz r.ids x.b).isSome=false→(x.s==y.s)=false∧bef r.l x y=decide (x.s<y.s)):=fun x hx y hy hb he hp=>by
  have hf:Am r.ids x.b=0:=by
   by_cases h0:Am r.ids x.b=0
   · exact h0
   ·
    obtain ⟨p,q,t,h1⟩:=Qq ai h0;rw [Rq h1 h0] at hp
    cases hp
  have cq:x≠y:=fun e=>by rw [e,(Id.eq_iff y y).2 rfl] at he;cases he
  obtain ⟨h1,h2⟩:=Z2 ae a7 (List.Perm.refl _) hx hy cq (beq_iff_eq.1 hb) hf;exact ⟨beq_eq_false_iff_ne.2 h1,h2⟩
 have ac:Hid (∀x∈r.ids,∀y∈r.ids,(x.b==y.b)=true→Ca (As r.ids) x=false→Ca (As r.ids) y=true→bef r.l x y=true∧x.s<y.s):=fun x hx y hy hb hvx hvy=>by
  refine Z3 ae a7 (List.Perm.refl _) hx hy (beq_iff_eq.1 hb) ?_ ?_
  · exact Bool.eq_false_iff.2 (fun hq=>by rw [(E8 _ _).2 (mem_voidK.2 ⟨hx,hq⟩)] at hvx;cases hvx)
  · exact (mem_voidK.1 ((E8 _ _).1 hvy)).2
 have bw:Hid ((As r.ids).length≤14):=Nat.le_trans (I6 _) av;have c6:=Fr.refl Non w3;obtain ⟨gb,b8⟩:=Aa g.gb;rw [b8.out] at bh ⊢;have bq:=Lib.hid (fun (v:World) (hv:Fr Non w3 v)=>hv.cell c2 zq);clear cd km be ak hl bg cb hg cf c3 ca cm b7 cg f2 f3 cu ce ci ae b8 a7 ai ag cj ar;generalize As r.ids=VA at*;generalize Dz r.ids=PK at*;generalize r.l=l at*;generalize r.ids=ids at*;generalize r.iA=IA at*;generalize r.iC=IC at*;obtain ⟨N,hN⟩:=Aa ids.length;rw [hN.out] at bj bs c2 bq af av;go_upto_region 6 with (go_at_call 13;(with_reducible refine (bs.out _ _ c6).mono ?_);rintro _ w4 ⟨A4,c4,rfl,o4,f4⟩)
 have cx:=cc.trans f4 zr;obtain ⟨nV,bm⟩:=Aa VA.length;rw [bm.out] at bw;have l1:=bw.out;have ch:=o4.rd;rw [bm.out] at ch ⊢;have kh:=Lib.hid (fun (y:Id) (v:World) (hv:Fr Non w4 v)=>Hk w4.heap.size nV c4 A4 VA y v bm (ch.fr hv zr) (by omega));have kb:=Lib.hid (fun (x y:Id) (v:World) (hv:Fr Non w4 v) (hx:x.ok) (hy:y.ok)=>bh.out x y v (f4.trans hv zr) hx hy);have kp:=Lib.hid (fun (gv:Value) (d:Int) (v:World) (hv:Fr Non w4 v)=>bj.out gv d v (f4.trans hv zr));have hR:=Lib.hid (fun (v:World) (hv:Fr Non w4 v)=>af.out.fr (f4.trans hv zr) zr);have cG:=Lib.hid (fun (v:World) (hv:Fr Non w4 v)=>bq.out v (f4.trans hv zr));clear o4 bs bj bh af bq bw c2 cc f4;go_wp2_with (fail)
 go_loopw [6] (fun v wr=>∃i:Nat,v=.int .i64 (i:Int)∧i≤N∧Fr Non w4 wr) (fun v _=>N-(intOf v).toNat)
 case atStart=>exact ⟨0,rfl,Nat.zero_le _,Fr.refl _ _⟩
 case round=>
  obtain ⟨i,rfl,hi,hf⟩:=hrel;have z2:=cG.out wr hf
  by_cases hin:i<N
  ·
   obtain ⟨a,ha⟩:∃a,ids[i]? =some a:=⟨_,Af8 (by rw [hN.out];exact hin)⟩;have b4:=Af9 ha;have i1:(0:Int)≤i:=by omega
   have i2:(i:Int)<N:=by omega
   have i3:(i:Int).toNat=i:=by omega
   have t0:decide ((i:Int)<N)=true:=decide_eq_true i2;have co:decide (i<N)=true:=decide_eq_true hin;have df:IntKind.i64.wrap ((i:Int)+1)=(i:Int)+1:=IntWalk.i64_in _ (by omega);go_wp2_with (fail);generalize wr=wa at*
   go_loopw [7] (fun v wr=>∃j:Nat,v=.int .i64 (j:Int)∧j≤N∧Fr Non w4 wr) (fun v _=>N-(intOf v).toNat)
   case atStart=>exact ⟨0,rfl,Nat.zero_le _,hf⟩
   case round=>
    clear hf z2;obtain ⟨j,rfl,hj,hf⟩:=hrel;have z2:=cG.out wr hf
    by_cases hjn:j<N
    ·
     obtain ⟨b2,bv⟩:∃b2,ids[j]? =some b2:=⟨_,Af8 (by rw [hN.out];exact hjn)⟩;have bk:=Af9 bv;obtain ⟨bI,qI,rfl,_,a0,a1,a2⟩:=Id.at (hR.out wr hf) ha;obtain ⟨dc,dh,eI,_,b0,b1,b9⟩:=Id.at (hR.out wr hf) bv;injection eI with eI
     injection eI with eI eJ
     subst eI;subst eJ;have j1:(0:Int)≤j:=by omega
     have j2:(j:Int)<N:=by omega
     have j3:(j:Int).toNat=j:=by omega
     have u0:decide ((j:Int)<N)=true:=decide_eq_true j2;have cy:decide (j<N)=true:=decide_eq_true hjn;have e1:IntKind.i64.wrap ((j:Int)+1)=(j:Int)+1:=IntWalk.i64_in _ (by omega);have b3:=Bq (P:=Tryz.prog) wr.heap.size 41 (cs:=a.V) Gy (old:=#[.int .i64 0,.int .i64 0,.int .u64 0]) rfl (Gz _ _ _);have bn:=Blk.new wr 41 #[.int .i64 0,.int .i64 0,.int .u64 0];go_upto_region 13 with (fail)
     have ba:=bn.setRow (cs:=a.V);have fa:Fr Non wr ((wr.alloc (.cells #[.int .i64 0,.int .i64 0,.int .u64 0] 41)).setRow wr.heap.size a.V):=((Fr.refl Non wr).alloc _).setRow (fun hh=>absurd hh (by omega)) _;obtain ⟨ga,b6⟩:=Aa wr.heap.size;rw [b6.out] at ba fa ⊢;have z3:=fa.cell z2 zq;have c5:=fa.cell b0 zq;have cp:=fa.cell b1 zq;have ck:=fa.cell b9 zq;clear b3 bn a0 a1 a2 b0 b1 b9 z2;generalize (wr.alloc (.cells #[.int .i64 0,.int .i64 0,.int .u64 0] 41)).setRow ga a.V=w5 at*;have bl:=Bq (P:=Tryz.prog) w5.heap.size 41 (cs:=b2.V) Gy (old:=#[.int .i64 0,.int .i64 0,.int .u64 0]) rfl (Gz _ _ _);have bn:=Blk.new w5 41 #[.int .i64 0,.int .i64 0,.int .u64 0];go_upto_region 14 with (fail)
     have bb:=bn.setRow (cs:=b2.V);have fb:Fr Non w5 ((w5.alloc (.cells #[.int .i64 0,.int .i64 0,.int .u64 0] 41)).setRow w5.heap.size b2.V):=((Fr.refl Non w5).alloc _).setRow (fun hh=>absurd hh (by omega)) _;obtain ⟨ab,aw⟩:=Aa w5.heap.size;rw [aw.out] at bb fb ⊢;have a5:=ba.fr fb zq;have z4:=fb.cell z3 zq;have f6:=(hf.trans fa zr).trans fb zr;clear bl bn c5 cp ck z3 ba fa fb hf b6 aw;generalize (w5.alloc (.cells #[.int .i64 0,.int .i64 0,.int .u64 0] 41)).setRow ab b2.V=w6 at*;have A0:=a5.cell 0;have A1:=a5.cell 1;have A2:=a5.cell 2;have B0:=bb.cell 0;have B1:=bb.cell 1;have B2:=bb.cell 2
     rcases zb (a.b==b2.b) with y1|y1
     ·
      have da:(a.b !=b2.b)=false:=by rw [bne,y1];rfl
      have dd:=Mz
      rcases zb (Id.eq a b2) with y2|y2
      ·
       go_wp2_with (fail);go_roundw
       case rel=>exact ⟨j+1,by go_num,by omega,f6⟩
       case measure=>simp [intOf];omega
      ·
       have ay:=Lib.hid (ad.out a b4 b2 bk y1 y2);have ax:=Lib.hid (ac.out a b4 b2 bk y1);have bd:=Lib.hid (fun (gv:Value)=>kp.out gv a.b w6 f6);unfold G8 at bd;have c7:=aq.out a b4;have c9:=aq.out b2 bk;have db:(Tryz.prog.info? 52).map (·.size)=some (E4 (PK a.b)).size:=by rw [G7,Rt]
       have cl:(E4 (PK a.b)).all (·.oneCell')=true:=Af1 _;have cr:(#[.int .i64 0,.int .i64 0,.int .u64 0,.int .i64 0,.int .i64 0,.int .u64 0]:Array Value).size=(E4 (PK a.b)).size:=by rw [Rt];rfl
       generalize E4 (PK a.b)=TC at*;obtain ⟨FO,ct⟩:=Aa (PK a.b).isSome;rw [ct.out] at bd ay;go_upto_region 16 with (go_at_call 22;(with_reducible refine (bd.out _).mono ?_);rintro _ w7 ⟨rfl,f7⟩;(have bp:=Bq (P:=Tryz.prog) w7.heap.size 52 (cs:=TC) db (old:=#[.int .i64 0,.int .i64 0,.int .u64 0,.int .i64 0,.int .i64 0,.int .u64 0]) cr cl);(have bn:=Blk.new w7 52 #[.int .i64 0,.int .i64 0,.int .u64 0,.int .i64 0,.int .i64 0,.int .u64 0]))
       have fT:Fr Non w7 ((w7.alloc (.cells #[.int .i64 0,.int .i64 0,.int .u64 0,.int .i64 0,.int .i64 0,.int .u64 0] 52)).setRow w7.heap.size TC):=((Fr.refl Non w7).alloc _).setRow (fun hh=>absurd hh (by omega)) _;have aj:=f7.trans fT zr;have f8:=f6.trans aj zr;clear bp bn fT;generalize (w7.alloc (.cells #[.int .i64 0,.int .i64 0,.int .u64 0,.int .i64 0,.int .i64 0,.int .u64 0] 52)).setRow w7.heap.size TC=w8 at*;have Pb:w8.cell? ⟨ga,0,none⟩=some (.int .i64 a.b):=aj.cell A0 zq;have Qb:w8.cell? ⟨ga,1,none⟩=some (.int .i64 a.s):=aj.cell A1 zq;have Rb:w8.cell? ⟨ga,2,none⟩=some (.int .u64 (a.u:Int)):=aj.cell A2 zq;have Sb:w8.cell? ⟨ab,0,none⟩=some (.int .i64 b2.b):=aj.cell B0 zq;have Tb:w8.cell? ⟨ab,1,none⟩=some (.int .i64 b2.s):=aj.cell B1 zq;have Ub:w8.cell? ⟨ab,2,none⟩=some (.int .u64 (b2.u:Int)):=aj.cell B2 zq;have aa:Hid (∀v,Fr Non w8 v→v.cell? ⟨ga,0,none⟩=some (.int .i64 a.b)∧v.cell? ⟨ga,1,none⟩=some (.int .i64 a.s)∧v.cell? ⟨ga,2,none⟩=some (.int .u64 (a.u:Int))∧v.cell? ⟨ab,0,none⟩=some (.int .i64 b2.b)∧v.cell? ⟨ab,1,none⟩=some (.int .i64 b2.s)∧v.cell? ⟨ab,2,none⟩=some (.int .u64 (b2.u:Int))):=fun v hv=>⟨hv.cell Pb zq,hv.cell Qb zq,hv.cell Rb zq,hv.cell Sb zq,hv.cell Tb zq,hv.cell Ub zq⟩;have P0:w8.drew.cell? ⟨ga,0,none⟩=some (.int .i64 a.b):=Pb;have Q0:w8.drew.cell? ⟨ga,1,none⟩=some (.int .i64 a.s):=Qb;have R0:w8.drew.cell? ⟨ga,2,none⟩=some (.int .u64 (a.u:Int)):=Rb;have S0:w8.drew.cell? ⟨ab,0,none⟩=some (.int .i64 b2.b):=Sb;have T0:w8.drew.cell? ⟨ab,1,none⟩=some (.int .i64 b2.s):=Tb;have U0:w8.drew.cell? ⟨ab,2,none⟩=some (.int .u64 (b2.u:Int)):=Ub;have F0:Fr Non w8 w8.drew:=(Fr.refl Non w8).drew;have a9:=Lib.hid (fun (v:World) (hv:Fr Non w8 v)=>kb.out a b2 v (f8.trans hv zr) c7 c9);have a6:=Lib.hid (fun (v:World) (hv:Fr Non w8 v)=>kh.out a v (f8.trans hv zr));have bc:=Lib.hid (fun (v:World) (hv:Fr Non w8 v)=>kh.out b2 v (f8.trans hv zr));unfold Ac at a6 bc;obtain ⟨HA,cz⟩:=Aa (Ca VA a);obtain ⟨HB,cn⟩:=Aa (Ca VA b2);rw [cz.out] at a6 ax;rw [cn.out] at bc ax;clear A0 A1 A2 B0 B1 B2 a5 bb z4 f6 f7 aj bd kb kh kp hR cG ad ac ha bv Pb Qb Rb Sb Tb Ub;obtain ⟨BE,bu⟩:=Aa (bef l a b2);rw [bu.out] at a9 ay ax
       cases FO
       case true=>
        go_upto_region 16 with (fail)
        refine wp_region_held_drew (S:=fun w'=>w'.cell? ⟨ga,0,none⟩=some (.int .i64 a.b)∧w'.cell? ⟨ga,1,none⟩=some (.int .i64 a.s)∧w'.cell? ⟨ga,2,none⟩=some (.int .u64 (a.u:Int))∧w'.cell? ⟨ab,0,none⟩=some (.int .i64 b2.b)∧w'.cell? ⟨ab,1,none⟩=some (.int .i64 b2.s)∧w'.cell? ⟨ab,2,none⟩=some (.int .u64 (b2.u:Int))) (by kernel_rfl) ⟨P0,Q0,R0,S0,T0,U0⟩ (fun hHeld=> ?_);clear hHeld;refine tkH 0 ⟨P0,Q0,R0,S0,T0,U0⟩ (h:=tkH 1 ⟨P0,Q0,R0,S0,T0,U0⟩ (h:=tkH 2 ⟨P0,Q0,R0,S0,T0,U0⟩ (h:=skH 3 ⟨P0,Q0,R0,S0,T0,U0⟩ (h:=skH 4 ⟨P0,Q0,R0,S0,T0,U0⟩ (h:=skH 5 ⟨P0,Q0,R0,S0,T0,U0⟩ (h:=skH 6 ⟨P0,Q0,R0,S0,T0,U0⟩ (h:=skH 7 ⟨P0,Q0,R0,S0,T0,U0⟩ (h:=skH 8 ⟨P0,Q0,R0,S0,T0,U0⟩ (h:=skH 9 ⟨P0,Q0,R0,S0,T0,U0⟩ (h:=skH 10 ⟨P0,Q0,R0,S0,T0,U0⟩ (h:=skH 11 ⟨P0,Q0,R0,S0,T0,U0⟩ (h:=?_))))))))))));simp only [List.set];refine skH 12 ⟨P0,Q0,R0,S0,T0,U0⟩ (h:=skH 13 ⟨P0,Q0,R0,S0,T0,U0⟩ (h:=skH 14 ⟨P0,Q0,R0,S0,T0,U0⟩ (h:=skH 15 ⟨P0,Q0,R0,S0,T0,U0⟩ (h:=skH 16 ⟨P0,Q0,R0,S0,T0,U0⟩ (h:=skH 17 ⟨P0,Q0,R0,S0,T0,U0⟩ (h:=skH 18 ⟨P0,Q0,R0,S0,T0,U0⟩ (h:=skH 19 ⟨P0,Q0,R0,S0,T0,U0⟩ (h:=tkH 20 ⟨P0,Q0,R0,S0,T0,U0⟩ (h:=?_)))))))));simp only [List.set];refine oD ?_;go_simp;have F9:=F0;clear P0 Q0 R0 S0 T0 U0;obtain ⟨p0,p1,p2,s0,s1,s2⟩:=aa.out _ F9
        go_upto_region 20 with (first
         |(go_at_call 14;(with_reducible refine (a6.out _ F9).mono ?_);rintro _ bo ⟨rfl,bf⟩;(have ao:=F9.trans bf zr);obtain ⟨p0,p1,p2,s0,s1,s2⟩:=aa.out bo ao)
         |(go_at_call 14;(with_reducible refine (bc.out _ ao).mono ?_);rintro _ bz ⟨rfl,br⟩;(have ah:=ao.trans br zr);obtain ⟨p0,p1,p2,s0,s1,s2⟩:=aa.out bz ah))
        have al:=f8.trans ah zr
        cases HA
        case true=>
         go_wp2_with (fail);go_roundw
         case rel=>exact ⟨j+1,by go_num,by omega,al⟩
         case measure=>simp [intOf];omega
        case false=>
         cases HB
         case false=>
          go_wp2_with (fail);go_roundw
          case rel=>exact ⟨j+1,by go_num,by omega,al⟩
          case measure=>simp [intOf];omega
         case true=>
          obtain ⟨b5,cw⟩:=ax.out rfl rfl;subst b5;have w1:decide (a.s≥b2.s)=false:=decide_eq_false (by omega);have c1:decide (b2.s≤a.s)=false:=w1;clear ay bu;go_wp2_with (go_at_call 16;(with_reducible refine (a9.out _ ah).mono ?_);rintro _ bx ⟨rfl,a3⟩;(obtain ⟨p0,p1,p2,s0,s1,s2⟩:=aa.out bx (ah.trans a3 zr));(have bt:=al.trans a3 zr));go_roundw
          case rel=>exact ⟨j+1,by go_num,by omega,bt⟩
          case measure=>simp [intOf];omega
       case false=>
        obtain ⟨a7,a8⟩:=ay.out rfl;have dg:(BE !=decide (a.s<b2.s))=false:=by rw [a8];cases decide (a.s<b2.s)<;>rfl
        have cv:(BE==decide (a.s<b2.s))=true:=by rw [a8];exact beq_self_eq_true _
        have de:(!(BE==decide (a.s<b2.s)))=false:=by rw [cv];rfl
        have c8:=Lib.hid a8;clear a8;go_upto_region 16 with (fail)
        refine wp_region_held_drew (S:=fun w'=>w'.cell? ⟨ga,0,none⟩=some (.int .i64 a.b)∧w'.cell? ⟨ga,1,none⟩=some (.int .i64 a.s)∧w'.cell? ⟨ga,2,none⟩=some (.int .u64 (a.u:Int))∧w'.cell? ⟨ab,0,none⟩=some (.int .i64 b2.b)∧w'.cell? ⟨ab,1,none⟩=some (.int .i64 b2.s)∧w'.cell? ⟨ab,2,none⟩=some (.int .u64 (b2.u:Int))) (by kernel_rfl) ⟨P0,Q0,R0,S0,T0,U0⟩ (fun hHeld=> ?_);clear hHeld;refine tkH 0 ⟨P0,Q0,R0,S0,T0,U0⟩ (h:=tkH 1 ⟨P0,Q0,R0,S0,T0,U0⟩ (h:=tkH 2 ⟨P0,Q0,R0,S0,T0,U0⟩ (h:=tkH 3 ⟨P0,Q0,R0,S0,T0,U0⟩ (h:=tkH 4 ⟨P0,Q0,R0,S0,T0,U0⟩ (h:=tkH 5 ⟨P0,Q0,R0,S0,T0,U0⟩ (h:=tkH 6 ⟨P0,Q0,R0,S0,T0,U0⟩ (h:=tkH 7 ⟨P0,Q0,R0,S0,T0,U0⟩ (h:=tkH 8 ⟨P0,Q0,R0,S0,T0,U0⟩ (h:=tkH 9 ⟨P0,Q0,R0,S0,T0,U0⟩ (h:=tkH 10 ⟨P0,Q0,R0,S0,T0,U0⟩ (h:=tkH 11 ⟨P0,Q0,R0,S0,T0,U0⟩ (h:=?_))))))))))));simp only [List.set];refine tkH 13 ⟨P0,Q0,R0,S0,T0,U0⟩ (h:=tkH 14 ⟨P0,Q0,R0,S0,T0,U0⟩ (h:=tkH 15 ⟨P0,Q0,R0,S0,T0,U0⟩ (h:=tkH 16 ⟨P0,Q0,R0,S0,T0,U0⟩ (h:=tkH 17 ⟨P0,Q0,R0,S0,T0,U0⟩ (h:=?_)))));simp only [List.set];refine oG 12 (fun K hK=> ?_);go_simp;go_wp2_with (go_at_call 16;(with_reducible refine (a9.out _ F0).mono ?_);rintro _ v1 ⟨rfl,au⟩;have P1:=au.cell P0 zq;have Q1:=au.cell Q0 zq;have R1:=au.cell R0 zq;have S1:=au.cell S0 zq;have T1:=au.cell T0 zq;have U1:=au.cell U0 zq;have F1:=F0.trans au zr);refine hK.out _ _ ⟨P1,Q1,R1,S1,T1,U1⟩ (fun hZ=> ?_);clear hZ hK K;try simp only [Ag,List.set]
        refine tkH 18 ⟨P1,Q1,R1,S1,T1,U1⟩ (h:=tkH 19 ⟨P1,Q1,R1,S1,T1,U1⟩ (h:=tkH 20 ⟨P1,Q1,R1,S1,T1,U1⟩ (h:=?_)));simp only [List.set];refine oD ?_;go_simp;have F9:=F1;clear P0 Q0 R0 S0 T0 U0 P1 Q1 R1 S1 T1 U1;obtain ⟨p0,p1,p2,s0,s1,s2⟩:=aa.out _ F9
        go_upto_region 20 with (first
         |(go_at_call 14;(with_reducible refine (a6.out _ F9).mono ?_);rintro _ bo ⟨rfl,bf⟩;(have ao:=F9.trans bf zr);obtain ⟨p0,p1,p2,s0,s1,s2⟩:=aa.out bo ao)
         |(go_at_call 14;(with_reducible refine (bc.out _ ao).mono ?_);rintro _ bz ⟨rfl,br⟩;(have ah:=ao.trans br zr);obtain ⟨p0,p1,p2,s0,s1,s2⟩:=aa.out bz ah))
        have al:=f8.trans ah zr
        cases HA
        case true=>
         go_wp2_with (fail);go_roundw
         case rel=>exact ⟨j+1,by go_num,by omega,al⟩
         case measure=>simp [intOf];omega
        case false=>
         cases HB
         case false=>
          go_wp2_with (fail);go_roundw
          case rel=>exact ⟨j+1,by go_num,by omega,al⟩
          case measure=>simp [intOf];omega
         case true=>
          obtain ⟨b5,cw⟩:=ax.out rfl rfl;subst b5;have w1:decide (a.s≥b2.s)=false:=decide_eq_false (by omega);have c1:decide (b2.s≤a.s)=false:=w1;clear ay bu;go_wp2_with (go_at_call 16;(with_reducible refine (a9.out _ ah).mono ?_);rintro _ bx ⟨rfl,a3⟩;(obtain ⟨p0,p1,p2,s0,s1,s2⟩:=aa.out bx (ah.trans a3 zr));(have bt:=al.trans a3 zr));go_roundw
          case rel=>exact ⟨j+1,by go_num,by omega,bt⟩
          case measure=>simp [intOf];omega
     ·
      have da:(a.b !=b2.b)=true:=by rw [bne,y1];rfl
      go_wp2_with (fail);go_roundw
      case rel=>exact ⟨j+1,by go_num,by omega,f6⟩
      case measure=>simp [intOf];omega
    ·
     obtain rfl:j=N:=by omega
     have u0:decide ((j:Int)<j)=false:=decide_eq_false (by omega);have cy:decide (j<j)=false:=decide_eq_false (by omega);go_wp2_with (fail);go_roundw
     case rel=>exact ⟨i+1,by go_num,by omega,hf⟩
     case measure=>simp [intOf];omega
  ·
   obtain rfl:i=N:=by omega
   have t0:decide ((i:Int)<i)=false:=decide_eq_false (by omega);have co:decide (i<i)=false:=decide_eq_false (by omega);have fz:=cx.trans hf zr;have kl:=Lib.hid (a4.out wr fz);clear a4 kp kb kh hR cG aq ad ac;go_wp2_with (go_at_call 15;(with_reducible refine (kl.out).mono ?_);rintro _ wq ⟨rfl,fq⟩;(have hd:=Lib.hid (bi.out wq (fz.trans fq zr))));exact hd.out
end Oq
end
section
open Go.ChangeShapes Go.WideShapes Go.ChangeAt Go.RowKit
theorem Af6 (os:Os) (started:os.Started) (H:Type) (enc:TypeId × Value→H):
  ReturnsInHanded {} Tryz.checked os 7 .any (fun w args=>(Rows.forkOnceSpec.pre enc Tryz.prog Tryz.f7 [] false w args∧laidMetH Tryz.prog [("huddle/op.kinds",Rows.laid_huddle_op_kinds)] w)∧sizedMet enc Tryz.prog Tryz.f7 (OpenSpec.ofChange Rows.forkOnceSpec) false w args)
   (Rows.forkOnceSpec.post enc Tryz.prog Tryz.f7 false true false false):=by
 refine returnsInHanded_of_change_and (C:=Tryz.checked) (X:=fun w _=>laidMetH Tryz.prog [("huddle/op.kinds",Rows.laid_huddle_op_kinds)] w) (fun _ _ _ hh h=>h.of_heap hh) Tryz.own started (by kernel_rfl) Tryz.func7
  (ChangeSpec.witness_at (enc:=enc) (C:=Tryz.checked) (os:=os) (X:=fun w _=>laidMetH Tryz.prog [("huddle/op.kinds",Rows.laid_huddle_op_kinds)] w) false (Gj os) #[.slice none 0 0] 8 rfl (by kernel_rfl) (by kernel_rfl) (by kernel_rfl) (by kernel_rfl) (by kernel_rfl) (Js os _)) ?_
 intro W base args ds gs before hval0 hW _ _ hL _;have hk:=Jr hL;have hval:∀(j:Nat) t v,Tryz.f7.params[j]? =some t→args[j]? =some v→Value.okWide Tryz.prog W .any base t v:=hval0;have hW':=hW;obtain ⟨p,q,hA0,hV,rfl,hfz,hnd⟩:=hW;have hA:DataW.TrodAll enc Tryz.prog W 0 (fun _=>true) true Tryz.f7.params.toList args.toList ds p:=hA0;rw [Tryz.params7] at hA hval;obtain ⟨v0,d0,rfl,rfl,h0⟩:=trodAll_one hA;obtain ⟨A0,c0,l0,rfl,hlc0,hc0,hr0,hok0⟩:=Ge Tryz.underlying22 Tryz.underlying3 (by kernel_rfl) (hval 0 22 v0 rfl rfl) h0;refine (Oq.forkOnce_law A0 c0 l0 W hk hr0 hlc0 hc0 hok0).mono fun e W' ⟨he,hf⟩=> ?_;exact ⟨_,he,Ja Tryz.laidOut (by kernel_rfl) rfl (by kernel_rfl) Tryz.underlying4 hW' ⟨rfl,rfl,rfl⟩ hf⟩
theorem Af7:Rows.ForkOnceSaid:=
 OpenClaim.holds_of_wide 7 Tryz.f7 rfl rfl rfl rfl rfl rfl rfl ⟨rfl,rfl,rfl,rfl,rfl⟩ rfl rfl rfl rfl rfl (by kernel_rfl) Tryz.func7 (by kernel_rfl)
  (of_decide_eq_true (by kernel_rfl)) (by unfold Func.isWrapper;rw [if_neg (by decide+kernel)];exact ⟨rfl,rfl⟩)
  (fun os started H enc _=>Af6 os started H enc)
end
section
open Go
theorem forkOnce_card_holds:Rows.ForkOnceCardSaid:=
 Claim7.holds_tied_plain_at .later [] [.data] true (true, "5a1175df055d93971c25109e8ab4623de026253a388d36766dc23903d972f333") false
  Af7 (fun _ h=>by cases h) (by kernel_rfl) (fun _ h=>by cases h) forkOnce_row_tie rfl ⟨rfl,rfl⟩ (by kernel_rfl) rfl
  (fun f fn hf hfn=>by
   obtain rfl:f=7:=Option.some.inj ((show Tryz.prog.funcNamed "huddle/huddlelaw13.ForkOnce" =some 7 by kernel_rfl).symm.trans hf)|>.symm;obtain rfl:fn=Tryz.f7:=(Option.some.inj (Tryz.func7.symm.trans hfn)).symm
   exact ⟨by kernel_rfl,fun j t ht=>by
    rw [Tryz.params7] at ht
    have hm:t∈([22]:List TypeId):=by
     have h2:=Array.mem_of_getElem? ht;simpa using h2
    have hall:([22]:List TypeId).all (fun t=> !(Tryz.prog.wantsStandIn t))=true:=by kernel_rfl
    have:=List.all_eq_true.1 hall t hm;exact (by simpa using this:Tryz.prog.wantsStandIn t=false)⟩)
  (by kernel_rfl)
end
end Go.Proofs.YtkanjaikgphjfaaGreatDoor
