/-
  huddlelaw13.ForkVoid: void is what has forked and what that device has made behind it: as Forks tells, in order, once each.
    Conditions: op.kinds lies as its text lays it; the numbers read.
  ForkVoid: whatever the input is, where the one listed variable is as its text lays it, the law returns true, and nothing that was there has turned.
    Condition: none.
  ForkVoid: the tied card.
    Condition: none.
-/
import Derived.ChangeVars
import Derived.JoinedOf
import Derived.RowKitTokens
import Derived.LaidLaws
import Derived.Test.YtkanjaikgphjfaaGreatDoorTie
import Derived.Test.YtkanjaikgphjfaaGreatDoorCards
import Derived.SevenTiedAt
import Derived.Test.YtkanjaikgphjfaaGreatDoorFkM1
import Derived.Test.YtkanjaikgphjfaaGreatDoorFkM3
import Derived.Test.YtkanjaikgphjfaaGreatDoorFkM10
import Derived.Test.YtkanjaikgphjfaaGreatDoorFkM11
import Derived.Test.YtkanjaikgphjfaaGreatDoorFkM14
set_option maxRecDepth 100000
set_option maxHeartbeats 16000000
open List renaming getElem?_eq_getElem→Af8,mem_of_getElem?→Ag0
open Nat renaming zero_le→Af9
namespace Go.Proofs.YtkanjaikgphjfaaGreatDoor
section
open Go.RowKit
attribute [local go_sem ↓] Go.wp_at_zero Go.wp_at_succ
namespace Oq
attribute [local go_sem] Bool.not_false Bool.not_true
attribute [local go_sem ↓] Fg Ga
theorem forkVoid_law (A:Option Addr) (c:Nat) (l0:List Int) (A':Option Addr) (c':Nat) (l1:List Int) (w:World) (hk:KindsAt w) (hr:Rd w w.heap.size 1 A l0.length (l0.map Iv)) (hnc:l0.length≤c) (hnm:c≤9223372036854775807) (hok:∀x∈l0,I64 x) (hr':Rd w w.heap.size 1 A' l1.length (l1.map Iv)) (hnc':l1.length≤c') (hnm':c'≤9223372036854775807) (hok':∀x∈l1,I64 x):
  Calls Tryz.prog 4 #[.slice A l0.length c,.slice A' l1.length c'] w (Ac true w):=by
 have a0:0<w.heap.size:=World.block_lt_of_cell? w _ (hk 0 (by decide));have km:=Lib.hid (I4 w.heap.size l0.length c A l0 w rfl hr (by omega) hok);have b5:=Lib.hid (fun (b:Nat) (r:FG) (w':World) (hf:Fr Non w w') (h:r.own w' b) (hcs:r.cards=Av 0 [1,2,2,3])=>I5 b r w' h hcs (Nat.lt_of_lt_of_le a0 hf.size) (hk.fr hf));have av:=fun (w':World) (hf:Fr Non w w')=>Lo w' (hk.fr hf);unfold Ac at av;replace av:=Lib.hid av;have bi:=Lib.hid (fun (b:Nat) (r:FG) (v:World) (hf:Fr Non w v) (h:r.own v b) (hne:r.l≠[])=>Q9 b w.heap.size l1.length c' A' l1 r v h hne rfl (hr'.fr hf zr) (by omega) hok');obtain ⟨n1,b9⟩:=Aa l1.length;rw [b9.out] at bi ⊢;have bp:Hid (∀wz,Fr Non w wz→Ac true w (.returned (.bool true)) wz):=fun wz h=>⟨rfl,h⟩;generalize Ac true w=POST at*;obtain ⟨n0,cd⟩:=Aa l0.length;rw [cd.out] at km ⊢;clear hk a0 hr hnc hnm hok hr' hnc' hnm' hok' b9;go_enter Tryz.func4,Tryz.ntmps4;go_upto_region 2 with (go_at_call 9;(with_reducible refine (km.out).mono ?_);rintro _ w1 ⟨r,rfl,f1,ro,bs,b8⟩;(have bn:=Blk.new w1 28 #[.slice none 0 0,.slice none 0 0,.slice none 0 0,.slice none 0 0]);(have co:=Bq (P:=Tryz.prog) w1.heap.size 28 (cs:=r.cells) Bp (old:=#[.slice none 0 0,.slice none 0 0,.slice none 0 0,.slice none 0 0]) rfl (Ek r)))
 have bg:Blk ((w1.alloc (.cells #[.slice none 0 0,.slice none 0 0,.slice none 0 0,.slice none 0 0] 28)).setRow w1.heap.size r.cells) w1.heap.size 28 r.cells:=bn.setRow;have fG:Fr Non w1 ((w1.alloc (.cells #[.slice none 0 0,.slice none 0 0,.slice none 0 0,.slice none 0 0] 28)).setRow w1.heap.size r.cells):=((Fr.refl Non w1).alloc _).setRow (fun hh=>absurd hh (by omega)) _;have f2:=f1.trans fG zr;have a3:=ro.non fG;obtain ⟨gv,ce⟩:=Aa w1.heap.size;rw [ce.out] at bg f2 a3 ⊢;clear co bn fG ro f1;generalize (w1.alloc (.cells #[.slice none 0 0,.slice none 0 0,.slice none 0 0,.slice none 0 0] 28)).setRow gv r.cells=w2 at*;have hl:=Cf (P:=Tryz.prog) gv 28 Tryz.underlying28 rfl (cs:=r.cells) Bp;go_upto_region 3 with (go_at_call 10;(with_reducible refine (b5.out _ r _ f2 a3 bs).mono ?_);rintro _ w3 ⟨g,b,rfl,al,hg,ct,bw,f3⟩)
 have cm:=bg.fr f3 zq;have a6:=a3.non f3;have bq:=f2.trans f3 zr;have b0:r.l≠[]:=by rw [b8];exact G6 _ _
 go_upto_region 6 with (go_at_call 11;(with_reducible refine (bi.out _ r _ bq a6 b0).mono ?_);rintro _ w4 ⟨on,ys,ns,A4,c4,rfl,b3,ca,bt,aw,o4,f4⟩)
 have hP:=Rr a6 b3 ca bt aw;have cg:=bq.trans f4 zr;have b2:=hg.fr f4;have bl:=Lib.hid (fun (gv:Value) (v:World) (hv:Fr Non w4 v)=>Gb w4.heap.size ns.length c4 A4 ns gv v rfl (o4.rd.fr hv zr) (by have:=hP.len;omega) hP.ok);have be:=Lib.hid (fun (gv:Value) (v:World) (hv:Fr Non w4 v)=>G5 w4.heap.size ns.length c4 A4 ns gv v rfl (o4.rd.fr hv zr) (by have:=hP.len;omega) hP.ok);have ae:=a6.rows
 have aj:Hid (∀(x y:Id) (v:World),Fr Non w4 v→x.ok→y.ok→Calls Tryz.prog 16 #[.pointer (some ⟨g.gb,0,none⟩),.agg x.V,.agg y.V] v fun e w'=>e=.returned (.bool (bef r.l x y))∧Fr Non v w'):=fun x y v hv hx hy=>by
  have h9:=Nc b g x y v (b2.fr hv) hx hy;rw [g.before_eq,bw] at h9;exact h9
 have ak:Hid (∀x∈ns,x.ok):=fun x hx=>(hP.ok x hx).1;have ao:Hid (∀x∈As ns,x.ok):=fun x hx=>(hP.ok x (mem_voidK.1 hx).1).1;have a1:Hid (∀x∈ns,(Ah ns).any (fun f=>f.1==x.b&&decide (f.2≤x.s))=Cs ns x):=fun x hx=>(Qp (hP.ok x hx).2.1).symm
 have az:Hid (∀x∈ns,Ca (As ns) x=Cs ns x):=fun x hx=>by
  rw [Bool.eq_iff_iff,E8,mem_voidK];exact ⟨fun h=>h.2,fun h=>⟨hx,h⟩⟩
 have ap:Hid (∀x∈ns,∀y∈As ns,y.b=x.b→bef r.l y x=true→Cs ns x=true):=fun x hx y hy hb hbf=>by
  obtain ⟨h1,h2,h3⟩:=mem_voidN.1 hy;have h4:=ae.seqLt hb.symm hbf;rw [Rs,← hb];exact ⟨h2,by omega⟩
 have ay:Hid (∀k x y,(As ns)[k]? =some x→(As ns)[k+1]? =some y→Id.less x y=true):=Af0 hP.nodup;have bf:Hid ((As ns).length≤14):=Nat.le_trans (I6 _) hP.len;have a7:Hid ((Ah ns).length≤(As ns).length):=Z0 hP.pos;have ac:Hid ((Ah ns).length≤12):=Lq _;have ci:ns.length≤14:=hP.len;have cr:=Fr.refl Non w4;obtain ⟨gb,cf⟩:=Aa g.gb;rw [cf.out] at aj ⊢;clear hP b3 ca bt aw bi b5 km a3 a6 hl bg cm hg b2 ct bw al b8 bs f2 f3 b0 ce cd ae cf bq f4;have br:=o4.rd;clear o4;generalize Ah ns=FA at*;generalize As ns=VA at*;generalize Cs ns=VB at*;generalize r.l=l at*;obtain ⟨N,hN⟩:=Aa ns.length;rw [hN.out] at bl be br ci ⊢
 go_upto_region 8 with (first
  |(go_at_call 12;(with_reducible refine (bl.out _ _ cr).mono ?_);rintro _ w5 ⟨A5,c5,rfl,o5,f5⟩)
  |(go_at_call 13;(with_reducible refine (be.out _ _ f5).mono ?_);rintro _ w6 ⟨A6,c6,rfl,o6,f6⟩))
 have a2:=f5.trans f6 zr;have ch:=cg.trans a2 zr;obtain ⟨nA,a4⟩:=Aa FA.length;obtain ⟨nV,ai⟩:=Aa VA.length;rw [a4.out] at a7 ac;rw [ai.out] at bf a7;have l1:=bf.out;have l2:=a7.out;have l3:=ac.out;have ba:=o5.rd.fr f6 zr;have ax:=o6.rd;have bu:=br.fr a2 zr;rw [a4.out] at ba ⊢;rw [ai.out] at ax ⊢;have kh:=Lib.hid (fun (y:Id) (v:World) (hv:Fr Non w6 v)=>Hk w6.heap.size nV c6 A6 VA y v ai (ax.fr hv zr) (by omega));have kb:=Lib.hid (fun (x y:Id) (v:World) (hv:Fr Non w6 v) (hx:x.ok) (hy:y.ok)=>aj.out x y v (a2.trans hv zr) hx hy);clear o5 o6 f5 f6 bl be cg aj br a7 ac bf a2;go_wp2_with (fail)
 go_loopw [10] (fun v wr=>∃i:Nat,v=.int .i64 (i:Int)∧i≤N∧Fr Non w6 wr) (fun v _=>N-(intOf v).toNat)
 case atStart=>exact ⟨0,rfl,Af9 _,Fr.refl _ _⟩
 case round=>
  obtain ⟨i,rfl,hi,hf⟩:=hrel
  by_cases hin:i<N
  ·
   obtain ⟨x,bd⟩:∃x,ns[i]? =some x:=⟨_,Af8 (by rw [hN.out];exact hin)⟩;have aq:=Ag0 bd;obtain ⟨b4,q4,rfl,_,x0,x1,x2⟩:=Id.at (bu.fr hf zr) bd;have ah:=a1.out x aq;have kx:=Lib.hid (fun (v:World) (hv:Fr Non w6 v)=>kh.out x v hv);rw [az.out x aq] at kx;have cj:=ak.out x aq;have bc:=Lib.hid (ap.out x aq);obtain ⟨C,hC⟩:=Aa (VB x);rw [hC.out] at kx ah bc;unfold Ac at kx;obtain ⟨BB,al,ar,bm⟩:∃BB:Nat→Bool,BB 0=false∧(∀j h,FA[j]? =some h→BB (j+1)=(BB j||(h.1==x.b&&decide (h.2≤x.s))))∧BB nA=C:=⟨fun j=>(FA.take j).any (fun h=>h.1==x.b&&decide (h.2≤x.s)),rfl,fun j h hj=>by (dsimp only;rw [Co hj,List.any_append,List.any_cons,List.any_nil,Bool.or_false]),by (dsimp only;rw [← a4.out,List.take_length];exact ah)⟩;replace al:=Lib.hid al;replace ar:=Lib.hid ar;replace bm:=Lib.hid bm;have i1:(0:Int)≤i:=by omega
   have i2:(i:Int)<N:=by omega
   have i3:(i:Int).toNat=i:=by omega
   have t0:decide ((i:Int)<N)=true:=decide_eq_true i2;have ck:decide (i<N)=true:=decide_eq_true hin;have cw:IntKind.i64.wrap ((i:Int)+1)=(i:Int)+1:=IntWalk.i64_in _ (by omega);clear ah bd aq hC;go_wp2_with (fail);generalize wr=wa at*
   go_loopw [11,12] (fun bv v wr=>∃j:Nat,v=.int .i64 (j:Int)∧bv=.bool (BB j)∧j≤nA∧Fr Non wa wr) (fun _ v _=>nA-(intOf v).toNat)
   case atStart=>exact ⟨0,rfl,by rw [al.out],Af9 _,Fr.refl _ _⟩
   case round=>
    obtain ⟨j,rfl,rfl,hj,ad⟩:=hrel;have ag:=hf.trans ad zr
    by_cases hjn:j<nA
    ·
     obtain ⟨h,bk⟩:∃h,FA[j]? =some h:=⟨_,Af8 (by rw [a4.out];exact hjn)⟩;obtain ⟨b6,q6,rfl,_,h6⟩:=Dg (f:=Cz) (fun _=>rfl) (by omega) (ba.fr ag zr) bk;have g0:=h6 0 (by omega) (.int .i64 h.1) rfl;have g1:=h6 1 (by omega) (.int .i64 h.2) rfl;have ab:=ar.out j h bk;have j1:(0:Int)≤j:=by omega
     have j2:(j:Int)<nA:=by omega
     have j3:(j:Int).toNat=j:=by omega
     have u0:decide ((j:Int)<nA)=true:=decide_eq_true j2;have bh:decide (j<nA)=true:=decide_eq_true hjn;have e1:IntKind.i64.wrap ((j:Int)+1)=(j:Int)+1:=IntWalk.i64_in _ (by omega);have P0:wr.drew.cell? ⟨b6,q6+j*2,none⟩=some (.int .i64 h.1):=g0;have Q0:wr.drew.cell? ⟨b6,q6+j*2+1,none⟩=some (.int .i64 h.2):=g1;have R0:wr.drew.cell? ⟨b4,q4+i*3,none⟩=some (.int .i64 x.b):=ad.cell x0 zq;have S0:wr.drew.cell? ⟨b4,q4+i*3+1,none⟩=some (.int .i64 x.s):=ad.cell x1 zq;have fz:=ad.trans (Fr.refl Non wr).drew zr;clear h6 g0 g1 bk ar ag ad;obtain ⟨bj,bb⟩:=Aa (BB j);rw [bb.out] at ab ⊢
     cases bj
     case true=>
      rw [Bool.true_or] at ab;replace ab:=Lib.hid ab;go_upto_region 15 with (fail)
      refine wp_region_held_drew (S:=fun w'=>w'.cell? ⟨b6,q6+j*2,none⟩=some (.int .i64 h.1)∧w'.cell? ⟨b6,q6+j*2+1,none⟩=some (.int .i64 h.2)∧w'.cell? ⟨b4,q4+i*3,none⟩=some (.int .i64 x.b)∧w'.cell? ⟨b4,q4+i*3+1,none⟩=some (.int .i64 x.s)) (by kernel_rfl) ⟨P0,Q0,R0,S0⟩ (fun hHeld=> ?_);clear hHeld;refine tkH 0 ⟨P0,Q0,R0,S0⟩ (h:=tkH 1 ⟨P0,Q0,R0,S0⟩ (h:=skH 2 ⟨P0,Q0,R0,S0⟩ (h:=skH 3 ⟨P0,Q0,R0,S0⟩ (h:=skH 4 ⟨P0,Q0,R0,S0⟩ (h:=skH 5 ⟨P0,Q0,R0,S0⟩ (h:=skH 6 ⟨P0,Q0,R0,S0⟩ (h:=skH 7 ⟨P0,Q0,R0,S0⟩ (h:=skH 8 ⟨P0,Q0,R0,S0⟩ (h:=skH 9 ⟨P0,Q0,R0,S0⟩ (h:=skH 10 ⟨P0,Q0,R0,S0⟩ (h:=skH 11 ⟨P0,Q0,R0,S0⟩ (h:=?_))))))))))));simp only [List.set];refine skH 12 ⟨P0,Q0,R0,S0⟩ (h:=skH 13 ⟨P0,Q0,R0,S0⟩ (h:=skH 14 ⟨P0,Q0,R0,S0⟩ (h:=skH 15 ⟨P0,Q0,R0,S0⟩ (h:=skH 16 ⟨P0,Q0,R0,S0⟩ (h:=skH 17 ⟨P0,Q0,R0,S0⟩ (h:=skH 18 ⟨P0,Q0,R0,S0⟩ (h:=skH 19 ⟨P0,Q0,R0,S0⟩ (h:=skH 20 ⟨P0,Q0,R0,S0⟩ (h:=skH 21 ⟨P0,Q0,R0,S0⟩ (h:=skH 22 ⟨P0,Q0,R0,S0⟩ (h:=skH 23 ⟨P0,Q0,R0,S0⟩ (h:=?_))))))))))));simp only [List.set];refine skH 24 ⟨P0,Q0,R0,S0⟩ (h:=skH 25 ⟨P0,Q0,R0,S0⟩ (h:=tkH 26 ⟨P0,Q0,R0,S0⟩ (h:=tkH 27 ⟨P0,Q0,R0,S0⟩ (h:=?_))));simp only [List.set];refine oD ?_;go_simp;go_wp2_with (fail);go_roundw
      case rel=>exact ⟨j+1,by go_num,by rw [ab.out],by omega,fz⟩
      case measure=>simp [intOf];omega
     case false=>
      rw [Bool.false_or] at ab
      rcases zb (h.1==x.b) with v1|v1
      ·
       rw [v1,Bool.true_and] at ab;replace ab:=Lib.hid ab;go_upto_region 15 with (fail)
       refine wp_region_held_drew (S:=fun w'=>w'.cell? ⟨b6,q6+j*2,none⟩=some (.int .i64 h.1)∧w'.cell? ⟨b6,q6+j*2+1,none⟩=some (.int .i64 h.2)∧w'.cell? ⟨b4,q4+i*3,none⟩=some (.int .i64 x.b)∧w'.cell? ⟨b4,q4+i*3+1,none⟩=some (.int .i64 x.s)) (by kernel_rfl) ⟨P0,Q0,R0,S0⟩ (fun hHeld=> ?_);clear hHeld;refine tkH 0 ⟨P0,Q0,R0,S0⟩ (h:=tkH 1 ⟨P0,Q0,R0,S0⟩ (h:=tkH 2 ⟨P0,Q0,R0,S0⟩ (h:=tkH 3 ⟨P0,Q0,R0,S0⟩ (h:=tkH 4 ⟨P0,Q0,R0,S0⟩ (h:=tkH 5 ⟨P0,Q0,R0,S0⟩ (h:=tkH 6 ⟨P0,Q0,R0,S0⟩ (h:=tkH 7 ⟨P0,Q0,R0,S0⟩ (h:=tkH 8 ⟨P0,Q0,R0,S0⟩ (h:=tkH 9 ⟨P0,Q0,R0,S0⟩ (h:=tkH 10 ⟨P0,Q0,R0,S0⟩ (h:=tkH 11 ⟨P0,Q0,R0,S0⟩ (h:=?_))))))))))));simp only [List.set];refine tkH 12 ⟨P0,Q0,R0,S0⟩ (h:=tkH 13 ⟨P0,Q0,R0,S0⟩ (h:=tkH 14 ⟨P0,Q0,R0,S0⟩ (h:=tkH 15 ⟨P0,Q0,R0,S0⟩ (h:=tkH 16 ⟨P0,Q0,R0,S0⟩ (h:=tkH 17 ⟨P0,Q0,R0,S0⟩ (h:=tkH 18 ⟨P0,Q0,R0,S0⟩ (h:=tkH 19 ⟨P0,Q0,R0,S0⟩ (h:=tkH 20 ⟨P0,Q0,R0,S0⟩ (h:=tkH 21 ⟨P0,Q0,R0,S0⟩ (h:=tkH 22 ⟨P0,Q0,R0,S0⟩ (h:=tkH 23 ⟨P0,Q0,R0,S0⟩ (h:=?_))))))))))));simp only [List.set];refine tkH 24 ⟨P0,Q0,R0,S0⟩ (h:=tkH 25 ⟨P0,Q0,R0,S0⟩ (h:=tkH 26 ⟨P0,Q0,R0,S0⟩ (h:=tkH 27 ⟨P0,Q0,R0,S0⟩ (h:=?_))));simp only [List.set];refine oD ?_;go_simp;go_wp2_with (fail);go_roundw
       case rel=>exact ⟨j+1,by go_num,by rw [ab.out],by omega,fz⟩
       case measure=>simp [intOf];omega
      ·
       rw [v1,Bool.false_and] at ab;replace ab:=Lib.hid ab;go_upto_region 15 with (fail)
       refine wp_region_held_drew (S:=fun w'=>w'.cell? ⟨b6,q6+j*2,none⟩=some (.int .i64 h.1)∧w'.cell? ⟨b6,q6+j*2+1,none⟩=some (.int .i64 h.2)∧w'.cell? ⟨b4,q4+i*3,none⟩=some (.int .i64 x.b)∧w'.cell? ⟨b4,q4+i*3+1,none⟩=some (.int .i64 x.s)) (by kernel_rfl) ⟨P0,Q0,R0,S0⟩ (fun hHeld=> ?_);clear hHeld;refine tkH 0 ⟨P0,Q0,R0,S0⟩ (h:=tkH 1 ⟨P0,Q0,R0,S0⟩ (h:=tkH 2 ⟨P0,Q0,R0,S0⟩ (h:=tkH 3 ⟨P0,Q0,R0,S0⟩ (h:=tkH 4 ⟨P0,Q0,R0,S0⟩ (h:=tkH 5 ⟨P0,Q0,R0,S0⟩ (h:=tkH 6 ⟨P0,Q0,R0,S0⟩ (h:=tkH 7 ⟨P0,Q0,R0,S0⟩ (h:=tkH 8 ⟨P0,Q0,R0,S0⟩ (h:=tkH 9 ⟨P0,Q0,R0,S0⟩ (h:=tkH 10 ⟨P0,Q0,R0,S0⟩ (h:=tkH 11 ⟨P0,Q0,R0,S0⟩ (h:=?_))))))))))));simp only [List.set];refine tkH 12 ⟨P0,Q0,R0,S0⟩ (h:=tkH 13 ⟨P0,Q0,R0,S0⟩ (h:=skH 14 ⟨P0,Q0,R0,S0⟩ (h:=skH 15 ⟨P0,Q0,R0,S0⟩ (h:=skH 16 ⟨P0,Q0,R0,S0⟩ (h:=skH 17 ⟨P0,Q0,R0,S0⟩ (h:=skH 18 ⟨P0,Q0,R0,S0⟩ (h:=skH 19 ⟨P0,Q0,R0,S0⟩ (h:=skH 20 ⟨P0,Q0,R0,S0⟩ (h:=skH 21 ⟨P0,Q0,R0,S0⟩ (h:=skH 22 ⟨P0,Q0,R0,S0⟩ (h:=skH 23 ⟨P0,Q0,R0,S0⟩ (h:=?_))))))))))));simp only [List.set];refine skH 24 ⟨P0,Q0,R0,S0⟩ (h:=tkH 25 ⟨P0,Q0,R0,S0⟩ (h:=tkH 26 ⟨P0,Q0,R0,S0⟩ (h:=tkH 27 ⟨P0,Q0,R0,S0⟩ (h:=?_))));simp only [List.set];refine oD ?_;go_simp;go_wp2_with (fail);go_roundw
       case rel=>exact ⟨j+1,by go_num,by rw [ab.out],by omega,fz⟩
       case measure=>simp [intOf];omega
    ·
     obtain rfl:j=nA:=by omega
     have u0:decide ((j:Int)<j)=false:=decide_eq_false (by omega);have bh:decide (j<j)=false:=decide_eq_false (by omega);rw [bm.out];have bz:=Lib.hid (kx.out wr ag);have b1:=ad.cell x0 zq;have cc:=ad.cell x1 zq;have bx:=ad.cell x2 zq;have cv:(C !=C)=false:=by cases C<;>rfl
     clear ar kx kh x0 x1 x2;go_upto_region 18 with (go_at_call 14;(with_reducible refine (bz.out).mono ?_);rintro _ wb ⟨rfl,fb⟩)
     have cb:=ag.trans fb zr;have X0:=fb.cell b1 zq;have X1:=fb.cell cc zq;have X2:=fb.cell bx zq;clear b1 cc bx bz fb ag ad;go_wp2_with (fail);have a8:Hid (Rd wb w6.heap.size 3 A6 nV (VA.flatMap Id.cells)):=ax.fr cb zr
     go_loopw [13] (fun v wr=>∃j:Nat,v=.int .i64 (j:Int)∧j≤nV∧Fr Non wb wr) (fun v _=>nV-(intOf v).toNat)
     case atStart=>exact ⟨0,rfl,Af9 _,Fr.refl _ _⟩
     case round=>
      obtain ⟨k,rfl,hk,af⟩:=hrel;have ag:=cb.trans af zr
      by_cases hkn:k<nV
      ·
       obtain ⟨y,hy⟩:∃y,VA[k]? =some y:=⟨_,Af8 (by rw [ai.out];exact hkn)⟩;obtain ⟨b6,q6,rfl,_,y0,y1,y2⟩:=Id.at (a8.out.fr af zr) hy;have bo:=Ag0 hy;have a9:=Lib.hid (kb.out y x wr.drew ag.drew (ao.out y bo) cj);have aj:=Lib.hid (bc.out y bo);have j1:(0:Int)≤k:=by omega
       have j2:(k:Int)<nV:=by omega
       have j3:(k:Int).toNat=k:=by omega
       have u0:decide ((k:Int)<nV)=true:=decide_eq_true j2;have bh:decide (k<nV)=true:=decide_eq_true hkn;have e1:IntKind.i64.wrap ((k:Int)+1)=(k:Int)+1:=IntWalk.i64_in _ (by omega);have P0:wr.drew.cell? ⟨b6,q6+k*3,none⟩=some (.int .i64 y.b):=y0;have Q0:wr.drew.cell? ⟨b6,q6+k*3+1,none⟩=some (.int .i64 y.s):=y1;have R0:wr.drew.cell? ⟨b6,q6+k*3+2,none⟩=some (.int .u64 (y.u:Int)):=y2;have S0:wr.drew.cell? ⟨b4,q4+i*3,none⟩=some (.int .i64 x.b):=af.cell X0 zq;have T0:wr.drew.cell? ⟨b4,q4+i*3+1,none⟩=some (.int .i64 x.s):=af.cell X1 zq;have U0:wr.drew.cell? ⟨b4,q4+i*3+2,none⟩=some (.int .u64 (x.u:Int)):=af.cell X2 zq;have F0:Fr Non wr wr.drew:=(Fr.refl Non wr).drew;clear hy bo y0 y1 y2 kb bc;obtain ⟨B,hB⟩:=Aa (bef l y x);rw [hB.out] at a9 aj
       rcases zb (y.b==x.b) with v1|v1
       ·
        cases B
        case true=>
         have cp:=aj.out (beq_iff_eq.1 v1) rfl;subst cp;go_upto_region 21 with (fail)
         refine wp_region_held_drew (S:=fun w'=>w'.cell? ⟨b6,q6+k*3,none⟩=some (.int .i64 y.b)∧w'.cell? ⟨b6,q6+k*3+1,none⟩=some (.int .i64 y.s)∧w'.cell? ⟨b6,q6+k*3+2,none⟩=some (.int .u64 (y.u:Int))∧w'.cell? ⟨b4,q4+i*3,none⟩=some (.int .i64 x.b)∧w'.cell? ⟨b4,q4+i*3+1,none⟩=some (.int .i64 x.s)∧w'.cell? ⟨b4,q4+i*3+2,none⟩=some (.int .u64 (x.u:Int))) (by kernel_rfl) ⟨P0,Q0,R0,S0,T0,U0⟩ (fun hHeld=> ?_);clear hHeld;refine tkH 0 ⟨P0,Q0,R0,S0,T0,U0⟩ (h:=tkH 1 ⟨P0,Q0,R0,S0,T0,U0⟩ (h:=tkH 2 ⟨P0,Q0,R0,S0,T0,U0⟩ (h:=tkH 3 ⟨P0,Q0,R0,S0,T0,U0⟩ (h:=tkH 4 ⟨P0,Q0,R0,S0,T0,U0⟩ (h:=tkH 5 ⟨P0,Q0,R0,S0,T0,U0⟩ (h:=tkH 6 ⟨P0,Q0,R0,S0,T0,U0⟩ (h:=tkH 7 ⟨P0,Q0,R0,S0,T0,U0⟩ (h:=tkH 8 ⟨P0,Q0,R0,S0,T0,U0⟩ (h:=tkH 9 ⟨P0,Q0,R0,S0,T0,U0⟩ (h:=tkH 10 ⟨P0,Q0,R0,S0,T0,U0⟩ (h:=tkH 11 ⟨P0,Q0,R0,S0,T0,U0⟩ (h:=?_))))))))))));simp only [List.set];refine tkH 12 ⟨P0,Q0,R0,S0,T0,U0⟩ (h:=tkH 13 ⟨P0,Q0,R0,S0,T0,U0⟩ (h:=tkH 14 ⟨P0,Q0,R0,S0,T0,U0⟩ (h:=tkH 15 ⟨P0,Q0,R0,S0,T0,U0⟩ (h:=tkH 16 ⟨P0,Q0,R0,S0,T0,U0⟩ (h:=tkH 17 ⟨P0,Q0,R0,S0,T0,U0⟩ (h:=tkH 18 ⟨P0,Q0,R0,S0,T0,U0⟩ (h:=tkH 19 ⟨P0,Q0,R0,S0,T0,U0⟩ (h:=tkH 20 ⟨P0,Q0,R0,S0,T0,U0⟩ (h:=?_)))))))));simp only [List.set];refine oG 21 (fun K hK=> ?_);go_simp;go_wp2_with (go_at_call 16;(with_reducible refine (a9.out).mono ?_);rintro _ v1 ⟨rfl,aa⟩;have P1:=aa.cell P0 zq;have Q1:=aa.cell Q0 zq;have R1:=aa.cell R0 zq;have S1:=aa.cell S0 zq;have T1:=aa.cell T0 zq;have U1:=aa.cell U0 zq;have F1:=F0.trans aa zr);refine hK.out _ _ ⟨P1,Q1,R1,S1,T1,U1⟩ (fun hZ=> ?_);clear hZ hK K;try simp only [Ag,List.set]
         refine tkH 22 ⟨P1,Q1,R1,S1,T1,U1⟩ (h:=tkH 23 ⟨P1,Q1,R1,S1,T1,U1⟩ (h:=tkH 24 ⟨P1,Q1,R1,S1,T1,U1⟩ (h:=tkH 25 ⟨P1,Q1,R1,S1,T1,U1⟩ (h:=tkH 26 ⟨P1,Q1,R1,S1,T1,U1⟩ (h:=?_)))));simp only [List.set];refine oD ?_;go_simp;have fz:=af.trans F1 zr;go_wp2_with (fail);go_roundw
         case rel=>exact ⟨k+1,by go_num,by omega,fz⟩
         case measure=>simp [intOf];omega
        case false=>
         go_upto_region 21 with (fail)
         refine wp_region_held_drew (S:=fun w'=>w'.cell? ⟨b6,q6+k*3,none⟩=some (.int .i64 y.b)∧w'.cell? ⟨b6,q6+k*3+1,none⟩=some (.int .i64 y.s)∧w'.cell? ⟨b6,q6+k*3+2,none⟩=some (.int .u64 (y.u:Int))∧w'.cell? ⟨b4,q4+i*3,none⟩=some (.int .i64 x.b)∧w'.cell? ⟨b4,q4+i*3+1,none⟩=some (.int .i64 x.s)∧w'.cell? ⟨b4,q4+i*3+2,none⟩=some (.int .u64 (x.u:Int))) (by kernel_rfl) ⟨P0,Q0,R0,S0,T0,U0⟩ (fun hHeld=> ?_);clear hHeld;refine tkH 0 ⟨P0,Q0,R0,S0,T0,U0⟩ (h:=tkH 1 ⟨P0,Q0,R0,S0,T0,U0⟩ (h:=tkH 2 ⟨P0,Q0,R0,S0,T0,U0⟩ (h:=tkH 3 ⟨P0,Q0,R0,S0,T0,U0⟩ (h:=tkH 4 ⟨P0,Q0,R0,S0,T0,U0⟩ (h:=tkH 5 ⟨P0,Q0,R0,S0,T0,U0⟩ (h:=tkH 6 ⟨P0,Q0,R0,S0,T0,U0⟩ (h:=tkH 7 ⟨P0,Q0,R0,S0,T0,U0⟩ (h:=tkH 8 ⟨P0,Q0,R0,S0,T0,U0⟩ (h:=tkH 9 ⟨P0,Q0,R0,S0,T0,U0⟩ (h:=tkH 10 ⟨P0,Q0,R0,S0,T0,U0⟩ (h:=tkH 11 ⟨P0,Q0,R0,S0,T0,U0⟩ (h:=?_))))))))))));simp only [List.set];refine tkH 12 ⟨P0,Q0,R0,S0,T0,U0⟩ (h:=tkH 13 ⟨P0,Q0,R0,S0,T0,U0⟩ (h:=tkH 14 ⟨P0,Q0,R0,S0,T0,U0⟩ (h:=tkH 15 ⟨P0,Q0,R0,S0,T0,U0⟩ (h:=tkH 16 ⟨P0,Q0,R0,S0,T0,U0⟩ (h:=tkH 17 ⟨P0,Q0,R0,S0,T0,U0⟩ (h:=tkH 18 ⟨P0,Q0,R0,S0,T0,U0⟩ (h:=tkH 19 ⟨P0,Q0,R0,S0,T0,U0⟩ (h:=tkH 20 ⟨P0,Q0,R0,S0,T0,U0⟩ (h:=?_)))))))));simp only [List.set];refine oG 21 (fun K hK=> ?_);go_simp;go_wp2_with (go_at_call 16;(with_reducible refine (a9.out).mono ?_);rintro _ v1 ⟨rfl,aa⟩;have P1:=aa.cell P0 zq;have Q1:=aa.cell Q0 zq;have R1:=aa.cell R0 zq;have S1:=aa.cell S0 zq;have T1:=aa.cell T0 zq;have U1:=aa.cell U0 zq;have F1:=F0.trans aa zr);refine hK.out _ _ ⟨P1,Q1,R1,S1,T1,U1⟩ (fun hZ=> ?_);clear hZ hK K;try simp only [Ag,List.set]
         refine tkH 22 ⟨P1,Q1,R1,S1,T1,U1⟩ (h:=tkH 23 ⟨P1,Q1,R1,S1,T1,U1⟩ (h:=skH 24 ⟨P1,Q1,R1,S1,T1,U1⟩ (h:=skH 25 ⟨P1,Q1,R1,S1,T1,U1⟩ (h:=tkH 26 ⟨P1,Q1,R1,S1,T1,U1⟩ (h:=?_)))));simp only [List.set];refine oD ?_;go_simp;have fz:=af.trans F1 zr;go_wp2_with (fail);go_roundw
         case rel=>exact ⟨k+1,by go_num,by omega,fz⟩
         case measure=>simp [intOf];omega
       ·
        skip
        go_upto_region 21 with (fail)
        refine wp_region_held_drew (S:=fun w'=>w'.cell? ⟨b6,q6+k*3,none⟩=some (.int .i64 y.b)∧w'.cell? ⟨b6,q6+k*3+1,none⟩=some (.int .i64 y.s)∧w'.cell? ⟨b6,q6+k*3+2,none⟩=some (.int .u64 (y.u:Int))∧w'.cell? ⟨b4,q4+i*3,none⟩=some (.int .i64 x.b)∧w'.cell? ⟨b4,q4+i*3+1,none⟩=some (.int .i64 x.s)∧w'.cell? ⟨b4,q4+i*3+2,none⟩=some (.int .u64 (x.u:Int))) (by kernel_rfl) ⟨P0,Q0,R0,S0,T0,U0⟩ (fun hHeld=> ?_);clear hHeld;refine tkH 0 ⟨P0,Q0,R0,S0,T0,U0⟩ (h:=tkH 1 ⟨P0,Q0,R0,S0,T0,U0⟩ (h:=tkH 2 ⟨P0,Q0,R0,S0,T0,U0⟩ (h:=tkH 3 ⟨P0,Q0,R0,S0,T0,U0⟩ (h:=tkH 4 ⟨P0,Q0,R0,S0,T0,U0⟩ (h:=tkH 5 ⟨P0,Q0,R0,S0,T0,U0⟩ (h:=tkH 6 ⟨P0,Q0,R0,S0,T0,U0⟩ (h:=tkH 7 ⟨P0,Q0,R0,S0,T0,U0⟩ (h:=tkH 8 ⟨P0,Q0,R0,S0,T0,U0⟩ (h:=tkH 9 ⟨P0,Q0,R0,S0,T0,U0⟩ (h:=tkH 10 ⟨P0,Q0,R0,S0,T0,U0⟩ (h:=tkH 11 ⟨P0,Q0,R0,S0,T0,U0⟩ (h:=?_))))))))))));simp only [List.set];refine skH 12 ⟨P0,Q0,R0,S0,T0,U0⟩ (h:=skH 13 ⟨P0,Q0,R0,S0,T0,U0⟩ (h:=skH 14 ⟨P0,Q0,R0,S0,T0,U0⟩ (h:=skH 15 ⟨P0,Q0,R0,S0,T0,U0⟩ (h:=skH 16 ⟨P0,Q0,R0,S0,T0,U0⟩ (h:=skH 17 ⟨P0,Q0,R0,S0,T0,U0⟩ (h:=skH 18 ⟨P0,Q0,R0,S0,T0,U0⟩ (h:=skH 19 ⟨P0,Q0,R0,S0,T0,U0⟩ (h:=skH 20 ⟨P0,Q0,R0,S0,T0,U0⟩ (h:=skH 21 ⟨P0,Q0,R0,S0,T0,U0⟩ (h:=tkH 22 ⟨P0,Q0,R0,S0,T0,U0⟩ (h:=tkH 23 ⟨P0,Q0,R0,S0,T0,U0⟩ (h:=?_))))))))))));simp only [List.set];refine skH 24 ⟨P0,Q0,R0,S0,T0,U0⟩ (h:=skH 25 ⟨P0,Q0,R0,S0,T0,U0⟩ (h:=tkH 26 ⟨P0,Q0,R0,S0,T0,U0⟩ (h:=?_)));simp only [List.set];refine oD ?_;go_simp;have fz:=af.trans F0 zr;go_wp2_with (fail);go_roundw
        case rel=>exact ⟨k+1,by go_num,by omega,fz⟩
        case measure=>simp [intOf];omega
      ·
       obtain rfl:k=nV:=by omega
       have u0:decide ((k:Int)<k)=false:=decide_eq_false (by omega);have bh:decide (k<k)=false:=decide_eq_false (by omega);go_wp2_with (fail);go_roundw
       case rel=>exact ⟨i+1,by go_num,by omega,ag⟩
       case measure=>simp [intOf];omega
  ·
   obtain rfl:i=N:=by omega
   have t0:decide ((i:Int)<i)=false:=decide_eq_false (by omega);have ck:decide (i<i)=false:=decide_eq_false (by omega);clear bu ba kh kb a1 az ap ak ao;have cq:=ch.trans hf zr;have oV:Hid (Rd wr w6.heap.size 3 A6 nV (VA.flatMap Id.cells)):=ax.fr hf zr;clear ax ch hf;generalize wr=wk at*;go_wp2_with (fail)
   go_loopw [14] (fun v wr=>∃m:Nat,v=.int .i64 ((m:Int)+1)∧m≤14∧Fr Non wk wr) (fun v _=>15-(intOf v).toNat)
   case atStart=>exact ⟨0,rfl,by omega,Fr.refl _ _⟩
   case round=>
    obtain ⟨m,rfl,hm,a5⟩:=hrel
    by_cases hmn:m+1<nV
    ·
     obtain ⟨x,hx⟩:∃x,VA[m]? =some x:=⟨_,Af8 (by rw [ai.out];omega)⟩;obtain ⟨y,hy⟩:∃y,VA[m+1]? =some y:=⟨_,Af8 (by rw [ai.out];exact hmn)⟩;have cn:=ay.out m x y hx hy;obtain ⟨b6,q6,rfl,_,x0,x1,x2⟩:=Id.at (oV.out.fr a5 zr) hx;obtain ⟨b7,q7,e7,_,y0,y1,y2⟩:=Id.at (oV.out.fr a5 zr) hy;injection e7 with e7
     injection e7 with e7 e8
     subst e7;subst e8;have au:=Ml x y wr.drew;rw [cn] at au;unfold Ac at au;replace au:=Lib.hid au;have j1:(0:Int)≤m:=by omega
     have j2:(m:Int)<nV:=by omega
     have j3:(m:Int).toNat=m:=by omega
     have k1:(0:Int)≤(m:Int)+1:=by omega
     have k2:(m:Int)+1<nV:=by omega
     have k3:((m:Int)+1).toNat=m+1:=by omega
     have u0:decide ((m:Int)+1<nV)=true:=decide_eq_true k2;have e1:IntKind.i64.wrap ((m:Int)+1-1)=(m:Int):=by rw [show (m:Int)+1-1=(m:Int) from by omega];exact IntWalk.i64_in _ (by omega)
     have cl:IntKind.i64.wrap (m:Int)=(m:Int):=IntWalk.i64_in _ (by omega);have e2:IntKind.i64.wrap ((m:Int)+1+1)=(m:Int)+1+1:=IntWalk.i64_in _ (by omega);have es:(m:Int)+1-1=(m:Int):=by omega
     have P0:wr.drew.cell? ⟨b6,q6+m*3,none⟩=some (.int .i64 x.b):=x0;have Q0:wr.drew.cell? ⟨b6,q6+m*3+1,none⟩=some (.int .i64 x.s):=x1;have R0:wr.drew.cell? ⟨b6,q6+m*3+2,none⟩=some (.int .u64 (x.u:Int)):=x2;have S0:wr.drew.cell? ⟨b6,q6+(m+1)*3,none⟩=some (.int .i64 y.b):=y0;have T0:wr.drew.cell? ⟨b6,q6+(m+1)*3+1,none⟩=some (.int .i64 y.s):=y1;have U0:wr.drew.cell? ⟨b6,q6+(m+1)*3+2,none⟩=some (.int .u64 (y.u:Int)):=y2;have F0:Fr Non wr wr.drew:=(Fr.refl Non wr).drew;clear hx hy x0 x1 x2 y0 y1 y2;go_upto_region 26 with (fail)
     refine wp_region_held_drew (S:=fun w'=>w'.cell? ⟨b6,q6+m*3,none⟩=some (.int .i64 x.b)∧w'.cell? ⟨b6,q6+m*3+1,none⟩=some (.int .i64 x.s)∧w'.cell? ⟨b6,q6+m*3+2,none⟩=some (.int .u64 (x.u:Int))∧w'.cell? ⟨b6,q6+(m+1)*3,none⟩=some (.int .i64 y.b)∧w'.cell? ⟨b6,q6+(m+1)*3+1,none⟩=some (.int .i64 y.s)∧w'.cell? ⟨b6,q6+(m+1)*3+2,none⟩=some (.int .u64 (y.u:Int))) (by kernel_rfl) ⟨P0,Q0,R0,S0,T0,U0⟩ (fun hHeld=> ?_);clear hHeld;refine tkH 0 ⟨P0,Q0,R0,S0,T0,U0⟩ (h:=tkH 1 ⟨P0,Q0,R0,S0,T0,U0⟩ (h:=tkH 2 ⟨P0,Q0,R0,S0,T0,U0⟩ (h:=?_)));simp only [List.set];try simp only [e1,es,cl]
     refine tkH 3 ⟨P0,Q0,R0,S0,T0,U0⟩ (h:=tkH 4 ⟨P0,Q0,R0,S0,T0,U0⟩ (h:=tkH 5 ⟨P0,Q0,R0,S0,T0,U0⟩ (h:=tkH 6 ⟨P0,Q0,R0,S0,T0,U0⟩ (h:=tkH 7 ⟨P0,Q0,R0,S0,T0,U0⟩ (h:=tkH 8 ⟨P0,Q0,R0,S0,T0,U0⟩ (h:=?_))))));simp only [List.set];refine oG 9 (fun K hK=> ?_);go_simp;go_wp2_with (go_at_call 17;(with_reducible refine (au.out).mono ?_);rintro _ v1 ⟨rfl,aa⟩;have P1:=aa.cell P0 zq;have Q1:=aa.cell Q0 zq;have R1:=aa.cell R0 zq;have S1:=aa.cell S0 zq;have T1:=aa.cell T0 zq;have U1:=aa.cell U0 zq;have F1:=F0.trans aa zr);refine hK.out _ _ ⟨P1,Q1,R1,S1,T1,U1⟩ (fun hZ=> ?_);clear hZ hK K;try simp only [Ag,List.set]
     refine tkH 10 ⟨P1,Q1,R1,S1,T1,U1⟩ (h:=?_);simp only [List.set];refine oD ?_;go_simp;have fz:=a5.trans F1 zr;go_wp2_with (fail);go_roundw
     case rel=>exact ⟨m+1,by go_num,by omega,fz⟩
     case measure=>simp [intOf];omega
    ·
     have u0:decide ((m:Int)+1<nV)=false:=decide_eq_false (by omega);have u2:decide ((nA:Int)≤nV)=true:=decide_eq_true (by omega);have cu:decide (nA≤nV)=true:=decide_eq_true l2;have fz:=cq.trans a5 zr;have kl:=Lib.hid (av.out wr fz);clear oV ay av;go_wp2_with (go_at_call 15;(with_reducible refine (kl.out).mono ?_);rintro _ wq ⟨rfl,fq⟩;(have hd:=Lib.hid (bp.out wq (fz.trans fq zr))));exact hd.out
end Oq
end
section
open Go.ChangeShapes Go.WideShapes Go.ChangeAt Go.RowKit
theorem Af4 (os:Os) (started:os.Started) (H:Type) (enc:TypeId × Value→H):
  ReturnsInHanded {} Tryz.checked os 4 .any (fun w args=>(Rows.forkVoidSpec.pre enc Tryz.prog Tryz.f4 [] false w args∧laidMetH Tryz.prog [("huddle/op.kinds",Rows.laid_huddle_op_kinds)] w)∧sizedMet enc Tryz.prog Tryz.f4 (OpenSpec.ofChange Rows.forkVoidSpec) false w args)
   (Rows.forkVoidSpec.post enc Tryz.prog Tryz.f4 false true false false):=by
 refine returnsInHanded_of_change_and (C:=Tryz.checked) (X:=fun w _=>laidMetH Tryz.prog [("huddle/op.kinds",Rows.laid_huddle_op_kinds)] w) (fun _ _ _ hh h=>h.of_heap hh) Tryz.own started (by kernel_rfl) Tryz.func4
  (ChangeSpec.witness_at (enc:=enc) (C:=Tryz.checked) (os:=os) (X:=fun w _=>laidMetH Tryz.prog [("huddle/op.kinds",Rows.laid_huddle_op_kinds)] w) false (Gj os) #[.slice none 0 0,.slice none 0 0] 8 rfl (by kernel_rfl) (by kernel_rfl) (by kernel_rfl) (by kernel_rfl) (by kernel_rfl) (Js os _)) ?_
 intro W base args ds gs before hval0 hW _ _ hL _;have hk:=Jr hL;have hval:∀(j:Nat) t v,Tryz.f4.params[j]? =some t→args[j]? =some v→Value.okWide Tryz.prog W .any base t v:=hval0;have hW':=hW;obtain ⟨p,q,hA0,hV,rfl,hfz,hnd⟩:=hW;have hA:DataW.TrodAll enc Tryz.prog W 0 (fun _=>true) true Tryz.f4.params.toList args.toList ds p:=hA0;rw [Tryz.params4] at hA hval;obtain ⟨v0,v1,d0,d1,p0,p1,rfl,rfl,rfl,h0,h1⟩:=trodAll_two hA;obtain ⟨A0,c0,l0,rfl,hlc0,hc0,hr0,hok0⟩:=Ge Tryz.underlying22 Tryz.underlying3 (by kernel_rfl) (hval 0 22 v0 rfl rfl) h0;obtain ⟨A1,c1,l1,rfl,hlc1,hc1,hr1,hok1⟩:=Ge Tryz.underlying22 Tryz.underlying3 (by kernel_rfl) (hval 1 22 v1 rfl rfl) h1;refine (Oq.forkVoid_law A0 c0 l0 A1 c1 l1 W hk hr0 hlc0 hc0 hok0 hr1 hlc1 hc1 hok1).mono fun e W' ⟨he,hf⟩=> ?_;exact ⟨_,he,Ja Tryz.laidOut (by kernel_rfl) rfl (by kernel_rfl) Tryz.underlying4 hW' ⟨rfl,rfl,rfl⟩ hf⟩
theorem Af5:Rows.ForkVoidSaid:=
 OpenClaim.holds_of_wide 4 Tryz.f4 rfl rfl rfl rfl rfl rfl rfl ⟨rfl,rfl,rfl,rfl,rfl⟩ rfl rfl rfl rfl rfl (by kernel_rfl) Tryz.func4 (by kernel_rfl)
  (of_decide_eq_true (by kernel_rfl)) (by unfold Func.isWrapper;rw [if_neg (by decide+kernel)];exact ⟨rfl,rfl⟩)
  (fun os started H enc _=>Af4 os started H enc)
end
section
open Go
theorem forkVoid_card_holds:Rows.ForkVoidCardSaid:=
 Claim7.holds_tied_plain_at .later [] [.data] true (true, "5a1175df055d93971c25109e8ab4623de026253a388d36766dc23903d972f333") false
  Af5 (fun _ h=>by cases h) (by kernel_rfl) (fun _ h=>by cases h) forkVoid_row_tie rfl ⟨rfl,rfl⟩ (by kernel_rfl) rfl
  (fun f fn hf hfn=>by
   obtain rfl:f=4:=Option.some.inj ((show Tryz.prog.funcNamed "huddle/huddlelaw13.ForkVoid" =some 4 by kernel_rfl).symm.trans hf)|>.symm;obtain rfl:fn=Tryz.f4:=(Option.some.inj (Tryz.func4.symm.trans hfn)).symm
   exact ⟨by kernel_rfl,fun j t ht=>by
    rw [Tryz.params4] at ht
    have hm:t∈([22,22]:List TypeId):=by
     have h2:=Array.mem_of_getElem? ht;simpa using h2
    have hall:([22,22]:List TypeId).all (fun t=> !(Tryz.prog.wantsStandIn t))=true:=by kernel_rfl
    have:=List.all_eq_true.1 hall t hm;exact (by simpa using this:Tryz.prog.wantsStandIn t=false)⟩)
  (by kernel_rfl)
end
end Go.Proofs.YtkanjaikgphjfaaGreatDoor
