/-
  huddlelaw13.ForkMore: what has forked in a part has forked in the whole, and what is void there is void here.
    Conditions: op.kinds lies as its text lays it; the numbers read.
  ForkMore: whatever the input is, where the one listed variable is as its text lays it, the law returns true, and nothing that was there has turned.
    Condition: none.
  ForkMore: the tied card.
    Condition: none.
-/
import Derived.ChangeVars
import Derived.JoinedOf
import Derived.RowKitTokens
import Derived.LaidLaws
import Derived.Test.YtkanjaikgphjfaaGreatDoorTie
import Derived.Test.YtkanjaikgphjfaaGreatDoorCards
import Derived.SevenTiedAt
import Derived.Test.YtkanjaikgphjfaaGreatDoorFkM1
import Derived.Test.YtkanjaikgphjfaaGreatDoorFkM3
import Derived.Test.YtkanjaikgphjfaaGreatDoorFkM14
set_option maxRecDepth 100000
set_option maxHeartbeats 16000000
open List renaming getElem?_eq_getElem→Af9,mem_of_getElem?→Ag0
open Nat renaming zero_le→Af8
namespace Go.Proofs.YtkanjaikgphjfaaGreatDoor
section
open Go.RowKit
attribute [local go_sem ↓] Go.wp_at_zero Go.wp_at_succ
namespace Oq
attribute [local go_sem] Bool.not_false Bool.not_true
attribute [local go_sem ↓] Fg Ga
theorem forkMore_law (A:Option Addr) (c:Nat) (l0:List Int) (A':Option Addr) (c':Nat) (l1:List Int) (w:World) (hk:KindsAt w) (hr:Rd w w.heap.size 1 A l0.length (l0.map Iv)) (hnc:l0.length≤c) (hnm:c≤9223372036854775807) (hok:∀x∈l0,I64 x) (hr':Rd w w.heap.size 1 A' l1.length (l1.map Iv)) (hnc':l1.length≤c') (hnm':c'≤9223372036854775807) (hok':∀x∈l1,I64 x):
  Calls Tryz.prog 3 #[.slice A l0.length c,.slice A' l1.length c'] w (Ac true w):=by
 have ap:0<w.heap.size:=World.block_lt_of_cell? w _ (hk 0 (by decide));have km:=Lib.hid (I4 w.heap.size l0.length c A l0 w rfl hr (by omega) hok);have bl:=Lib.hid (fun (b:Nat) (r:FG) (w':World) (hf:Fr Non w w') (h:r.own w' b) (hcs:r.cards=Av 0 [1,2,2,3])=>I5 b r w' h hcs (Nat.lt_of_lt_of_le ap hf.size) (hk.fr hf));have au:=fun (w':World) (hf:Fr Non w w')=>Lo w' (hk.fr hf);unfold Ac at au;replace au:=Lib.hid au;have ay:=Lib.hid (fun (b:Nat) (r:FG) (v:World) (hf:Fr Non w v) (h:r.own v b) (hne:r.l≠[])=>Q9 b w.heap.size l1.length c' A' l1 r v h hne rfl (hr'.fr hf zr) (by omega) hok');obtain ⟨n1,b0⟩:=Aa l1.length;rw [b0.out] at ay ⊢;have aw:Hid (∀wz,Fr Non w wz→Ac true w (.returned (.bool true)) wz):=fun wz h=>⟨rfl,h⟩;generalize Ac true w=POST at*;obtain ⟨n0,bk⟩:=Aa l0.length;rw [bk.out] at km ⊢;clear hk ap hr hnc hnm hok hr' hnc' hnm' hok' b0;go_enter Tryz.func3,Tryz.ntmps3;go_upto_region 2 with (go_at_call 9;(with_reducible refine (km.out).mono ?_);rintro _ w1 ⟨r,rfl,f1,ro,b1,bq⟩;(have bn:=Blk.new w1 28 #[.slice none 0 0,.slice none 0 0,.slice none 0 0,.slice none 0 0]);(have cf:=Bq (P:=Tryz.prog) w1.heap.size 28 (cs:=r.cells) Bp (old:=#[.slice none 0 0,.slice none 0 0,.slice none 0 0,.slice none 0 0]) rfl (Ek r)))
 have bg:Blk ((w1.alloc (.cells #[.slice none 0 0,.slice none 0 0,.slice none 0 0,.slice none 0 0] 28)).setRow w1.heap.size r.cells) w1.heap.size 28 r.cells:=bn.setRow;have fG:Fr Non w1 ((w1.alloc (.cells #[.slice none 0 0,.slice none 0 0,.slice none 0 0,.slice none 0 0] 28)).setRow w1.heap.size r.cells):=((Fr.refl Non w1).alloc _).setRow (fun hh=>absurd hh (by omega)) _;have f2:=f1.trans fG zr;have av:=ro.non fG;obtain ⟨gv,b4⟩:=Aa w1.heap.size;rw [b4.out] at bg f2 av ⊢;clear cf bn fG ro f1;generalize (w1.alloc (.cells #[.slice none 0 0,.slice none 0 0,.slice none 0 0,.slice none 0 0] 28)).setRow gv r.cells=w2 at*;have hl:=Cf (P:=Tryz.prog) gv 28 Tryz.underlying28 rfl (cs:=r.cells) Bp;go_upto_region 3 with (go_at_call 10;(with_reducible refine (bl.out _ r _ f2 av b1).mono ?_);rintro _ w3 ⟨g,b,rfl,aq,hg,co,cg,f3⟩)
 have bw:=bg.fr f3 zq;have ag:=av.non f3;have a5:=f2.trans f3 zr;have bx:r.l≠[]:=by rw [bq];exact G6 _ _
 have ad:r.ids.length=r.l.length:=FG.ids_len r;have bd:Eb r.ids:=ag.fkOk;have bb:r.ids.length≤14:=by rw [ad];exact ag.num.few
 have c2:w3.cell? ⟨gv,2,none⟩=some (.slice r.iA r.ids.length r.iC):=by have h9:=bw.cell 2;rw [show r.cells[2]? =some (.slice r.iA r.l.length r.iC) from rfl,← ad] at h9;exact h9
 have ah:=ag.rdIds;rw [← ad] at ah;have ai:=Lib.hid ah;have ce:r.ids.Nodup:=Lp ag.rows;go_upto_region 6 with (go_at_call 11;(with_reducible refine (ay.out _ r _ a5 ag bx).mono ?_);rintro _ w4 ⟨on,ys,ns,A4,c4,rfl,cb,br,b3,al,o4,f4⟩)
 have hP:=Rr ag cb br b3 al;have bs:=a5.trans f4 zr;have b7:=f4.cell c2 zq;have cm:=hP.len;have ca:=Lib.hid (fun (gv:Value) (v:World) (hv:Fr Non w4 v)=>Gb w4.heap.size ns.length c4 A4 ns gv v rfl (o4.rd.fr hv zr) (by omega) hP.ok);have b2:=Lib.hid (fun (gv:Value) (v:World) (hv:Fr Non w4 v)=>Gb w3.heap.size r.ids.length r.iC r.iA r.ids gv v rfl (ai.out.fr (f4.trans hv zr) zr) (by omega) hP.okA);have bu:=Lib.hid (fun (gv:Value) (v:World) (hv:Fr Non w4 v)=>G5 w4.heap.size ns.length c4 A4 ns gv v rfl (o4.rd.fr hv zr) (by omega) hP.ok);have bz:=Lib.hid (fun (gv:Value) (v:World) (hv:Fr Non w4 v)=>G5 w3.heap.size r.ids.length r.iC r.iA r.ids gv v rfl (ai.out.fr (f4.trans hv zr) zr) (by omega) hP.okA);have bo:Hid (∀f∈Ah ns,∃m:Int,(f.1,m)∈Ah r.ids∧m≤f.2):=fun f hf=>hP.forks (d:=f.1) (n:=f.2) hf;have cl:Hid (∀x∈As ns,Ca (As r.ids) x=true):=fun x hx=>(E8 _ _).2 (hP.void hx);have bm:Hid ((As ns).length≤14∧(As r.ids).length≤14):=⟨Nat.le_trans (I6 _) hP.len,Nat.le_trans (I6 _) hP.lenA⟩;have bh:Hid ((Ah ns).length≤12∧(Ah r.ids).length≤12):=⟨Lq _,Lq _⟩;have cn:=Fr.refl Non w4;clear hP cb br b3 al ai ah ce ay bl km av ag hl bg bw hg co cg aq bq b1 f2 f3 bd bb cm ad o4 c2 bx b4 bk;generalize Ah ns=FA at*;generalize Ah r.ids=FB at*;generalize As ns=VA at*;generalize As r.ids=VB at*;generalize r.ids.length=nA at*
 go_upto_region 8 with (first
  |(go_at_call 12;(with_reducible refine (ca.out _ _ cn).mono ?_);rintro _ w5 ⟨A5,c5,rfl,o5,f5⟩;have bi:=f5.cell b7 zq)
  |(go_at_call 12;(with_reducible refine (b2.out _ _ f5).mono ?_);rintro _ w6 ⟨A6,c6,rfl,o6,f6⟩))
 obtain ⟨af,ac⟩:=Aa FA.length;obtain ⟨ae,ab⟩:=Aa FB.length;rw [ac.out,ab.out] at bh;have cd:=bh.out;have az:=o5.rd.fr f6 zr;have bf:=o6.rd;rw [ac.out] at az ⊢;rw [ab.out] at bf ⊢;have a3:=f5.trans f6 zr;have bp:=bs.trans a3 zr;have bt:=f6.cell bi zq;clear o5 o6 f5 f6 bi b7 ca b2 f4 a5 bs bh;go_wp2_with (fail)
 go_loopw [10] (fun v wr=>∃i:Nat,v=.int .i64 (i:Int)∧i≤af∧Fr Non w6 wr) (fun v _=>af-(intOf v).toNat)
 case atStart=>exact ⟨0,rfl,Af8 _,Fr.refl _ _⟩
 case round=>
  obtain ⟨i,rfl,hi,hf⟩:=hrel
  by_cases hin:i<af
  ·
   obtain ⟨f,a6⟩:∃f,FA[i]? =some f:=⟨_,Af9 (by rw [ac.out];exact hin)⟩;obtain ⟨b5,q5,rfl,_,h5⟩:=Dg (f:=Cz) (fun _=>rfl) (by omega) (az.fr hf zr) a6;have d0:=h5 0 (by omega) (.int .i64 f.1) rfl;have d1:=h5 1 (by omega) (.int .i64 f.2) rfl
   have aj:Hid (FB.any (fun h=>h.1==f.1&&decide (h.2≤f.2))=true):=by
    obtain ⟨m,h1,h2⟩:=bo.out f (Ag0 a6);exact List.any_eq_true.2 ⟨_,h1,by simp [h2]⟩
   obtain ⟨BB,aq,ak,ba⟩:∃BB:Nat→Bool,BB 0=false∧(∀j h,FB[j]? =some h→BB (j+1)=(BB j||(h.1==f.1&&decide (h.2≤f.2))))∧BB ae=true:=⟨fun j=>(FB.take j).any (fun h=>h.1==f.1&&decide (h.2≤f.2)),rfl,fun j h hj=>by (dsimp only;rw [Co hj,List.any_append,List.any_cons,List.any_nil,Bool.or_false]),by (dsimp only;rw [← ab.out,List.take_length];exact aj.out)⟩;replace aq:=Lib.hid aq;replace ak:=Lib.hid ak;replace ba:=Lib.hid ba;have i1:(0:Int)≤i:=by omega
   have i2:(i:Int)<af:=by omega
   have i3:(i:Int).toNat=i:=by omega
   have t0:decide ((i:Int)<af)=true:=decide_eq_true i2;have cc:decide (i<af)=true:=decide_eq_true hin;have cp:IntKind.i64.wrap ((i:Int)+1)=(i:Int)+1:=IntWalk.i64_in _ (by omega);clear h5 aj a6;go_wp2_with (fail);generalize wr=wa at*
   go_loopw [11,12] (fun bv v wr=>∃j:Nat,v=.int .i64 (j:Int)∧bv=.bool (BB j)∧j≤ae∧Fr Non wa wr) (fun _ v _=>ae-(intOf v).toNat)
   case atStart=>exact ⟨0,rfl,by rw [aq.out],Af8 _,Fr.refl _ _⟩
   case round=>
    obtain ⟨j,rfl,rfl,hj,ao⟩:=hrel;have a8:=hf.trans ao zr
    by_cases hjn:j<ae
    ·
     obtain ⟨h,be⟩:∃h,FB[j]? =some h:=⟨_,Af9 (by rw [ab.out];exact hjn)⟩;obtain ⟨b6,q6,rfl,_,h6⟩:=Dg (f:=Cz) (fun _=>rfl) (by omega) (bf.fr a8 zr) be;have g0:=h6 0 (by omega) (.int .i64 h.1) rfl;have g1:=h6 1 (by omega) (.int .i64 h.2) rfl;have aa:=ak.out j h be;have j1:(0:Int)≤j:=by omega
     have j2:(j:Int)<ae:=by omega
     have j3:(j:Int).toNat=j:=by omega
     have u0:decide ((j:Int)<ae)=true:=decide_eq_true j2;have a0:decide (j<ae)=true:=decide_eq_true hjn;have e1:IntKind.i64.wrap ((j:Int)+1)=(j:Int)+1:=IntWalk.i64_in _ (by omega);have P0:wr.drew.cell? ⟨b6,q6+j*2,none⟩=some (.int .i64 h.1):=g0;have Q0:wr.drew.cell? ⟨b6,q6+j*2+1,none⟩=some (.int .i64 h.2):=g1;have R0:wr.drew.cell? ⟨b5,q5+i*2,none⟩=some (.int .i64 f.1):=ao.cell d0 zq;have S0:wr.drew.cell? ⟨b5,q5+i*2+1,none⟩=some (.int .i64 f.2):=ao.cell d1 zq;have fz:=ao.trans (Fr.refl Non wr).drew zr;clear h6 g0 g1 be ak a8 ao;obtain ⟨bj,a4⟩:=Aa (BB j);rw [a4.out] at aa ⊢
     cases bj
     case true=>
      rw [Bool.true_or] at aa;replace aa:=Lib.hid aa;go_upto_region 15 with (fail)
      refine wp_region_held_drew (S:=fun w'=>w'.cell? ⟨b6,q6+j*2,none⟩=some (.int .i64 h.1)∧w'.cell? ⟨b6,q6+j*2+1,none⟩=some (.int .i64 h.2)∧w'.cell? ⟨b5,q5+i*2,none⟩=some (.int .i64 f.1)∧w'.cell? ⟨b5,q5+i*2+1,none⟩=some (.int .i64 f.2)) (by kernel_rfl) ⟨P0,Q0,R0,S0⟩ (fun hHeld=> ?_);clear hHeld;refine tkH 0 ⟨P0,Q0,R0,S0⟩ (h:=tkH 1 ⟨P0,Q0,R0,S0⟩ (h:=skH 2 ⟨P0,Q0,R0,S0⟩ (h:=skH 3 ⟨P0,Q0,R0,S0⟩ (h:=skH 4 ⟨P0,Q0,R0,S0⟩ (h:=skH 5 ⟨P0,Q0,R0,S0⟩ (h:=skH 6 ⟨P0,Q0,R0,S0⟩ (h:=skH 7 ⟨P0,Q0,R0,S0⟩ (h:=skH 8 ⟨P0,Q0,R0,S0⟩ (h:=skH 9 ⟨P0,Q0,R0,S0⟩ (h:=skH 10 ⟨P0,Q0,R0,S0⟩ (h:=skH 11 ⟨P0,Q0,R0,S0⟩ (h:=?_))))))))))));simp only [List.set];refine skH 12 ⟨P0,Q0,R0,S0⟩ (h:=skH 13 ⟨P0,Q0,R0,S0⟩ (h:=skH 14 ⟨P0,Q0,R0,S0⟩ (h:=skH 15 ⟨P0,Q0,R0,S0⟩ (h:=skH 16 ⟨P0,Q0,R0,S0⟩ (h:=skH 17 ⟨P0,Q0,R0,S0⟩ (h:=skH 18 ⟨P0,Q0,R0,S0⟩ (h:=skH 19 ⟨P0,Q0,R0,S0⟩ (h:=skH 20 ⟨P0,Q0,R0,S0⟩ (h:=skH 21 ⟨P0,Q0,R0,S0⟩ (h:=skH 22 ⟨P0,Q0,R0,S0⟩ (h:=skH 23 ⟨P0,Q0,R0,S0⟩ (h:=?_))))))))))));simp only [List.set];refine skH 24 ⟨P0,Q0,R0,S0⟩ (h:=skH 25 ⟨P0,Q0,R0,S0⟩ (h:=tkH 26 ⟨P0,Q0,R0,S0⟩ (h:=tkH 27 ⟨P0,Q0,R0,S0⟩ (h:=?_))));simp only [List.set];refine oD ?_;go_simp;go_wp2_with (fail);go_roundw
      case rel=>exact ⟨j+1,by go_num,by rw [aa.out],by omega,fz⟩
      case measure=>simp [intOf];omega
     case false=>
      rw [Bool.false_or] at aa
      rcases zb (h.1==f.1) with v1|v1
      ·
       rw [v1,Bool.true_and] at aa;replace aa:=Lib.hid aa;go_upto_region 15 with (fail)
       refine wp_region_held_drew (S:=fun w'=>w'.cell? ⟨b6,q6+j*2,none⟩=some (.int .i64 h.1)∧w'.cell? ⟨b6,q6+j*2+1,none⟩=some (.int .i64 h.2)∧w'.cell? ⟨b5,q5+i*2,none⟩=some (.int .i64 f.1)∧w'.cell? ⟨b5,q5+i*2+1,none⟩=some (.int .i64 f.2)) (by kernel_rfl) ⟨P0,Q0,R0,S0⟩ (fun hHeld=> ?_);clear hHeld;refine tkH 0 ⟨P0,Q0,R0,S0⟩ (h:=tkH 1 ⟨P0,Q0,R0,S0⟩ (h:=tkH 2 ⟨P0,Q0,R0,S0⟩ (h:=tkH 3 ⟨P0,Q0,R0,S0⟩ (h:=tkH 4 ⟨P0,Q0,R0,S0⟩ (h:=tkH 5 ⟨P0,Q0,R0,S0⟩ (h:=tkH 6 ⟨P0,Q0,R0,S0⟩ (h:=tkH 7 ⟨P0,Q0,R0,S0⟩ (h:=tkH 8 ⟨P0,Q0,R0,S0⟩ (h:=tkH 9 ⟨P0,Q0,R0,S0⟩ (h:=tkH 10 ⟨P0,Q0,R0,S0⟩ (h:=tkH 11 ⟨P0,Q0,R0,S0⟩ (h:=?_))))))))))));simp only [List.set];refine tkH 12 ⟨P0,Q0,R0,S0⟩ (h:=tkH 13 ⟨P0,Q0,R0,S0⟩ (h:=tkH 14 ⟨P0,Q0,R0,S0⟩ (h:=tkH 15 ⟨P0,Q0,R0,S0⟩ (h:=tkH 16 ⟨P0,Q0,R0,S0⟩ (h:=tkH 17 ⟨P0,Q0,R0,S0⟩ (h:=tkH 18 ⟨P0,Q0,R0,S0⟩ (h:=tkH 19 ⟨P0,Q0,R0,S0⟩ (h:=tkH 20 ⟨P0,Q0,R0,S0⟩ (h:=tkH 21 ⟨P0,Q0,R0,S0⟩ (h:=tkH 22 ⟨P0,Q0,R0,S0⟩ (h:=tkH 23 ⟨P0,Q0,R0,S0⟩ (h:=?_))))))))))));simp only [List.set];refine tkH 24 ⟨P0,Q0,R0,S0⟩ (h:=tkH 25 ⟨P0,Q0,R0,S0⟩ (h:=tkH 26 ⟨P0,Q0,R0,S0⟩ (h:=tkH 27 ⟨P0,Q0,R0,S0⟩ (h:=?_))));simp only [List.set];refine oD ?_;go_simp;go_wp2_with (fail);go_roundw
       case rel=>exact ⟨j+1,by go_num,by rw [aa.out],by omega,fz⟩
       case measure=>simp [intOf];omega
      ·
       rw [v1,Bool.false_and] at aa;replace aa:=Lib.hid aa;go_upto_region 15 with (fail)
       refine wp_region_held_drew (S:=fun w'=>w'.cell? ⟨b6,q6+j*2,none⟩=some (.int .i64 h.1)∧w'.cell? ⟨b6,q6+j*2+1,none⟩=some (.int .i64 h.2)∧w'.cell? ⟨b5,q5+i*2,none⟩=some (.int .i64 f.1)∧w'.cell? ⟨b5,q5+i*2+1,none⟩=some (.int .i64 f.2)) (by kernel_rfl) ⟨P0,Q0,R0,S0⟩ (fun hHeld=> ?_);clear hHeld;refine tkH 0 ⟨P0,Q0,R0,S0⟩ (h:=tkH 1 ⟨P0,Q0,R0,S0⟩ (h:=tkH 2 ⟨P0,Q0,R0,S0⟩ (h:=tkH 3 ⟨P0,Q0,R0,S0⟩ (h:=tkH 4 ⟨P0,Q0,R0,S0⟩ (h:=tkH 5 ⟨P0,Q0,R0,S0⟩ (h:=tkH 6 ⟨P0,Q0,R0,S0⟩ (h:=tkH 7 ⟨P0,Q0,R0,S0⟩ (h:=tkH 8 ⟨P0,Q0,R0,S0⟩ (h:=tkH 9 ⟨P0,Q0,R0,S0⟩ (h:=tkH 10 ⟨P0,Q0,R0,S0⟩ (h:=tkH 11 ⟨P0,Q0,R0,S0⟩ (h:=?_))))))))))));simp only [List.set];refine tkH 12 ⟨P0,Q0,R0,S0⟩ (h:=tkH 13 ⟨P0,Q0,R0,S0⟩ (h:=skH 14 ⟨P0,Q0,R0,S0⟩ (h:=skH 15 ⟨P0,Q0,R0,S0⟩ (h:=skH 16 ⟨P0,Q0,R0,S0⟩ (h:=skH 17 ⟨P0,Q0,R0,S0⟩ (h:=skH 18 ⟨P0,Q0,R0,S0⟩ (h:=skH 19 ⟨P0,Q0,R0,S0⟩ (h:=skH 20 ⟨P0,Q0,R0,S0⟩ (h:=skH 21 ⟨P0,Q0,R0,S0⟩ (h:=skH 22 ⟨P0,Q0,R0,S0⟩ (h:=skH 23 ⟨P0,Q0,R0,S0⟩ (h:=?_))))))))))));simp only [List.set];refine skH 24 ⟨P0,Q0,R0,S0⟩ (h:=tkH 25 ⟨P0,Q0,R0,S0⟩ (h:=tkH 26 ⟨P0,Q0,R0,S0⟩ (h:=tkH 27 ⟨P0,Q0,R0,S0⟩ (h:=?_))));simp only [List.set];refine oD ?_;go_simp;go_wp2_with (fail);go_roundw
       case rel=>exact ⟨j+1,by go_num,by rw [aa.out],by omega,fz⟩
       case measure=>simp [intOf];omega
    ·
     obtain rfl:j=ae:=by omega
     have u0:decide ((j:Int)<j)=false:=decide_eq_false (by omega);have a0:decide (j<j)=false:=decide_eq_false (by omega);rw [ba.out];clear ak;go_wp2_with (fail);go_roundw
     case rel=>exact ⟨i+1,by go_num,by omega,a8⟩
     case measure=>simp [intOf];omega
  ·
   obtain rfl:i=af:=by omega
   have t0:decide ((i:Int)<i)=false:=decide_eq_false (by omega);have cc:decide (i<i)=false:=decide_eq_false (by omega);have b9:=hf.cell bt zq;have a7:=a3.trans hf zr;clear az bf bo
   go_upto_region 20 with (first
    |(go_at_call 13;(with_reducible refine (bu.out _ _ a7).mono ?_);rintro _ w8 ⟨A8,c8,rfl,o8,f8⟩;have ci:=f8.cell b9 zq;have a2:=a7.trans f8 zr)
    |(go_at_call 13;(with_reducible refine (bz.out _ _ a2).mono ?_);rintro _ w9 ⟨A9,c9,rfl,o9,f9⟩))
   have ck:=a2.trans f9 zr;have ch:=(bp.trans hf zr).trans (f8.trans f9 zr) zr;obtain ⟨n8,bc⟩:=Aa VA.length;obtain ⟨n9,a9⟩:=Aa VB.length;rw [bc.out,a9.out] at bm;have cj:=bm.out;have a1:=o8.rd.fr f9 zr;rw [bc.out] at a1 ⊢;have ax:=o9.rd;rw [a9.out] at ax ⊢;have kh:=Lib.hid (fun (y:Id) (v:World) (hv:Fr Non w9 v)=>Hk w9.heap.size n9 c9 A9 VB y v a9 (ax.fr hv zr) (by omega));clear o8 o9 f8 f9 a7 a2 ck bp a3 bt b9 ci bu bz hf ac ab;go_wp2_with (fail)
   go_loopw [15] (fun v wr=>∃k:Nat,v=.int .i64 (k:Int)∧k≤n8∧Fr Non w9 wr) (fun v _=>n8-(intOf v).toNat)
   case atStart=>exact ⟨0,rfl,Af8 _,Fr.refl _ _⟩
   case round=>
    obtain ⟨k,rfl,hk,hf⟩:=hrel
    by_cases hkn:k<n8
    ·
     obtain ⟨y,hy⟩:∃y,VA[k]? =some y:=⟨_,Af9 (by rw [bc.out];exact hkn)⟩;obtain ⟨b8,q8,rfl,_,d0,d1,d2⟩:=Id.at (a1.fr hf zr) hy;have ar:=kh.out y wr hf;rw [cl.out y (Ag0 hy)] at ar;unfold Ac at ar;replace ar:=Lib.hid ar;have j1:(0:Int)≤k:=by omega
     have j2:(k:Int)<n8:=by omega
     have j3:(k:Int).toNat=k:=by omega
     have u0:decide ((k:Int)<n8)=true:=decide_eq_true j2;have a0:decide (k<n8)=true:=decide_eq_true hkn;have e1:IntKind.i64.wrap ((k:Int)+1)=(k:Int)+1:=IntWalk.i64_in _ (by omega);clear hy kh;go_wp2_with (go_at_call 14;(with_reducible refine (ar.out).mono ?_);rintro _ wq ⟨rfl,fq⟩);have fz:=hf.trans fq zr;go_roundw
     case rel=>exact ⟨k+1,by go_num,by omega,fz⟩
     case measure=>simp [intOf];omega
    ·
     obtain rfl:k=n8:=by omega
     have u0:decide ((k:Int)<k)=false:=decide_eq_false (by omega);have a0:decide (k<k)=false:=decide_eq_false (by omega);have fz:=ch.trans hf zr;have kl:=Lib.hid (au.out wr fz);clear kh a1 ax au;go_wp2_with (go_at_call 15;(with_reducible refine (kl.out).mono ?_);rintro _ wq ⟨rfl,fq⟩;(have hd:=Lib.hid (aw.out wq (fz.trans fq zr))));exact hd.out
end Oq
end
section
open Go.ChangeShapes Go.WideShapes Go.ChangeAt Go.RowKit
theorem Af2 (os:Os) (started:os.Started) (H:Type) (enc:TypeId × Value→H):
  ReturnsInHanded {} Tryz.checked os 3 .any (fun w args=>(Rows.forkMoreSpec.pre enc Tryz.prog Tryz.f3 [] false w args∧laidMetH Tryz.prog [("huddle/op.kinds",Rows.laid_huddle_op_kinds)] w)∧sizedMet enc Tryz.prog Tryz.f3 (OpenSpec.ofChange Rows.forkMoreSpec) false w args)
   (Rows.forkMoreSpec.post enc Tryz.prog Tryz.f3 false true false false):=by
 refine returnsInHanded_of_change_and (C:=Tryz.checked) (X:=fun w _=>laidMetH Tryz.prog [("huddle/op.kinds",Rows.laid_huddle_op_kinds)] w) (fun _ _ _ hh h=>h.of_heap hh) Tryz.own started (by kernel_rfl) Tryz.func3
  (ChangeSpec.witness_at (enc:=enc) (C:=Tryz.checked) (os:=os) (X:=fun w _=>laidMetH Tryz.prog [("huddle/op.kinds",Rows.laid_huddle_op_kinds)] w) false (Gj os) #[.slice none 0 0,.slice none 0 0] 8 rfl (by kernel_rfl) (by kernel_rfl) (by kernel_rfl) (by kernel_rfl) (by kernel_rfl) (Js os _)) ?_
 intro W base args ds gs before hval0 hW _ _ hL _;have hk:=Jr hL;have hval:∀(j:Nat) t v,Tryz.f3.params[j]? =some t→args[j]? =some v→Value.okWide Tryz.prog W .any base t v:=hval0;have hW':=hW;obtain ⟨p,q,hA0,hV,rfl,hfz,hnd⟩:=hW;have hA:DataW.TrodAll enc Tryz.prog W 0 (fun _=>true) true Tryz.f3.params.toList args.toList ds p:=hA0;rw [Tryz.params3] at hA hval;obtain ⟨v0,v1,d0,d1,p0,p1,rfl,rfl,rfl,h0,h1⟩:=trodAll_two hA;obtain ⟨A0,c0,l0,rfl,hlc0,hc0,hr0,hok0⟩:=Ge Tryz.underlying22 Tryz.underlying3 (by kernel_rfl) (hval 0 22 v0 rfl rfl) h0;obtain ⟨A1,c1,l1,rfl,hlc1,hc1,hr1,hok1⟩:=Ge Tryz.underlying22 Tryz.underlying3 (by kernel_rfl) (hval 1 22 v1 rfl rfl) h1;refine (Oq.forkMore_law A0 c0 l0 A1 c1 l1 W hk hr0 hlc0 hc0 hok0 hr1 hlc1 hc1 hok1).mono fun e W' ⟨he,hf⟩=> ?_;exact ⟨_,he,Ja Tryz.laidOut (by kernel_rfl) rfl (by kernel_rfl) Tryz.underlying4 hW' ⟨rfl,rfl,rfl⟩ hf⟩
theorem Af3:Rows.ForkMoreSaid:=
 OpenClaim.holds_of_wide 3 Tryz.f3 rfl rfl rfl rfl rfl rfl rfl ⟨rfl,rfl,rfl,rfl,rfl⟩ rfl rfl rfl rfl rfl (by kernel_rfl) Tryz.func3 (by kernel_rfl)
  (of_decide_eq_true (by kernel_rfl)) (by unfold Func.isWrapper;rw [if_neg (by decide+kernel)];exact ⟨rfl,rfl⟩)
  (fun os started H enc _=>Af2 os started H enc)
end
section
open Go
theorem forkMore_card_holds:Rows.ForkMoreCardSaid:=
 Claim7.holds_tied_plain_at .later [] [.data] true (true, "5a1175df055d93971c25109e8ab4623de026253a388d36766dc23903d972f333") false
  Af3 (fun _ h=>by cases h) (by kernel_rfl) (fun _ h=>by cases h) forkMore_row_tie rfl ⟨rfl,rfl⟩ (by kernel_rfl) rfl
  (fun f fn hf hfn=>by
   obtain rfl:f=3:=Option.some.inj ((show Tryz.prog.funcNamed "huddle/huddlelaw13.ForkMore" =some 3 by kernel_rfl).symm.trans hf)|>.symm;obtain rfl:fn=Tryz.f3:=(Option.some.inj (Tryz.func3.symm.trans hfn)).symm
   exact ⟨by kernel_rfl,fun j t ht=>by
    rw [Tryz.params3] at ht
    have hm:t∈([22,22]:List TypeId):=by
     have h2:=Array.mem_of_getElem? ht;simpa using h2
    have hall:([22,22]:List TypeId).all (fun t=> !(Tryz.prog.wantsStandIn t))=true:=by kernel_rfl
    have:=List.all_eq_true.1 hall t hm;exact (by simpa using this:Tryz.prog.wantsStandIn t=false)⟩)
  (by kernel_rfl)
end
end Go.Proofs.YtkanjaikgphjfaaGreatDoor
