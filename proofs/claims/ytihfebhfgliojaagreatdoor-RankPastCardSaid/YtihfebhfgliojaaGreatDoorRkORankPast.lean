/-
  huddlelaw14.RankPast: each operation stands behind its past, in the row; a list in the row has just what it had, each once.
    Conditions: op.kinds lies as its text lays it; the numbers read.
  RankPast: whatever the input is, where the one listed variable is as its text lays it, the law returns true, and nothing that was there has turned.
    Condition: none.
  RankPast: the tied card.
    Condition: none.
-/
import Derived.JoinedOf
import Derived.RowKitTokens
import Derived.LaidLaws
import Derived.Test.YtihfebhfgliojaaGreatDoorTie
import Derived.Test.YtihfebhfgliojaaGreatDoorCards
import Derived.SevenTiedAt
import Derived.Test.YtihfebhfgliojaaGreatDoorRkO20
set_option maxRecDepth 100000
set_option maxHeartbeats 16000000
open List renaming mem_of_getElem?->As7,getElem?_eq_getElem->As8
open Go.Proofs.Tryz
open Go.Proofs.Tryz renaming prog->zp
open Go.Lib renaming hid->lh
open List renaming set->zl
open Go.Ending renaming returned->ze
namespace Go.Proofs.YtihfebhfgliojaaGreatDoor
section
open Go.RowKit
attribute [local go_sem ↓] Go.wp_at_zero Go.wp_at_succ
namespace Oq
attribute [local go_sem] Bool.not_false Bool.not_true
attribute [local go_sem ↓] Cz Es Dw
theorem rankPast_law (A:Option Addr) (c:Nat) (l0:List Int) (A':Option Addr) (c':Nat) (l1:List Int) (w:World) (hk:KindsAt w) (hr:Rd w w.heap.size 1 A l0.length (l0.map Iv)) (hnc:l0.length<=c) (hnm:c<=9223372036854775807) (hok:∀x∈l0,I64 x) (hr':Rd w w.heap.size 1 A' l1.length (l1.map Iv)) (_hnc':l1.length<=c') (_hnm':c'<=9223372036854775807) (hok':∀x∈l1,I64 x):
  Calls zp 9 #[.slice A l0.length c,.slice A' l1.length c'] w (Ae true w):=by
 have hG:∀r:RG,(zp.info? 32).map (·.size)=some r.cells.size:=fun r=>Cx;have km:=lh (G7 w.heap.size l0.length c A l0 w rfl hr hnc hnm hok hk);unfold Ge at km;have a1:=fun (w':World) (hf:Fr Non w w')=>H9 w' (hk.fr hf);unfold Ae at a1;replace a1:=lh a1;have a9:Hid (∀wz,Fr Non w wz->Ae true w (.returned (.bool true)) wz):=fun wz h=>⟨rfl,h⟩;generalize Ae true w=POST at*;obtain ⟨n0,bh⟩:=Aa l0.length;rw [bh.out] at km ⊢;have a8:=lh (fun (b:Nat) (r:RG) (v:World) (hf:Fr Non w v) (h:r.own v b)=>J8 b r w.heap.size l1.length c' A' l1 v h rfl (hr'.fr hf zr) hok');obtain ⟨n1,be⟩:=Aa l1.length;rw [be.out] at a8 ⊢;clear hr hnc hnm hok bh hr' _hnc' _hnm' hok' be;go_enter func9,ntmps9;go_upto_region 2 with (go_at_call 23;(with_reducible refine (km.out).mono ?_);rintro _ w1 ⟨r,g,b,rfl,st,bs,bq,bp,f1⟩;(have bz:=Blk.new w1 32 zG);(have bt:=Bp (P:=zp) w1.heap.size 32 (cs:=r.cells) (hG r) (old:=zG) rfl (Eh r)))
 have bv:=bz.setRow (cs:=r.cells);have f2:Fr Non w1 ((w1.alloc (.cells zG 32)).setRow w1.heap.size r.cells):=((Fr.refl Non w1).alloc _).setRow (fun hh=>absurd hh (by omega)) _;have av:=st.non f2;have az:=f1.trans f2 zr;obtain ⟨gv,bg⟩:=Aa w1.heap.size;rw [bg.out] at bv av az ⊢;clear bt bz f2 f1 st km bg;generalize (w1.alloc (.cells zG 32)).setRow gv r.cells=w2 at*;have hl:=Bk (P:=zp) gv 32 underlying32 rfl (hG r);have au:=av.ro.rows;go_upto_region 5 with (go_at_call 26;(with_reducible refine (a8.out _ r _ az av.ro).mono ?_);rintro _ w3 ⟨ag,⟨A3,c3,rfl,o3,f3⟩,ar,_⟩)
 have aq:=av.non f3;have bo:=az.trans f3 zr;have b2:=bv.fr f3 zq;obtain ⟨n,hn⟩:=Aa ag.length;rw [hn.out] at o3 ⊢;have bw:n<=14:=by rw [<- hn.out];exact Nat.le_trans ar.len aq.few
 have a7:Hid ((Af r.l ag).length=n):=by show _=_;rw [Et,hn.out]
 have kO:=lh (fun (v:World) (hv:Fr Non w3 v) (B:Nat) (A:Option Addr) (c:Nat) (hr:Rd v B 3 A n ((ag).flatMap Id.cells))=>(aq.non hv).order ar hn (c:=c) hr);unfold Ca at kO;rw [a7.out] at kO;have ah:∀x∈Af r.l ag,x∈ag:=fun x hx=>(El r.l ag).mem_iff.1 hx;have kL:Hid (∀(x y:Id) (v:World),x∈Af r.l ag->y∈Af r.l ag->Fr Non w3 v->Calls zp 33 #[.pointer (some ⟨g.gb,0,none⟩),.agg x.V,.agg y.V] v fun e v'=>e=.returned (.bool (Bj r.l x y))/\Fr Non v v'):=fun x y v hx hy hv=>(aq.non hv).less (ar.2 x (ah x hx)) (ar.2 y (ah y hy))
 have kB:Hid (∀(x y:Id) (v:World),x∈Af r.l ag->y∈Af r.l ag->Fr Non w3 v->Calls zp 35 #[.pointer (some ⟨g.gb,0,none⟩),.agg x.V,.agg y.V] v fun e v'=>e=.returned (.bool (bef r.l x y))/\Fr Non v v'):=fun x y v hx hy hv=>by
  have:=Vm b g x y v (aq.non hv).hg (aq.idok (ar.2 x (ah x hx))) (aq.idok (ar.2 y (ah y hy)));rw [g.before_eq,aq.hp] at this;exact this
 have aw:Hid (∀(i k:Nat) (y x:Id),k<i->(Af r.l ag)[k]? =some y->(Af r.l ag)[i]? =some x->y≠x/\bef r.l x y=false/\Bj r.l y x=true):=fun i k y x hki hk hi=>Sq au (Hz r.l ag) ((El r.l ag).nodup_iff.2 ar.1) hki hk hi
 have kH:Hid (∀(x:Id) (v:World) (B:Nat) (A:Option Addr) (c:Nat),x∈Af r.l ag->Rd v B 3 A n (ag.flatMap Id.cells)->Calls zp 31 #[.slice A n c,.agg x.V] v fun e v'=>e=.returned (.bool true)/\Fr Non v v'):=fun x v B A c hx hr=>by
  have:=Hg B n c A ag x v hn hr (by omega);rw [(Hf _ _).2 (ah x hx)] at this;exact this
 obtain ⟨GB,bi⟩:=Aa g.gb;rw [bi.out] at kL kB kO ⊢;clear av aq au hG bi bq bs bp ar a8 hl bv f3 az ah;generalize Af r.l ag=RS at*;generalize Bj r.l=LS at*;generalize bef r.l=BE at*;have bb:=o3.rd;clear o3;go_upto_region 6 with (go_at_call 27;(with_reducible refine (kO.out _ (Fr.refl _ _) _ _ _ bb).mono ?_);rintro _ w4 ⟨A4,c4,rfl,o4,f4⟩)
 have br:=bo.trans f4 zr;have hI:=bb.fr f4 zr;have hO:=o4.rd;clear kO o4 bb;go_wp2_with fail
 go_loopw [9] (fun v wr=>∃i:Nat,v=.int .i64 (i:Int)/\i<=n/\Fr Non w4 wr) (fun v _=>n-(intOf v).toNat)
 case atStart=>exact ⟨0,rfl,Nat.zero_le _,Fr.refl _ _⟩
 case round=>
  obtain ⟨i,rfl,hi,hf⟩:=hrel
  by_cases hlt:i<n
  ·
   obtain ⟨x,hx⟩:∃x,RS[i]? =some x:=⟨_,As8 (by rw [a7.out];exact hlt)⟩;have i1:(0:Int)<=i:=by omega
   have i2:(i:Int)<n:=by omega
   have i3:(i:Int).toNat=i:=by omega
   obtain ⟨ba,oa,bk,_,x0,x1,x2⟩:=Id.at (hO.fr hf zr) hx;have bj:=lh (kH.out x wr w3.heap.size A3 c3 (As7 hx) (hI.fr hf zr));subst bk;go_upto_region 12 with (go_at_call 31;(with_reducible refine (bj.out).mono ?_);rintro _ w5 ⟨rfl,f5⟩)
   have bf:=hf.trans f5 zr;clear bj x0 x1 x2 hf f5;clear wr;go_wp2_with fail
   go_loopw [10] (fun v wi=>∃k:Nat,v=.int .i64 (k:Int)/\k<=i/\Fr Non w4 wi) (fun v _=>i-(intOf v).toNat)
   case atStart=>exact ⟨0,rfl,Nat.zero_le _,bf⟩
   case round=>
    clear bf;obtain ⟨k,rfl,hk,hf⟩:=hrel
    by_cases hkt:k<i
    ·
     obtain ⟨y,hy⟩:∃y,RS[k]? =some y:=⟨_,As8 (by rw [a7.out];omega)⟩;have k1:(0:Int)<=k:=by omega
     have k2:(k:Int)<n:=by omega
     have k3:(k:Int).toNat=k:=by omega
     have k4:(k:Int)<i:=by omega
     obtain ⟨b0,b1,hA,_,x0,x1,x2⟩:=Id.at (hO.fr hf zr) hx;obtain ⟨bx,bu,a5,_,y0,y1,y2⟩:=Id.at (hO.fr hf zr) hy;injection hA with hA
     injection hA with e1 e2
     subst e1 e2;injection a5 with a5
     injection a5 with e1 e2
     subst e1 e2;obtain ⟨h1,h2,h3⟩:=aw.out i k y x hkt hy hx;have hq:Id.eq y x=false:=Bool.eq_false_iff.2 (fun e=>h1 ((Id.eq_iff y x).1 e));have bd:=lh (fun (v:World) (hv:Fr Non w3 v)=>kL.out y x v (As7 hy) (As7 hx) hv);have a6:=lh (fun (v:World) (hv:Fr Non w3 v)=>kB.out x y v (As7 hx) (As7 hy) hv);rw [h3] at bd;rw [h2] at a6;have bc:=f4.trans hf zr;clear h1 h2 h3;go_upto_region 14 with (fail)
     have af:=x0;have ae:=x1;have ac:=x2;have aa:=y0;have ab:=y1;have ad:=y2;have F0:Fr Non wr wr.drew:=(Fr.refl Non wr).drew;have G0:Fr Non w3 wr.drew:=bc.drew;refine wp_region_held_drew (S:=fun w'=>cI w' ba (oa+i*3) x.b/\cI w' ba (oa+i*3+1) x.s/\cU w' ba (oa+i*3+2) x.u/\cI w' ba (oa+k*3) y.b/\cI w' ba (oa+k*3+1) y.s/\cU w' ba (oa+k*3+2) y.u) (by kernel_rfl) ⟨af,ae,ac,aa,ab,ad⟩ (fun hHeld=> ?_);clear hHeld;have uu:=aI af (aI ae (aI ac (aI aa (aI ab ad))));refine tkH 0 uu (h:=tkH 1 uu (h:=tkH 2 uu (h:=tkH 3 uu (h:=tkH 4 uu (h:=tkH 5 uu (h:=tkH 6 uu (h:=tkH 7 uu (h:=tkH 8 uu (h:=tkH 9 uu (h:=tkH 10 uu (h:=tkH 11 uu (h:=?_))))))))))));clear uu;simp only [zl];have uu:=aI af (aI ae (aI ac (aI aa (aI ab ad))));refine tkH 12 uu (h:=tkH 13 uu (h:=tkH 14 uu (h:=tkH 15 uu (h:=tkH 16 uu (h:=tkH 17 uu (h:=tkH 18 uu (h:=?_)))))));clear uu;simp only [zl];refine oG 19 (fun K hK=> ?_);go_simp;go_wp2_with (go_at_call 35;(with_reducible refine (a6.out _ G0).mono ?_);rintro _ v1 ⟨rfl,bm⟩;have F1:=F0.trans bm zr;have al:=F1.cell af zq;have ao:=F1.cell ae zq;have ap:=F1.cell ac zq;have aj:=F1.cell aa zq;have ai:=F1.cell ab zq;have ak:=F1.cell ad zq;have G1:=bc.trans F1 zr);refine hK.out _ _ ⟨al,ao,ap,aj,ai,ak⟩ (fun hZ=> ?_);clear hZ hK K;try simp only [Ad,zl]
     have uu:=aI al (aI ao (aI ap (aI aj (aI ai ak))));refine tkH 20 uu (h:=tkH 21 uu (h:=tkH 22 uu (h:=tkH 23 uu (h:=tkH 24 uu (h:=tkH 25 uu (h:=tkH 26 uu (h:=tkH 27 uu (h:=tkH 28 uu (h:=tkH 29 uu (h:=tkH 30 uu (h:=?_)))))))))));clear uu;simp only [zl];refine oG 31 (fun K hK=> ?_);go_simp;go_wp2_with (go_at_call 33;(with_reducible refine (bd.out _ G1).mono ?_);rintro _ v2 ⟨rfl,bl⟩;have F2:=F1.trans bl zr;have a0:=F2.cell af zq;have a4:=F2.cell ae zq;have a3:=F2.cell ac zq;have ay:=F2.cell aa zq;have a2:=F2.cell ab zq;have ax:=F2.cell ad zq;have G2:=bc.trans F2 zr);refine hK.out _ _ ⟨a0,a4,a3,ay,a2,ax⟩ (fun hZ=> ?_);clear hZ hK K;try simp only [Ad,zl]
     refine tkH 32 ⟨a0,a4,a3,ay,a2,ax⟩ (h:=tkH 33 ⟨a0,a4,a3,ay,a2,ax⟩ (h:=?_));simp only [zl];refine oD ?_;go_simp;have fz:=hf.trans F2 zr;clear af ae ac aa ab ad al ao ap aj ai ak a0 a4 a3 ay a2 ax F0 F1 F2 G0 G1 G2 bd a6 x0 x1 x2 y0 y1 y2;go_wp2_with fail;go_roundw
     case rel=>exact ⟨k+1,by go_num,by omega,fz⟩
     case measure=>simp [intOf];omega
    ·
     obtain rfl:k=i:=by omega
     go_wp2_with fail;go_roundw
     case rel=>exact ⟨k+1,by go_num,by omega,hf⟩
     case measure=>simp [intOf];omega
  ·
   obtain rfl:i=n:=by omega
   have fz:=br.trans hf zr;go_wp2_with (go_at_call 30;(with_reducible refine (a1.out _ fz).mono ?_);rintro _ wz ⟨rfl,bn⟩);exact a9.out _ (fz.trans bn zr)
end Oq
end
section
open Go.ChangeShapes Go.WideShapes Go.ChangeAt Go.RowKit
theorem Ar9 (os:Os) (started:os.Started) (H:Type) (enc:TypeId × Value->H):
  ReturnsInHanded {} Tryz.checked os 9 .any (fun w args=>(Rows.rankPastSpec.pre enc zp f9 [] false w args/\laidMetH zp [("huddle/op.kinds",Rows.laid_huddle_op_kinds)] w)/\sizedMet enc zp f9 (OpenSpec.ofChange Rows.rankPastSpec) false w args)
   (Rows.rankPastSpec.post enc zp f9 false true false false):=by
 refine returnsInHanded_of_change_and (C:=Tryz.checked) (X:=fun w _=>laidMetH zp [("huddle/op.kinds",Rows.laid_huddle_op_kinds)] w) (fun _ _ _ hh h=>h.of_heap hh) Tryz.own started (by kernel_rfl) func9
  (ChangeSpec.witness_at (enc:=enc) (C:=Tryz.checked) (os:=os) (X:=fun w _=>laidMetH zp [("huddle/op.kinds",Rows.laid_huddle_op_kinds)] w) false (Fp os) #[.slice none 0 0,.slice none 0 0] 8 rfl (by kernel_rfl) (by kernel_rfl) (by kernel_rfl) (by kernel_rfl) (by kernel_rfl) (Hj os _)) ?_
 intro W base args ds gs before hval0 hW _ _ hL _;have hk:=Hi hL;have hval:∀(j:Nat) t v,Tryz.f9.params[j]? =some t->args[j]? =some v->Value.okWide zp W .any base t v:=hval0;have hW':=hW;obtain ⟨p,q,hA0,hV,rfl,hfz,hnd⟩:=hW;have hA:DataW.TrodAll enc zp W 0 (fun _=>true) true Tryz.f9.params.toList args.toList ds p:=hA0;rw [params9] at hA hval;obtain ⟨v0,v1,d0,d1,p0,p1,rfl,rfl,rfl,h0,h1⟩:=trodAll_two hA;obtain ⟨A0,c0,l0,rfl,hlc0,hc0,hr0,hok0⟩:=E7 underlying22 underlying3 (by kernel_rfl) (hval 0 22 v0 rfl rfl) h0;obtain ⟨A1,c1,l1,rfl,hlc1,hc1,hr1,hok1⟩:=E7 underlying22 underlying3 (by kernel_rfl) (hval 1 22 v1 rfl rfl) h1;refine (Oq.rankPast_law A0 c0 l0 A1 c1 l1 W hk hr0 hlc0 hc0 hok0 hr1 hlc1 hc1 hok1).mono fun e W' ⟨he,hf⟩=> ?_;exact ⟨_,he,Ha Tryz.laidOut (by kernel_rfl) rfl (by kernel_rfl) underlying4 hW' ⟨rfl,rfl,rfl⟩ hf⟩
theorem As0:Rows.RankPastSaid:=
 OpenClaim.holds_of_wide 9 f9 rfl rfl rfl rfl rfl rfl rfl ⟨rfl,rfl,rfl,rfl,rfl⟩ rfl rfl rfl rfl rfl (by kernel_rfl) func9 (by kernel_rfl)
  (of_decide_eq_true (by kernel_rfl)) (by unfold Func.isWrapper;rw [if_neg (by decide+kernel)];exact ⟨rfl,rfl⟩)
  (fun os started H enc _=>Ar9 os started H enc)
end
section
open Go
theorem rankPast_card_holds:Rows.RankPastCardSaid:=
 Claim7.holds_tied_plain_at .later [] [.data] true (true, "384d72dad725d37bd6ac49b23d359ed0607772ed35652509833cbd7c76661533") false
  As0 (fun _ h=>by cases h) (by kernel_rfl) (fun _ h=>by cases h) rankPast_row_tie rfl ⟨rfl,rfl⟩ (by kernel_rfl) rfl
  (fun f fn hf hfn=>by
   obtain rfl:f=9:=Option.some.inj ((show zp.funcNamed "huddle/huddlelaw14.RankPast" =some 9 by kernel_rfl).symm.trans hf)|>.symm;obtain rfl:fn=f9:=(Option.some.inj (Tryz.func9.symm.trans hfn)).symm
   exact ⟨by kernel_rfl,fun j t ht=>by
    rw [params9] at ht
    have hm:t∈([22,22]:List TypeId):=by
     have h2:=Array.mem_of_getElem? ht;simpa using h2
    have hall:([22,22]:List TypeId).all (fun t=> !(zp.wantsStandIn t))=true:=by kernel_rfl
    have:=List.all_eq_true.1 hall t hm;exact (by simpa using this:zp.wantsStandIn t=false)⟩)
  (by kernel_rfl)
end
end Go.Proofs.YtihfebhfgliojaaGreatDoor
