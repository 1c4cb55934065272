/-
  huddlelaw14.RankPart: the row of a part is that of all, without the others.
    Conditions: op.kinds lies as its text lays it; the numbers read.
  RankPart: whatever the input is, where the one listed variable is as its text lays it, the law returns true, and nothing that was there has turned.
    Condition: none.
  RankPart: the tied card.
    Condition: none.
-/
import Derived.JoinedOf
import Derived.RowKitTokens
import Derived.LaidLaws
import Derived.Test.YtihfebhfgliojaaGreatDoorTie
import Derived.Test.YtihfebhfgliojaaGreatDoorCards
import Derived.SevenTiedAt
import Derived.Test.YtihfebhfgliojaaGreatDoorRkO20
set_option maxRecDepth 100000
set_option maxHeartbeats 16000000
open List renaming length_append->As7
open Go.Proofs.Tryz
open Go.Proofs.Tryz renaming prog->zp
open Go.Lib renaming hid->lh
open List renaming set->zl
open Go.Ending renaming returned->ze
namespace Go.Proofs.YtihfebhfgliojaaGreatDoor
section
open Go.RowKit
attribute [local go_sem ↓] Go.wp_at_zero Go.wp_at_succ
namespace Oq
attribute [local go_sem] Bool.not_false Bool.not_true
attribute [local go_sem ↓] Cz Es Dw
theorem rankPart_law (A:Option Addr) (c:Nat) (l0:List Int) (A':Option Addr) (c':Nat) (l1:List Int) (w:World) (hk:KindsAt w) (hr:Rd w w.heap.size 1 A l0.length (l0.map Iv)) (hnc:l0.length<=c) (hnm:c<=9223372036854775807) (hok:∀x∈l0,I64 x) (hr':Rd w w.heap.size 1 A' l1.length (l1.map Iv)) (_hnc':l1.length<=c') (_hnm':c'<=9223372036854775807) (hok':∀x∈l1,I64 x):
  Calls zp 5 #[.slice A l0.length c,.slice A' l1.length c'] w (Ae true w):=by
 have hG:∀r:RG,(zp.info? 32).map (·.size)=some r.cells.size:=fun r=>Cx;have km:=lh (G7 w.heap.size l0.length c A l0 w rfl hr hnc hnm hok hk);unfold Ge at km;have ao:=fun (w':World) (hf:Fr Non w w')=>H9 w' (hk.fr hf);unfold Ae at ao;replace ao:=lh ao;have ax:Hid (∀wz,Fr Non w wz->Ae true w (.returned (.bool true)) wz):=fun wz h=>⟨rfl,h⟩;generalize Ae true w=POST at*;obtain ⟨n0,a6⟩:=Aa l0.length;rw [a6.out] at km ⊢;have a2:=lh (fun (b:Nat) (r:RG) (v:World) (hf:Fr Non w v) (h:r.own v b)=>J8 b r w.heap.size l1.length c' A' l1 v h rfl (hr'.fr hf zr) hok');obtain ⟨n1,a9⟩:=Aa l1.length;rw [a9.out] at a2 ⊢;clear hr hnc hnm hok a6 hr' _hnc' _hnm' hok' a9;go_enter func5,ntmps5;go_upto_region 2 with (go_at_call 23;(with_reducible refine (km.out).mono ?_);rintro _ w1 ⟨r,g,b,rfl,st,bg,bn,bm,f1⟩;(have bz:=Blk.new w1 32 zG);(have bh:=Bp (P:=zp) w1.heap.size 32 (cs:=r.cells) (hG r) (old:=zG) rfl (Eh r)))
 have bv:=bz.setRow (cs:=r.cells);have f2:Fr Non w1 ((w1.alloc (.cells zG 32)).setRow w1.heap.size r.cells):=((Fr.refl Non w1).alloc _).setRow (fun hh=>absurd hh (by omega)) _;have ak:=st.non f2;have av:=f1.trans f2 zr;obtain ⟨gv,a4⟩:=Aa w1.heap.size;rw [a4.out] at bv ak av ⊢;clear bh bz f2 f1 st km a4;generalize (w1.alloc (.cells zG 32)).setRow gv r.cells=w2 at*;have hl:=Bk (P:=zp) gv 32 underlying32 rfl (hG r);have ad:=ak.ro.rows;go_upto_region 5 with (go_at_call 26;(with_reducible refine (a2.out _ r _ av ak.ro).mono ?_);rintro _ w3 ⟨ids,⟨A3,c3,rfl,o3,f3⟩,al,_⟩)
 have ah:=ak.non f3;have bs:=av.trans f3 zr;have br:=bv.fr f3 zq;obtain ⟨n,hn⟩:=Aa ids.length;rw [hn.out] at o3 ⊢;have bd:n<=14:=by rw [<- hn.out];exact Nat.le_trans al.len ah.few
 have aq:Hid ((Af r.l ids).length=n):=by show _=_;rw [Et,hn.out]
 have kO:=lh (fun (v:World) (hv:Fr Non w3 v) (B:Nat) (A:Option Addr) (c:Nat) (hr:Rd v B 3 A n ((ids).flatMap Id.cells))=>(ah.non hv).order al hn (c:=c) hr);unfold Ca at kO;have ag:ClosedOk r.l (Ai r.ids):=Hu ad;have ar:Hid ((Ai r.ids).length=r.l.length):=by show _=_;rw [Hv];exact Gu r
 have af:Hid ((Af r.l (Ai r.ids)).length=r.l.length):=by show _=_;rw [Et];exact ar.out
 have kA:=lh ah.all;have aj:=lh (fun (v:World) (hv:Fr Non w3 v) (B:Nat) (A:Option Addr) (c:Nat) (hr:Rd v B 3 A r.l.length ((Ai r.ids).flatMap Id.cells))=>(ah.non hv).order ag ar (c:=c) hr);unfold Ca at kA aj;rw [aq.out] at kO;rw [ar.out] at kA;rw [af.out] at aj
 have ae:Hid (Af r.l ids=(Af r.l (Ai r.ids)).filter (fun x=>Bh ids x)):=Ak8 ag.1 al.1 (fun x hx=>by
  obtain ⟨m,h1,h2⟩:=Ng (al.2 x hx);exact (Ee _).mem_iff.2 (List.mem_map.2 ⟨m,h1,h2⟩))
 have bk:=ah.few;have kH:=lh (fun (x:Id) (v:World) (B:Nat) (A:Option Addr) (c:Nat) (hr:Rd v B 3 A n (ids.flatMap Id.cells))=>Hg B n c A ids x v hn hr (by omega));unfold Ae at kH;have kE:=lh (fun (v:World) (B B':Nat) (A A':Option Addr) (c c':Nat) (h1:Rd v B 3 A n ((Af r.l ids).flatMap Id.cells)) (h2:Rd v B' 3 A' n ((Af r.l ids).flatMap Id.cells))=>Mt B n c B' n c' A A' (Af r.l ids) (Af r.l ids) v aq aq h1 h2 (by omega) true ⟨fun _=>rfl,fun _=>rfl⟩);unfold Ae at kE;have be:=hl;obtain ⟨GB,a3⟩:=Aa g.gb;rw [a3.out] at kO aj ⊢;clear ak ah ad hG a3 bn bg bm al a2 bv f3 av ag ar;generalize Af r.l (Ai r.ids)=RA at*;generalize Af r.l ids=RS at*;generalize Ai r.ids=AI at*;generalize r.l.length=N at*;generalize r.cells=CS at*;have a7:=o3.rd;clear o3
 go_upto_region 6 with (first
  |(go_at_call 22;(with_reducible refine (kA.out).mono ?_);rintro _ w4 ⟨A4,c4,rfl,o4,f4⟩)
  |(go_at_call 27;(with_reducible refine (aj.out _ f4 _ _ _ o4.rd).mono ?_);rintro _ w5 ⟨A5,c5,rfl,o5,f5⟩))
 have a1:=f4.trans f5 zr;have bp:=bs.trans a1 zr;have hI:=a7.fr a1 zr;have hO:=o5.rd;clear kA aj o4 o5 a7 f4 f5 hl be br;obtain ⟨FT,ai⟩:∃FT:Nat->List Id,FT=fun i=>(RA.take i).filter (fun x=>Bh ids x):=⟨_,rfl⟩;have a8:Hid (FT 0=[]):=by show _=_;rw [ai];rfl
 have a5:Hid (∀i x,RA[i]? =some x->FT (i+1)=FT i++if Bh ids x=true then [x] else []):=by
  intro i x hx;rw [ai];dsimp only;rw [Dh hx,List.filter_append];congr 1
  by_cases h:Bh ids x=true
  · rw [if_pos h,List.filter_cons_of_pos h,List.filter_nil]
  · rw [if_neg h,List.filter_cons_of_neg h,List.filter_nil]
 have bo:Hid (∀i,(FT i).length<=i):=by
  intro i;rw [ai];exact Nat.le_trans (List.length_filter_le _ _) (by rw [List.length_take];omega)
 have bb:Hid (FT N=RS):=by show _=_;rw [ai];dsimp only;rw [<- af.out,List.take_length,ae.out]
 clear ai ae;go_wp2_with fail
 go_loopw [9,10] (fun s v wr=>∃(i:Nat) (Ax:Option Addr) (cx:Nat) (xs:List Id),s=.slice Ax xs.length cx/\v=.int .i64 (i:Int)/\i<=N/\Hid (xs=FT i)/\Own wr w5.heap.size 38 3 Ax xs.length cx (xs.flatMap Id.cells)/\Fr Non w5 wr) (fun _ v _=>N-(intOf v).toNat)
 case atStart=>exact ⟨0,none,0,[],rfl,rfl,Nat.zero_le _,a8.out.symm,Own.nil _ _ _ _,Fr.refl _ _⟩
 case round=>
  obtain ⟨i,Ax,cx,xs,rfl,rfl,hi,au,aa,hf⟩:=hrel;have a0:=aa.row;have bx:xs.length<=i:=by rw [au.out];exact bo.out i
  by_cases hlt:i<N
  ·
   obtain ⟨x,hx⟩:∃x,RA[i]? =some x:=⟨_,List.getElem?_eq_getElem (by rw [af.out];exact hlt)⟩;have ac:=a5.out i x hx;rw [<- au.out] at ac;have i1:(0:Int)<=i:=by omega
   have i2:(i:Int)<N:=by omega
   have i3:(i:Int).toNat=i:=by omega
   obtain ⟨ba,oa,rfl,_,x0,x1,x2⟩:=Id.at (hO.fr hf zr) hx;have ap:=lh (kH.out x wr w3.heap.size A3 c3 (hI.fr hf zr));obtain ⟨BH,bf⟩:=Aa (Bh ids x);rw [bf.out] at ap ac
   cases BH
   case false=>
    rw [if_neg Bool.false_ne_true,List.append_nil] at ac;replace ac:=lh ac;go_wp2_with (go_at_call 31;(with_reducible refine (ap.out).mono ?_);rintro _ w6 ⟨rfl,f6⟩);have ab:=aa.fr f6 zr;have aw:=hf.trans f6 zr;go_roundw
    case rel=>exact ⟨i+1,Ax,cx,xs,rfl,by go_num,by omega,ac.out.symm,ab,aw⟩
    case measure=>simp [intOf];omega
   case true=>
    rw [if_pos rfl] at ac;replace ac:=lh ac;go_upto_region 11 with (go_at_call 31;(with_reducible refine (ap.out).mono ?_);rintro _ w6 ⟨rfl,f6⟩)
    have ab:=aa.fr f6 zr;have aw:=hf.trans f6 zr;have y0:=f6.cell x0 zq;have y1:=f6.cell x1 zq;have y2:=f6.cell x2 zq;have bz:=Blk.new w6 38 x.V;have bw:=aw.size;clear x0 x1 x2 aa hf f6 ap;go_wp2_with (first|(at_builtin;go_loud (refine Bg (base:=w5.heap.size) (.tmp 37) (.tmp 42) 28 rfl rfl rfl rfl Da (ab.alloc (.cells x.V 38)) (Rd.blk (n:=1) (size:=3) bz rfl) (by simp [Value.oneCell']) (by omega) (by omega) (by rw [World.size_alloc];omega) ?_);intro A8 c8 w8 ay bc bl));have f8:Fr Non w5 w8:=(aw.alloc (.cells x.V 38)).trans bc (fun j hj e=>by have:=(a0 j e).1;omega)
    have az:Own w8 w5.heap.size 38 3 A8 (xs++[x]).length c8 ((xs++[x]).flatMap Id.cells):=by
     rw [As7,List.flatMap_append];exact ay
    go_roundw
    case rel=>exact ⟨i+1,A8,c8,xs++[x],by rw [As7];rfl,by go_num,by omega,ac.out.symm,az,f8⟩
    case measure=>simp [intOf];omega
  ·
   obtain rfl:i=N:=by omega
   have bq:xs=RS:=by rw [au.out,bb.out]
   subst bq;have bj:=bp.trans hf zr;have bi:=a1.trans hf zr;have bt:=hI.fr hf zr;rw [aq.out] at aa ⊢;clear bb a5 a8 au kH
   go_wp2_with (first
    |(go_at_call 27;(with_reducible refine (kO.out _ bi _ _ _ bt).mono ?_);rintro _ w6 ⟨A6,c6,rfl,o6,f6⟩;have ab:=aa.fr f6 zr)
    |(go_at_call 20;(with_reducible refine (kE.out _ _ _ _ _ _ _ o6.rd ab.rd).mono ?_);rintro _ w7 ⟨rfl,f7⟩;have fz:=(bj.trans f6 zr).trans f7 zr)
    |(go_at_call 30;(with_reducible refine (ao.out _ fz).mono ?_);rintro _ wz ⟨rfl,bu⟩))
   exact ax.out _ (fz.trans bu zr)
end Oq
end
section
open Go.ChangeShapes Go.WideShapes Go.ChangeAt Go.RowKit
theorem As1 (os:Os) (started:os.Started) (H:Type) (enc:TypeId × Value->H):
  ReturnsInHanded {} Tryz.checked os 5 .any (fun w args=>(Rows.rankPartSpec.pre enc zp f5 [] false w args/\laidMetH zp [("huddle/op.kinds",Rows.laid_huddle_op_kinds)] w)/\sizedMet enc zp f5 (OpenSpec.ofChange Rows.rankPartSpec) false w args)
   (Rows.rankPartSpec.post enc zp f5 false true false false):=by
 refine returnsInHanded_of_change_and (C:=Tryz.checked) (X:=fun w _=>laidMetH zp [("huddle/op.kinds",Rows.laid_huddle_op_kinds)] w) (fun _ _ _ hh h=>h.of_heap hh) Tryz.own started (by kernel_rfl) func5
  (ChangeSpec.witness_at (enc:=enc) (C:=Tryz.checked) (os:=os) (X:=fun w _=>laidMetH zp [("huddle/op.kinds",Rows.laid_huddle_op_kinds)] w) false (Fp os) #[.slice none 0 0,.slice none 0 0] 8 rfl (by kernel_rfl) (by kernel_rfl) (by kernel_rfl) (by kernel_rfl) (by kernel_rfl) (Hj os _)) ?_
 intro W base args ds gs before hval0 hW _ _ hL _;have hk:=Hi hL;have hval:∀(j:Nat) t v,Tryz.f5.params[j]? =some t->args[j]? =some v->Value.okWide zp W .any base t v:=hval0;have hW':=hW;obtain ⟨p,q,hA0,hV,rfl,hfz,hnd⟩:=hW;have hA:DataW.TrodAll enc zp W 0 (fun _=>true) true Tryz.f5.params.toList args.toList ds p:=hA0;rw [params5] at hA hval;obtain ⟨v0,v1,d0,d1,p0,p1,rfl,rfl,rfl,h0,h1⟩:=trodAll_two hA;obtain ⟨A0,c0,l0,rfl,hlc0,hc0,hr0,hok0⟩:=E7 underlying22 underlying3 (by kernel_rfl) (hval 0 22 v0 rfl rfl) h0;obtain ⟨A1,c1,l1,rfl,hlc1,hc1,hr1,hok1⟩:=E7 underlying22 underlying3 (by kernel_rfl) (hval 1 22 v1 rfl rfl) h1;refine (Oq.rankPart_law A0 c0 l0 A1 c1 l1 W hk hr0 hlc0 hc0 hok0 hr1 hlc1 hc1 hok1).mono fun e W' ⟨he,hf⟩=> ?_;exact ⟨_,he,Ha Tryz.laidOut (by kernel_rfl) rfl (by kernel_rfl) underlying4 hW' ⟨rfl,rfl,rfl⟩ hf⟩
theorem As2:Rows.RankPartSaid:=
 OpenClaim.holds_of_wide 5 f5 rfl rfl rfl rfl rfl rfl rfl ⟨rfl,rfl,rfl,rfl,rfl⟩ rfl rfl rfl rfl rfl (by kernel_rfl) func5 (by kernel_rfl)
  (of_decide_eq_true (by kernel_rfl)) (by unfold Func.isWrapper;rw [if_neg (by decide+kernel)];exact ⟨rfl,rfl⟩)
  (fun os started H enc _=>As1 os started H enc)
end
section
open Go
theorem rankPart_card_holds:Rows.RankPartCardSaid:=
 Claim7.holds_tied_plain_at .later [] [.data] true (true, "384d72dad725d37bd6ac49b23d359ed0607772ed35652509833cbd7c76661533") false
  As2 (fun _ h=>by cases h) (by kernel_rfl) (fun _ h=>by cases h) rankPart_row_tie rfl ⟨rfl,rfl⟩ (by kernel_rfl) rfl
  (fun f fn hf hfn=>by
   obtain rfl:f=5:=Option.some.inj ((show zp.funcNamed "huddle/huddlelaw14.RankPart" =some 5 by kernel_rfl).symm.trans hf)|>.symm;obtain rfl:fn=f5:=(Option.some.inj (Tryz.func5.symm.trans hfn)).symm
   exact ⟨by kernel_rfl,fun j t ht=>by
    rw [params5] at ht
    have hm:t∈([22,22]:List TypeId):=by
     have h2:=Array.mem_of_getElem? ht;simpa using h2
    have hall:([22,22]:List TypeId).all (fun t=> !(zp.wantsStandIn t))=true:=by kernel_rfl
    have:=List.all_eq_true.1 hall t hm;exact (by simpa using this:zp.wantsStandIn t=false)⟩)
  (by kernel_rfl)
end
end Go.Proofs.YtihfebhfgliojaaGreatDoor
