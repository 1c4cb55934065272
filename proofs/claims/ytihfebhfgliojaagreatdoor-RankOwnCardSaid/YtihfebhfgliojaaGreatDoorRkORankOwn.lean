/-
  huddlelaw14.RankOwn: what is handed in is not changed, and what is told may be.
    Conditions: op.kinds lies as its text lays it; the numbers read.
  RankOwn: whatever the input is, where the one listed variable is as its text lays it, the law returns true, and nothing that was there has turned.
    Condition: none.
  RankOwn: the tied card.
    Condition: none.
-/
import Derived.JoinedOf
import Derived.RowKitTokens
import Derived.LaidLaws
import Derived.Test.YtihfebhfgliojaaGreatDoorTie
import Derived.Test.YtihfebhfgliojaaGreatDoorCards
import Derived.SevenTiedAt
import Derived.Test.YtihfebhfgliojaaGreatDoorRkO20
set_option maxRecDepth 100000
set_option maxHeartbeats 16000000
open List renaming nil_append->As9,getElem?_eq_getElem->At0
open Nat renaming zero_add->As7
open Go.World renaming size_alloc->As8
open Go.Proofs.Tryz
open Go.Proofs.Tryz renaming prog->zp
open Go.Lib renaming hid->lh
open List renaming set->zl
open Go.Ending renaming returned->ze
namespace Go.Proofs.YtihfebhfgliojaaGreatDoor
section
open Go.RowKit
attribute [local go_sem ↓] Go.wp_at_zero Go.wp_at_succ
namespace Oq
attribute [local go_sem] Bool.not_false Bool.not_true
attribute [local go_sem ↓] Cz Es Dw
theorem rankOwn_law (A:Option Addr) (c:Nat) (l0:List Int) (A':Option Addr) (c':Nat) (l1:List Int) (w:World) (hk:KindsAt w) (hr:Rd w w.heap.size 1 A l0.length (l0.map Iv)) (hnc:l0.length<=c) (hnm:c<=9223372036854775807) (hok:∀x∈l0,I64 x) (hr':Rd w w.heap.size 1 A' l1.length (l1.map Iv)) (_hnc':l1.length<=c') (_hnm':c'<=9223372036854775807) (hok':∀x∈l1,I64 x):
  Calls zp 6 #[.slice A l0.length c,.slice A' l1.length c'] w (Ae true w):=by
 have hG:∀r:RG,(zp.info? 32).map (·.size)=some r.cells.size:=fun r=>Cx;have km:=lh (G7 w.heap.size l0.length c A l0 w rfl hr hnc hnm hok hk);unfold Ge at km;have a3:=fun (w':World) (hf:Fr Non w w')=>H9 w' (hk.fr hf);unfold Ae at a3;replace a3:=lh a3;have a7:Hid (∀wz,Fr Non w wz->Ae true w (.returned (.bool true)) wz):=fun wz h=>⟨rfl,h⟩;generalize Ae true w=POST at*;obtain ⟨n0,bu⟩:=Aa l0.length;rw [bu.out] at km ⊢;have bi:=lh (fun (b:Nat) (r:RG) (v:World) (hf:Fr Non w v) (h:r.own v b)=>J8 b r w.heap.size l1.length c' A' l1 v h rfl (hr'.fr hf zr) hok');obtain ⟨n1,b0⟩:=Aa l1.length;rw [b0.out] at bi ⊢;clear hr hnc hnm hok bu hr' _hnc' _hnm' hok' b0;go_enter func6,ntmps6;go_upto_region 2 with (go_at_call 23;(with_reducible refine (km.out).mono ?_);rintro _ w1 ⟨r,g,b,rfl,st,b4,cd,cb,f1⟩;(have bz:=Blk.new w1 32 zG);(have b5:=Bp (P:=zp) w1.heap.size 32 (cs:=r.cells) (hG r) (old:=zG) rfl (Eh r)))
 have bv:=bz.setRow (cs:=r.cells);have f2:Fr Non w1 ((w1.alloc (.cells zG 32)).setRow w1.heap.size r.cells):=((Fr.refl Non w1).alloc _).setRow (fun hh=>absurd hh (by omega)) _;have ax:=st.non f2;have a2:=f1.trans f2 zr;obtain ⟨gv,b1⟩:=Aa w1.heap.size;rw [b1.out] at bv ax a2 ⊢;clear b5 bz f2 f1 st km b1;generalize (w1.alloc (.cells zG 32)).setRow gv r.cells=w2 at*;have hl:=Bk (P:=zp) gv 32 underlying32 rfl (hG r);have av:=ax.ro.rows;go_upto_region 5 with (go_at_call 26;(with_reducible refine (bi.out _ r _ a2 ax.ro).mono ?_);rintro _ w3 ⟨ab,⟨A3,c3,rfl,o3,f3⟩,a1,_⟩)
 have a6:=ax.non f3;have bh:=a2.trans f3 zr;have cf:=bv.fr f3 zq;obtain ⟨n,hn⟩:=Aa ab.length;rw [hn.out] at o3 ⊢;have bk:n<=14:=by rw [<- hn.out];exact Nat.le_trans a1.len a6.few
 have aw:Hid ((Af r.l ab).length=n):=by show _=_;rw [Et,hn.out]
 have kO:=lh (fun (v:World) (hv:Fr Non w3 v) (B:Nat) (A:Option Addr) (c:Nat) (hr:Rd v B 3 A n ((ab).flatMap Id.cells))=>(a6.non hv).order a1 hn (c:=c) hr);have kS:=lh (fun (v:World) (hv:Fr Non w3 v) (B:Nat) (A:Option Addr) (c:Nat) (hr:Rd v B 3 A n ((ab).flatMap Id.cells))=>(a6.non hv).sen a1 hn (c:=c) hr);unfold Ca at kO;unfold Gb at kS;have kE:=lh (fun (v:World) (B B':Nat) (A A':Option Addr) (c c':Nat) (h1:Rd v B 3 A n ((ab).flatMap Id.cells)) (h2:Rd v B' 3 A' n ((ab).flatMap Id.cells))=>Mt B n c B' n c' A A' (ab) (ab) v hn hn h1 h2 (by omega) true ⟨fun _=>rfl,fun _=>rfl⟩);unfold Ae at kE;have kF:=lh (fun (v:World) (B B':Nat) (A A':Option Addr) (c c':Nat) (h1:Rd v B 3 A n ((Af r.l ab).flatMap Id.cells)) (h2:Rd v B' 3 A' n ((Af r.l ab).flatMap Id.cells))=>Mt B n c B' n c' A A' (Af r.l ab) (Af r.l ab) v aw aw h1 h2 (by omega) true ⟨fun _=>rfl,fun _=>rfl⟩);unfold Ae at kF;rw [aw.out] at kO
 have ca:(Cc r.l (Af r.l ab)).length<=14:=by
  unfold Cc;refine Nat.le_trans (M9 _ _ _) ?_;rw [aw.out];exact bk
 obtain ⟨m,hm⟩:=Aa (Cc r.l (Af r.l ab)).length;have kI:=lh (fun (v:World) (A A':Option Addr) (c c':Nat) h1 h2=>Tn m c c' A A' (Cc r.l (Af r.l ab)) v hm.out h1 h2 (by rw [<- hm.out];omega));rw [hm.out] at kS ca;obtain ⟨GB,bo⟩:=Aa g.gb;rw [bo.out] at kO kS ⊢;clear ax a6 av hG bo cd b4 cb a1 bi hl aw bv f3 a2 cf hm;have b3:=Id.cells_one (Af r.l ab);have cc:=Id.cells_one ab;generalize Af r.l ab=RS at*;generalize Cc r.l RS=SL at*;have be:=o3.rd;clear o3;go_upto_region 6 with (first|(at_builtin;go_loud (refine Bg (base:=w3.heap.size) (.tmp 25) (.tmp 26) 28 rfl rfl rfl rfl Da (Own.empty w3 38 3) (be.fr ((Fr.refl Non w3).alloc _) zr) cc (by omega) (by omega) (by rw [As8];omega) ?_);intro A8 c8 w4 ah bw bm))
 simp only [As7,As9] at ah;try rw [As7]
 have f4:Fr Non w3 w4:=((Fr.refl Non w3).alloc _).trans bw (fun j hj e=>by have e':w3.heap.size=j:=Option.some.inj e;omega);clear bw bm;go_upto_region 7 with (go_at_call 27;(with_reducible refine (kO.out _ f4 _ _ _ ah.rd).mono ?_);rintro _ w5 ⟨A9,c9,rfl,o9,f5⟩)
 have a8:=f4.trans f5 zr;have ag:=ah.fr f5 zr;go_upto_region 8 with (go_at_call 29;(with_reducible refine (kS.out _ a8 _ _ _ ag.rd).mono ?_);rintro _ w6 ⟨ce,b9,rfl,bg,f6⟩)
 have bn:=a8.trans f6 zr;have bl:=o9.fr f6 zr;go_upto_region 9 with (first|(at_builtin;go_loud (refine Bg (base:=w6.heap.size) (.tmp 34) (.tmp 35) 28 rfl rfl rfl rfl Da (Own.empty w6 38 3) (bl.rd.fr ((Fr.refl Non w6).alloc _) zr) b3 (by omega) (by omega) (by rw [As8];omega) ?_);intro cl ci w7 af az ar))
 simp only [As7,As9] at af;try rw [As7]
 have f7:Fr Non w6 w7:=((Fr.refl Non w6).alloc _).trans az (fun j hj e=>by have e':w6.heap.size=j:=Option.some.inj e;omega);have al:=bg.fr f7 zr;clear az ar;go_upto_region 10 with (first|(at_builtin;go_loud (refine Bg (base:=w7.heap.size) (.tmp 37) (.tmp 38) 22 rfl rfl rfl rfl Hd (Own.empty w7 3 1) (al.rd.fr ((Fr.refl Non w7).alloc _) zr) (Ap0 SL) (by omega) (by omega) (by rw [As8];omega) ?_);intro cm cj w8 ae aq ay))
 simp only [As7,As9] at ae;try rw [As7]
 have f8:Fr Non w7 w8:=((Fr.refl Non w7).alloc _).trans aq (fun j hj e=>by have e':w7.heap.size=j:=Option.some.inj e;omega);clear aq ay;have a5:=f7.trans f8 zr;have ba:=bn.trans a5 zr;have ai:=(ag.fr f6 zr).fr a5 zr;have ad:=af.fr f8 zr;have bf:=bl.fr a5 zr;have ak:=al.fr f8 zr;have r8:=ah.row;have s4:=f4.size;have s5:=f5.size;have s6:=f6.size;have s7:=f7.size;have ch:=bh.trans ba zr;have r9:=o9.row;have a4:=bg.row;have bx:=af.row;have b6:=ae.row;obtain ⟨z4,bq⟩:=Aa w4.heap.size;obtain ⟨z5,bp⟩:=Aa w5.heap.size;obtain ⟨z6,bs⟩:=Aa w6.heap.size;rw [bq.out] at bf r8 r9 s4 s5;rw [bp.out] at ak r9 a4 s5 s6;rw [bs.out] at ad a4 bx s6 s7;clear ah ag o9 bg bl al af f4 f5 f6 f7 f8 a8 bn a5 bq bp bs;go_wp2_with fail
 go_loopw [13] (fun v wr=>∃(i:Nat) (ys:List Value),v=.int .i64 (i:Int)/\i<=n/\Own wr z4 38 3 A9 n c9 ys/\Fr (fun k=>z4<=k/\k<z5) w8 wr) (fun v _=>n-(intOf v).toNat)
 case atStart=>exact ⟨0,_,rfl,Nat.zero_le _,bf,Fr.refl _ _⟩
 case round=>
  clear bf;obtain ⟨i,ys,rfl,hi,aa,hf⟩:=hrel
  by_cases hlt:i<n
  ·
   have i1:(0:Int)<=i:=by omega
   have i2:(i:Int)<n:=by omega
   have i3:(i:Int).toNat=i:=by omega
   obtain ⟨aB,rfl,bt,b2,ac,b8,ao⟩:=Own.setAt aa (j:=i*3) (by omega) (.int .i64 77);have bb:i*3<ys.length:=by rw [aa.len];omega
   have c0:=ac _ (At0 bb);generalize ys[i*3]=vo at*;have a9:aB<z5:=(r9 aB rfl).2;have fz:=hf.setCell (p:=⟨aB,i*3,none⟩) (fun _=>⟨bt,a9⟩) (.int .i64 77);clear ac aa hf;go_wp2_with fail;go_roundw
   case rel=>exact ⟨i+1,_,by go_num,by omega,ao,fz⟩
   case measure=>simp [intOf];omega
  ·
   obtain rfl:i=n:=by omega
   have au:=ak.fr hf (fun k hk e=>by have:=(a4 k hk).1;omega);clear aa ak;generalize wr=wo at*;clear wr;go_wp2_with fail
   go_loopw [14] (fun v wx=>∃(k:Nat) (zs:List Value),v=.int .i64 (k:Int)/\k<=m/\Own wx z5 3 1 ce m b9 zs/\Fr (fun j=>z4<=j/\j<z6) w8 wx) (fun v _=>m-(intOf v).toNat)
   case atStart=>exact ⟨0,_,rfl,Nat.zero_le _,au,hf.mono (fun j _ e=>⟨e.1,by omega⟩)⟩
   case round=>
    clear au hf;obtain ⟨k,zs,rfl,hk,aa,hf⟩:=hrel
    by_cases hkt:k<m
    ·
     have k1:(0:Int)<=k:=by omega
     have k2:(k:Int)<m:=by omega
     have k3:(k:Int).toNat=k:=by omega
     obtain ⟨bB,rfl,bt,b2,ac,b8,ao⟩:=Own.setAt aa (j:=k) (by omega) (.int .i64 77);have bb:k<zs.length:=by rw [aa.len];omega
     have c0:=ac _ (At0 bb);generalize zs[k]=vo at*;have bj:bB<z6:=(a4 bB rfl).2;have fz:=hf.setCell (p:=⟨bB,k,none⟩) (fun _=>⟨by show z4<=bB;omega,bj⟩) (.int .i64 77);clear ac aa hf;go_wp2_with fail;go_roundw
     case rel=>exact ⟨k+1,_,by go_num,by omega,ao,fz⟩
     case measure=>simp [intOf];omega
    ·
     obtain rfl:k=m:=by omega
     have cg:=ba.size;have bd:Fr Non w3 wr:=ba.trans hf (fun j hj e=>by have:=e.1;unfold Non;omega);have ck:=bh.trans bd zr;have br:=be.fr bd zr;have a0:=ai.fr hf (fun j hj e=>by have:=(r8 j hj).2;omega);have aj:=ad.fr hf (fun j hj e=>by have:=(bx j hj).1;omega);have ap:=ae.fr hf (fun j hj e=>by have:=(b6 j hj).1;omega);clear aa ai ad ae be hf
     go_wp2_with (first
      |(go_at_call 20;(with_reducible refine (kE.out _ _ _ _ _ _ _ a0.rd br).mono ?_);rintro _ v1 ⟨rfl,g1⟩;have q1:=aj.fr g1 zr;have q2:=ap.fr g1 zr;have q3:=br.fr g1 zr;have q4:=bd.trans g1 zr)
      |(go_at_call 27;(with_reducible refine (kO.out _ q4 _ _ _ q3).mono ?_);rintro _ v2 ⟨Az,cz,rfl,oz,g2⟩;have q5:=q1.fr g2 zr)
      |(go_at_call 20;(with_reducible refine (kF.out _ _ _ _ _ _ _ oz.rd q5.rd).mono ?_);rintro _ v3 ⟨rfl,g3⟩;have bc:=g2.trans g3 zr;have q6:=q2.fr bc zr;have q7:=q3.fr bc zr;have q8:=q4.trans bc zr)
      |(go_at_call 29;(with_reducible refine (kS.out _ q8 _ _ _ q7).mono ?_);rintro _ v4 ⟨Ay,cy,rfl,oy,g4⟩;have q9:=(q6.fr g4 zr).rd)
      |(go_at_call 28;(with_reducible refine (kI.out _ _ _ _ _ oy.rd q9).mono ?_);rintro _ v5 ⟨rfl,g5⟩;have fz:=(bh.trans q8 zr).trans (g4.trans g5 zr) zr)
      |(go_at_call 30;(with_reducible refine (a3.out _ fz).mono ?_);rintro _ wz ⟨rfl,b7⟩))
     exact a7.out _ (fz.trans b7 zr)
end Oq
end
section
open Go.ChangeShapes Go.WideShapes Go.ChangeAt Go.RowKit
theorem As3 (os:Os) (started:os.Started) (H:Type) (enc:TypeId × Value->H):
  ReturnsInHanded {} Tryz.checked os 6 .any (fun w args=>(Rows.rankOwnSpec.pre enc zp f6 [] false w args/\laidMetH zp [("huddle/op.kinds",Rows.laid_huddle_op_kinds)] w)/\sizedMet enc zp f6 (OpenSpec.ofChange Rows.rankOwnSpec) false w args)
   (Rows.rankOwnSpec.post enc zp f6 false true false false):=by
 refine returnsInHanded_of_change_and (C:=Tryz.checked) (X:=fun w _=>laidMetH zp [("huddle/op.kinds",Rows.laid_huddle_op_kinds)] w) (fun _ _ _ hh h=>h.of_heap hh) Tryz.own started (by kernel_rfl) func6
  (ChangeSpec.witness_at (enc:=enc) (C:=Tryz.checked) (os:=os) (X:=fun w _=>laidMetH zp [("huddle/op.kinds",Rows.laid_huddle_op_kinds)] w) false (Fp os) #[.slice none 0 0,.slice none 0 0] 8 rfl (by kernel_rfl) (by kernel_rfl) (by kernel_rfl) (by kernel_rfl) (by kernel_rfl) (Hj os _)) ?_
 intro W base args ds gs before hval0 hW _ _ hL _;have hk:=Hi hL;have hval:∀(j:Nat) t v,Tryz.f6.params[j]? =some t->args[j]? =some v->Value.okWide zp W .any base t v:=hval0;have hW':=hW;obtain ⟨p,q,hA0,hV,rfl,hfz,hnd⟩:=hW;have hA:DataW.TrodAll enc zp W 0 (fun _=>true) true Tryz.f6.params.toList args.toList ds p:=hA0;rw [params6] at hA hval;obtain ⟨v0,v1,d0,d1,p0,p1,rfl,rfl,rfl,h0,h1⟩:=trodAll_two hA;obtain ⟨A0,c0,l0,rfl,hlc0,hc0,hr0,hok0⟩:=E7 underlying22 underlying3 (by kernel_rfl) (hval 0 22 v0 rfl rfl) h0;obtain ⟨A1,c1,l1,rfl,hlc1,hc1,hr1,hok1⟩:=E7 underlying22 underlying3 (by kernel_rfl) (hval 1 22 v1 rfl rfl) h1;refine (Oq.rankOwn_law A0 c0 l0 A1 c1 l1 W hk hr0 hlc0 hc0 hok0 hr1 hlc1 hc1 hok1).mono fun e W' ⟨he,hf⟩=> ?_;exact ⟨_,he,Ha Tryz.laidOut (by kernel_rfl) rfl (by kernel_rfl) underlying4 hW' ⟨rfl,rfl,rfl⟩ hf⟩
theorem As4:Rows.RankOwnSaid:=
 OpenClaim.holds_of_wide 6 f6 rfl rfl rfl rfl rfl rfl rfl ⟨rfl,rfl,rfl,rfl,rfl⟩ rfl rfl rfl rfl rfl (by kernel_rfl) func6 (by kernel_rfl)
  (of_decide_eq_true (by kernel_rfl)) (by unfold Func.isWrapper;rw [if_neg (by decide+kernel)];exact ⟨rfl,rfl⟩)
  (fun os started H enc _=>As3 os started H enc)
end
section
open Go
theorem rankOwn_card_holds:Rows.RankOwnCardSaid:=
 Claim7.holds_tied_plain_at .later [] [.data] true (true, "384d72dad725d37bd6ac49b23d359ed0607772ed35652509833cbd7c76661533") false
  As4 (fun _ h=>by cases h) (by kernel_rfl) (fun _ h=>by cases h) rankOwn_row_tie rfl ⟨rfl,rfl⟩ (by kernel_rfl) rfl
  (fun f fn hf hfn=>by
   obtain rfl:f=6:=Option.some.inj ((show zp.funcNamed "huddle/huddlelaw14.RankOwn" =some 6 by kernel_rfl).symm.trans hf)|>.symm;obtain rfl:fn=f6:=(Option.some.inj (Tryz.func6.symm.trans hfn)).symm
   exact ⟨by kernel_rfl,fun j t ht=>by
    rw [params6] at ht
    have hm:t∈([22,22]:List TypeId):=by
     have h2:=Array.mem_of_getElem? ht;simpa using h2
    have hall:([22,22]:List TypeId).all (fun t=> !(zp.wantsStandIn t))=true:=by kernel_rfl
    have:=List.all_eq_true.1 hall t hm;exact (by simpa using this:zp.wantsStandIn t=false)⟩)
  (by kernel_rfl)
end
end Go.Proofs.YtihfebhfgliojaaGreatDoor
