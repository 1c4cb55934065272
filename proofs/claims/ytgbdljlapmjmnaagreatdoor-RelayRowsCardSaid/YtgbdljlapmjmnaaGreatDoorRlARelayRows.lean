/-
  huddlelaw31.RelayRows: all operations of a graph are kept in the end, in whatever row they come, doubled or not, and none waits.
    Conditions: op.kinds lies as its text lays it; the numbers read.
  RelayRows: whatever the input is, where the one listed variable is as its text lays it, the law returns true, and nothing that was there has turned.
    Condition: none.
  RelayRows: the tied card.
    Condition: none.
-/
import Derived.JoinedOf
import Derived.RowKitTokens
import Derived.LaidLaws
import Derived.Test.YtgbdljlapmjmnaaGreatDoorTie
import Derived.Test.YtgbdljlapmjmnaaGreatDoorCards
import Derived.SevenTiedAt
import Derived.Test.YtgbdljlapmjmnaaGreatDoorRlA17
set_option maxRecDepth 100000
set_option maxHeartbeats 16000000
open Nat renaming lt_of_lt_of_le->Ao2
open Go.Proofs.Tryz
open Go.Proofs.Tryz renaming prog->zp
open Go.Lib renaming hid->lh
open List renaming set->zl
open Go.Ending renaming returned->ze
namespace Go.Proofs.YtgbdljlapmjmnaaGreatDoor
section
open Go.RowKit
attribute [local go_sem ↓] Go.wp_at_zero Go.wp_at_succ
namespace Oq
attribute [local go_sem] Bool.not_false Bool.not_true
attribute [local go_sem ↓] Gm Jt Bi
theorem An9 (x:Int):I64 (IntKind.i64.wrap x):=by
 rw [IntWalk.i64_left];unfold wrap64 I64;constructor<;>omega
theorem S3 {cards:List Cd} {l:List Pn} {r:Ae} {ps:List Nat} (h:Rows cards l) (hl:l.length<=14) (hst:r.st=Cr cards l ps ([],[])) (hps:∀p∈ps,p<l.length) (hall:∀p,p<l.length->p∈ps):r.ws.length=0/\Ar (r.g.pns.map Pn.id)=Ar (l.map Pn.id):=by
 obtain ⟨h1,h2⟩:=Ai6 h (by omega) hps hall;rw [<- hst] at h1 h2;constructor
 ·
  have e:r.ws.map OpL.op=[]:=h1;have e2:=congrArg List.length e;rw [List.length_map] at e2;exact e2
 · exact Og (Ks _) ((Ef _).trans h2.ends)
theorem relayRows_law (A:Option Addr) (c:Nat) (l0:List Int) (tv:Int) (A':Option Addr) (c':Nat) (l1:List Int) (w:World) (hk:KindsAt w) (hr:Rd w w.heap.size 1 A l0.length (l0.map Iv)) (hnc:l0.length<=c) (hnm:c<=9223372036854775807) (hok:∀x∈l0,I64 x) (tv0: -9223372036854775808<=tv) (tv1:tv<=9223372036854775807) (hr':Rd w w.heap.size 1 A' l1.length (l1.map Iv)) (_hnc':l1.length<=c') (_hnm':c'<=9223372036854775807) (hok':∀x∈l1,I64 x):
  Calls zp 3 #[.slice A l0.length c,.int .i64 tv,.slice A' l1.length c'] w (Af true w):=by
 have bd:0<w.heap.size:=World.block_lt_of_cell? w _ (hk 0 (by decide));have km:=lh (S1 w.heap.size l0.length c A l0 w rfl hr (by omega) hok);unfold Hv at km;have aw:=fun (w':World) (hf:Fr Non w w')=>An7 w' (hk.fr hf);unfold Af at aw;replace aw:=lh aw;have a8:Hid (∀wz,Fr Non w wz->Af true w (.returned (.bool true)) wz):=fun wz h=>⟨rfl,h⟩;have b5:=lh (fun (w':World) (hf:Fr Non w w')=>hk.fr hf);generalize Af true w=POST at*;obtain ⟨T2,a2⟩:∃T2:Int,IntKind.i64.wrap (tv+1)=T2:=⟨_,rfl⟩
 have ap:I64 T2:=by
  rw [<- a2];exact An9 _
 have ay:=lh (fun (r:FG) (v:World) (hv:Fr Non w v) (h:r.own v w.heap.size) (hne:r.l≠[])=>S2 w.heap.size w.heap.size l1.length c' r A' tv l1 v h hne ⟨tv0,tv1⟩ rfl (hr'.fr hv zr) hok');have ah:=lh (fun (r:FG) (v:World) (hv:Fr Non w v) (h:r.own v w.heap.size) (hne:r.l≠[])=>S2 w.heap.size w.heap.size 0 0 r none T2 [] v h hne ap rfl (Rd.nil v _ _ _) (fun x hx=>absurd hx List.not_mem_nil));unfold Jz at ay ah;obtain ⟨n1,bx⟩:=Aa l1.length;rw [bx.out] at ay ⊢;obtain ⟨n0,bv⟩:=Aa l0.length;rw [bv.out] at km ⊢;clear hk hr hnc hnm hok hr' hok' tv0 tv1 ap;go_enter func3,ntmps3;go_upto_region 2 with (go_at_call 10;(with_reducible refine (km.out).mono ?_);rintro _ w1 ⟨r,rfl,f1,ro,b9,bs⟩;(have bn:=Blk.new w1 28 #[.slice none 0 0,.slice none 0 0,.slice none 0 0,.slice none 0 0]);(have cf:=Cm (P:=zp) w1.heap.size 28 (cs:=r.cells) Cu (old:=#[.slice none 0 0,.slice none 0 0,.slice none 0 0,.slice none 0 0]) rfl (Gn r)))
 have bg:Blk ((w1.alloc (.cells #[.slice none 0 0,.slice none 0 0,.slice none 0 0,.slice none 0 0] 28)).setRow w1.heap.size r.cells) w1.heap.size 28 r.cells:=bn.setRow;have fG:Fr Non w1 ((w1.alloc (.cells #[.slice none 0 0,.slice none 0 0,.slice none 0 0,.slice none 0 0] 28)).setRow w1.heap.size r.cells):=((Fr.refl Non w1).alloc _).setRow (fun hh=>absurd hh (by omega)) _;have f2:=f1.trans fG zr;have al:=ro.non fG;obtain ⟨gv,b1⟩:=Aa w1.heap.size;rw [b1.out] at bg f2 al ⊢;clear cf bn fG ro f1 km;generalize (w1.alloc (.cells #[.slice none 0 0,.slice none 0 0,.slice none 0 0,.slice none 0 0] 28)).setRow gv r.cells=w2 at*;have hl:=Ce (P:=zp) gv 28 underlying28 rfl (cs:=r.cells) Cu;have a5:r.l≠[]:=by rw [bs];exact Ms _ _
 have ad:=al.rows;have aj:r.l.length<=14:=al.num.few;have ck:0<r.l.length:=List.length_pos_iff.2 a5;have au:0<w2.heap.size:=Ao2 bd f2.size;have av:=lh (fun (B np cp:Nat) (Ap:Option Addr) (ps:List Nat) (v:World) (hv:Fr Non w2 v) (hpn:Hid (ps.length=np)) (hrp:Rd v B 1 Ap np (ps.map Qv)) (hlt:Hid (∀p∈ps,p<r.l.length)) (hnp:np<=1000000)=>An3 w.heap.size B np cp r Ap ps v (al.non hv) b9 hpn hrp hlt.out hnp (b5.out v (f2.trans hv zr)) (Ao2 au hv.size));unfold Jy at av;have V0:=bg;have F0:Fr Non w2 w2.drew:=(Fr.refl Non w2).drew;have G0:Fr Non w w2.drew:=f2.drew;refine wp_region_held_drew (S:=fun w'=>Blk w' gv 28 r.cells) (by kernel_rfl) V0 (fun hHeld=> ?_);clear hHeld;refine tkH 0 V0 (h:=tkH 1 V0 (h:=tkH 2 V0 (h:=tkH 3 V0 (h:=?_))));simp only [zl];refine oG 4 (fun K hK=> ?_);go_simp;go_wp2_with (go_at_call 12;(with_reducible refine (ay.out r _ G0 (al.non F0) a5).mono ?_);rintro _ v1 ⟨ps,A4,n4,c4,rfl,ar,o4,ac,aa,bb,ag⟩;have F1:=F0.trans ag zr;have V1:=V0.fr F1 zq;have G1:=f2.trans F1 zr);refine hK.out _ _ V1 (fun hZ=> ?_);clear hZ hK K;try simp only [Ai,zl]
 refine oG 5 (fun K hK=> ?_);go_simp;go_wp2_with (go_at_call 11;(with_reducible refine (av.out _ n4 c4 A4 ps _ F1 ar o4.rd ac (by omega)).mono ?_);rintro _ v2 ⟨ra,ba,rfl,ch,bq,bi,br,ai⟩;have F2:=F1.trans ai zr;have V2:=V0.fr F2 zq;have G2:=f2.trans F2 zr);refine hK.out _ _ V2 (fun hZ=> ?_);clear hZ hK K;try simp only [Ai,zl]
 refine tkH 6 V2 (h:=?_);simp only [zl];refine oD ?_;go_simp;have b7:=ra;generalize v2=w3 at*;have f3:=F2;have be:=G2;have bp:=V2;have a9:=lh (S3 ad aj bi.out ac.out aa.out);clear V0 V1 V2 F0 F1 F2 G0 G1 G2 ag ai o4 ac aa ar bi b7 ay bb;go_upto_region 3 with (fail)
 obtain ⟨ab,bf⟩:=Aa ra.rb;try rw [bf.out]
 have V0:=bp;have F0:Fr Non w3 w3.drew:=(Fr.refl Non w3).drew;have G0:Fr Non w w3.drew:=be.drew;have a3:=al.non f3;have a7:IntKind.i64.wrap (tv+1)=T2:=a2;refine wp_region_held_drew (S:=fun w'=>Blk w' gv 28 r.cells) (by kernel_rfl) V0 (fun hHeld=> ?_);clear hHeld;refine tkH 0 V0 (h:=tkH 1 V0 (h:=tkH 2 V0 (h:=tkH 3 V0 (h:=?_))));simp only [zl];refine oG 4 (fun K hK=> ?_);go_simp;go_wp2_with (go_at_call 12;(with_reducible refine (ah.out r _ G0 (a3.non F0) a5).mono ?_);rintro _ v1 ⟨ps,A4,n4,c4,rfl,ar,o4,ac,aa,bb,ag⟩;have F1:=F0.trans ag zr;have V1:=V0.fr F1 zq;have G1:=be.trans F1 zr);refine hK.out _ _ V1 (fun hZ=> ?_);clear hZ hK K;try simp only [Ai,zl]
 refine oG 5 (fun K hK=> ?_);go_simp;go_wp2_with (go_at_call 11;(with_reducible refine (av.out _ n4 c4 A4 ps _ (f3.trans F1 zr) ar o4.rd ac (by omega)).mono ?_);rintro _ v2 ⟨rc,bc,rfl,cj,a0,bm,cd,ai⟩;have F2:=F1.trans ai zr;have V2:=V0.fr F2 zq;have G2:=be.trans F2 zr);refine hK.out _ _ V2 (fun hZ=> ?_);clear hZ hK K;try simp only [Ai,zl]
 refine tkH 6 V2 (h:=?_);simp only [zl];refine oD ?_;go_simp;generalize v2=w4 at*;have bl:=F2;have ae:=G2;have bh:=V2;have a4:=lh (S3 ad aj bm.out ac.out aa.out);have ak:Hid (ra.okAt w4 ba):=bq.out.non bl;have bk:=a3.non bl;clear V0 V1 V2 F0 F1 F2 G0 G1 G2 ag ai o4 ac aa ar bm ah bb av a2 a7;obtain ⟨cb,a6⟩:=Aa rc.rb;rw [a6.out];have bo:=lh (fun (w':World) (h:Fr Non w4 w')=>Jw ba ra w' (ak.out.non h));have bj:=lh (fun (w':World) (h:Fr Non w4 w')=>Jw bc rc w' (a0.out.non h));have ao:=lh (fun (w':World) (h:Fr Non w4 w')=>Mq ba ra w' (ak.out.non h));have aq:=lh (fun (w':World) (h:Fr Non w4 w')=>Mq bc rc w' (a0.out.non h));rw [bf.out,a9.out.1] at bo;rw [a6.out,a4.out.1] at bj;rw [bf.out,a9.out.2] at ao;rw [a6.out,a4.out.2] at aq;have af:r.ids.length=r.l.length:=FG.ids_len r
 have ks:Hid (∀w',Fr Non w4 w'->Calls zp 16 #[.slice r.iA r.l.length r.iC] w' (Ev (Ar (r.l.map Pn.id)) w')):=by
  intro w' h;refine (Oc w4.heap.size r.l.length r.iC r.iA r.ids w' af (bk.rdIds.fr h zr) (by omega)).mono ?_;intro e ci hs;exact SortPost.ids hs (by rw [Hk];exact af)
 have ca:(Ar (r.l.map Pn.id)).length<=14:=by rw [Hk,List.length_map];exact aj
 obtain ⟨IS,b4⟩:=Aa (Ar (r.l.map Pn.id));rw [b4.out] at ao aq ks ca;have ax:Hid (∀(A5 A6:Option Addr) (c5 c6:Nat) (w':World),Rd w' w'.heap.size 3 A5 IS.length (IS.flatMap Id.cells)->Rd w' w'.heap.size 3 A6 IS.length (IS.flatMap Id.cells)->Calls zp 14 #[.slice A5 IS.length c5,.slice A6 IS.length c6] w' (Af true w')):=fun A5 A6 c5 c6 w' h1 h2=>Ah4 w'.heap.size IS.length c5 w'.heap.size IS.length c6 A5 A6 IS IS w' rfl rfl h1 h2 (by omega) true (by simp);unfold Af at ax;unfold Ev at ao aq ks;obtain ⟨NI,b2⟩:=Aa IS.length;rw [b2.out] at ao aq ks ax;have c2:cS w4 gv 2 r.iA r.l.length r.iC:=bh.cell 2;generalize r.l.length=NL at*;have I0:=c2;have F0:Fr Non w4 w4.drew:=(Fr.refl Non w4).drew;have G0:Fr Non w w4.drew:=ae.drew;clear bq ak a0 al a3 bk bp bh bg a9 a4 af br cd hl ad c2;go_upto_region 6 with (fail)
 refine wp_region_held_drew (S:=fun w'=>cS w' gv 2 r.iA NL r.iC) (by kernel_rfl) I0 (fun hHeld=> ?_);clear hHeld;refine tkH 0 I0 (h:=?_);simp only [zl];refine oG 1 (fun K hK=> ?_);go_simp;go_wp2_with (go_at_call 13;(with_reducible refine (bo.out _ F0).mono ?_);rintro _ v1 ⟨rfl,ag⟩;have F1:=F0.trans ag zr;have I1:=F1.cell I0 zq;have G1:=ae.trans F1 zr);refine hK.out _ _ I1 (fun hZ=> ?_);clear hZ hK K;try simp only [Ai,zl]
 refine tkH 2 I1 (h:=tkH 3 I1 (h:=tkH 4 I1 (h:=?_)));simp only [zl];refine oG 5 (fun K hK=> ?_);go_simp;go_wp2_with (go_at_call 13;(with_reducible refine (bj.out _ F1).mono ?_);rintro _ v2 ⟨rfl,ai⟩;have F2:=F1.trans ai zr;have I2:=F2.cell I0 zq;have G2:=ae.trans F2 zr);refine hK.out _ _ I2 (fun hZ=> ?_);clear hZ hK K;try simp only [Ai,zl]
 refine tkH 6 I2 (h:=tkH 7 I2 (h:=tkH 8 I2 (h:=tkH 9 I2 (h:=tkH 11 I2 (h:=tkH 12 I2 (h:=?_))))));simp only [zl];refine oG 10 (fun K hK=> ?_);go_simp;go_wp2_with (go_at_call 15;(with_reducible refine (ao.out _ F2).mono ?_);rintro _ v3 ⟨A5,c5,rfl,bu,bw⟩;have F3:=F2.trans bw zr;have I3:=F3.cell I0 zq;have G3:=ae.trans F3 zr);refine hK.out _ _ I3 (fun hZ=> ?_);clear hZ hK K;try simp only [Ai,zl]
 refine oG 13 (fun K hK=> ?_);go_simp;go_wp2_with (go_at_call 16;(with_reducible refine (ks.out _ F3).mono ?_);rintro _ v4 ⟨A6,c6,rfl,cc,az⟩;have F4:=F3.trans az zr;have I4:=F4.cell I0 zq;have G4:=ae.trans F4 zr;have b6:=bu.rd.fr az zr);refine hK.out _ _ I4 (fun hZ=> ?_);clear hZ hK K;try simp only [Ai,zl]
 refine oG 14 (fun K hK=> ?_);go_simp;go_wp2_with (go_at_call 14;(with_reducible refine (ax.out _ _ _ _ _ (b6.mono az.size) cc.rd).mono ?_);rintro _ v5 ⟨rfl,cg⟩;have F5:=F4.trans cg zr;have I5:=F5.cell I0 zq;have G5:=ae.trans F5 zr);refine hK.out _ _ I5 (fun hZ=> ?_);clear hZ hK K;try simp only [Ai,zl]
 refine tkH 15 I5 (h:=tkH 16 I5 (h:=tkH 17 I5 (h:=tkH 19 I5 (h:=?_))));simp only [zl];refine oG 18 (fun K hK=> ?_);go_simp;go_wp2_with (go_at_call 15;(with_reducible refine (aq.out _ F5).mono ?_);rintro _ v6 ⟨A7,c7,rfl,b0,b3⟩;have F6:=F5.trans b3 zr;have I6:=F6.cell I0 zq;have G6:=ae.trans F6 zr);refine hK.out _ _ I6 (fun hZ=> ?_);clear hZ hK K;try simp only [Ai,zl]
 refine oG 20 (fun K hK=> ?_);go_simp;go_wp2_with (go_at_call 15;(with_reducible refine (ao.out _ F6).mono ?_);rintro _ v7 ⟨A8,c8,rfl,bt,a1⟩;have F7:=F6.trans a1 zr;have I7:=F7.cell I0 zq;have G7:=ae.trans F7 zr;have bz:=b0.rd.fr a1 zr);refine hK.out _ _ I7 (fun hZ=> ?_);clear hZ hK K;try simp only [Ai,zl]
 refine oG 21 (fun K hK=> ?_);go_simp;go_wp2_with (go_at_call 14;(with_reducible refine (ax.out _ _ _ _ _ (bz.mono a1.size) bt.rd).mono ?_);rintro _ v8 ⟨rfl,b8⟩;have F8:=F7.trans b8 zr;have I8:=F8.cell I0 zq;have G8:=ae.trans F8 zr);refine hK.out _ _ I8 (fun hZ=> ?_);clear hZ hK K;try simp only [Ai,zl]
 refine tkH 22 I8 (h:=tkH 23 I8 (h:=?_));simp only [zl];refine oG 24 (fun K hK=> ?_);go_simp;go_wp2_with (go_at_call 17;(with_reducible refine (aw.out _ G8).mono ?_);rintro _ v9 ⟨rfl,ce⟩;have F9:=F8.trans ce zr;have I9:=F9.cell I0 zq;have G9:=ae.trans F9 zr);refine hK.out _ _ I9 (fun hZ=> ?_);clear hZ hK K;try simp only [Ai,zl]
 refine tkH 25 I9 (h:=tkH 26 I9 (h:=?_));simp only [zl];refine oD ?_;go_simp;go_wp2_with fail;exact a8.out _ G9
end Oq
end
section
open Go.ChangeShapes Go.WideShapes Go.ChangeAt Go.RowKit
theorem Ao0 (os:Os) (started:os.Started) (H:Type) (enc:TypeId × Value->H):
  ReturnsInHanded {} Tryz.checked os 3 .any (fun w args=>(Rows.relayRowsSpec.pre enc zp f3 [] false w args/\laidMetH zp [("huddle/op.kinds",Rows.laid_huddle_op_kinds)] w)/\sizedMet enc zp f3 (OpenSpec.ofChange Rows.relayRowsSpec) false w args)
   (Rows.relayRowsSpec.post enc zp f3 false true false false):=by
 refine returnsInHanded_of_change_and (C:=Tryz.checked) (X:=fun w _=>laidMetH zp [("huddle/op.kinds",Rows.laid_huddle_op_kinds)] w) (fun _ _ _ hh h=>h.of_heap hh) Tryz.own started (by kernel_rfl) func3
  (ChangeSpec.witness_at (enc:=enc) (C:=Tryz.checked) (os:=os) (X:=fun w _=>laidMetH zp [("huddle/op.kinds",Rows.laid_huddle_op_kinds)] w) false (K6 os) #[.slice none 0 0,.int .i64 0,.slice none 0 0] 8 rfl (by kernel_rfl) (by kernel_rfl) (by kernel_rfl) (by kernel_rfl) (by kernel_rfl) (Wz os _)) ?_
 intro W base args ds gs before hval0 hW _ _ hL _;have hk:=Wy hL;have hval:∀(j:Nat) t v,Tryz.f3.params[j]? =some t->args[j]? =some v->Value.okWide zp W .any base t v:=hval0;have hW':=hW;obtain ⟨p,q,hA0,hV,rfl,hfz,hnd⟩:=hW;have hA:DataW.TrodAll enc zp W 0 (fun _=>true) true Tryz.f3.params.toList args.toList ds p:=hA0;rw [params3] at hA hval;obtain ⟨v0,v1,v2,d0,d1,d2,p0,p1,p2,rfl,rfl,rfl,h0,h1,h2⟩:=trodAll_three hA;obtain ⟨A0,c0,l0,rfl,hlc0,hc0,hr0,hok0⟩:=Ni underlying22 underlying3 (by kernel_rfl) (hval 0 22 v0 rfl rfl) h0;obtain ⟨x1,rfl,rfl,rfl,wf1⟩:=open_int underlying3 (hval 1 3 v1 rfl rfl) h1;have bd1:=Mw wf1;obtain ⟨A2,c2,l2,rfl,hlc2,hc2,hr2,hok2⟩:=Ni underlying22 underlying3 (by kernel_rfl) (hval 2 22 v2 rfl rfl) h2;refine (Oq.relayRows_law A0 c0 l0 x1 A2 c2 l2 W hk hr0 hlc0 hc0 hok0 bd1.1 bd1.2 hr2 hlc2 hc2 hok2).mono fun e W' ⟨he,hf⟩=> ?_;exact ⟨_,he,S8 Tryz.laidOut (by kernel_rfl) rfl (by kernel_rfl) underlying4 hW' ⟨rfl,rfl,rfl⟩ hf⟩
theorem Ao1:Rows.RelayRowsSaid:=
 OpenClaim.holds_of_wide 3 f3 rfl rfl rfl rfl rfl rfl rfl ⟨rfl,rfl,rfl,rfl,rfl⟩ rfl rfl rfl rfl rfl (by kernel_rfl) func3 (by kernel_rfl)
  (of_decide_eq_true (by kernel_rfl)) (by unfold Func.isWrapper;rw [if_neg (by decide+kernel)];exact ⟨rfl,rfl⟩)
  (fun os started H enc _=>Ao0 os started H enc)
end
section
open Go
theorem relayRows_card_holds:Rows.RelayRowsCardSaid:=
 Claim7.holds_tied_plain_at .later [] [.data] true (true, "21a1399a7e80faf1308fc7dc20e3f60affe53aa06a5131232a0aae069820b3a7") false
  Ao1 (fun _ h=>by cases h) (by kernel_rfl) (fun _ h=>by cases h) relayRows_row_tie rfl ⟨rfl,rfl⟩ (by kernel_rfl) rfl
  (fun f fn hf hfn=>by
   obtain rfl:f=3:=Option.some.inj ((show zp.funcNamed "huddle/huddlelaw31.RelayRows" =some 3 by kernel_rfl).symm.trans hf)|>.symm;obtain rfl:fn=f3:=(Option.some.inj (Tryz.func3.symm.trans hfn)).symm
   exact ⟨by kernel_rfl,fun j t ht=>by
    rw [params3] at ht
    have hm:t∈([22,3,22]:List TypeId):=by
     have h2:=Array.mem_of_getElem? ht;simpa using h2
    have hall:([22,3,22]:List TypeId).all (fun t=> !(zp.wantsStandIn t))=true:=by kernel_rfl
    have:=List.all_eq_true.1 hall t hm;exact (by simpa using this:zp.wantsStandIn t=false)⟩)
  (by kernel_rfl)
end
end Go.Proofs.YtgbdljlapmjmnaaGreatDoor
