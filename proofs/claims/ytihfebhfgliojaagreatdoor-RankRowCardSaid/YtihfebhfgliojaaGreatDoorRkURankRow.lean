/-
  huddlelaw14.RankRow: the row of operations is the document's.
    Conditions: op.kinds lies as its text lays it; the numbers read.
  RankRow: whatever the input is, where the one listed variable is as its text lays it, the law returns true, and nothing that was there has turned.
    Condition: none.
  RankRow: the tied card.
    Condition: none.
-/
import Derived.JoinedOf
import Derived.RowKitTokens
import Derived.LaidLaws
import Derived.Test.YtihfebhfgliojaaGreatDoorTie
import Derived.Test.YtihfebhfgliojaaGreatDoorCards
import Derived.SevenTiedAt
import Derived.Test.YtihfebhfgliojaaGreatDoorRkU19
set_option maxRecDepth 100000
set_option maxHeartbeats 16000000
open Bool renaming not_false->Ax4,not_true->Ax5
open List renaming mem_of_getElem?->Ax3,getElem?_eq_getElem->Ax7
open Go.World renaming size_alloc->Ax6
open Go.Proofs.Tryz
open Go.Proofs.Tryz renaming prog->zp
open Go.Lib renaming hid->lh
open List renaming set->zl
open Go.Ending renaming returned->ze
namespace Go.Proofs.YtihfebhfgliojaaGreatDoor
section
open Go.RowKit
attribute [local go_sem ↓] Go.wp_at_zero Go.wp_at_succ
namespace Oq
attribute [local go_sem] Ax4 Ax5
attribute [local go_sem ↓] Cx
theorem Au0 (base:Nat) (r:RG) (a b:Id) (w:World) (h:r.own w base) (ha:(plc r.l a).isSome=true) (hb:(plc r.l b).isSome=true):
  Calls zp 34 #[.agg r.cells,.agg a.V,.agg b.V] w (Ag (Bg r.l a b) w):=by
 obtain ⟨i,hi⟩:=Option.isSome_iff_exists.1 ha;obtain ⟨k,hk⟩:=Option.isSome_iff_exists.1 hb;obtain ⟨n,hn,en⟩:=Bk hi;obtain ⟨m,hm,em⟩:=Bk hk;have ah:=h.few;have li:=Dj hi;have lk:=Dj hk;have bg:=((Blk.new w 32 r.cells).alloc (.cells a.V 38)).alloc (.cells b.V 38);have ba:=(Blk.new (w.alloc (.cells r.cells 32)) 38 a.V).alloc (.cells b.V 38);have bb:=Blk.new ((w.alloc (.cells r.cells 32)).alloc (.cells a.V 38)) 38 b.V;rw [Ax6] at ba;rw [Ax6,Ax6] at bb;have f0:Fr Non w (((w.alloc (.cells r.cells 32)).alloc (.cells a.V 38)).alloc (.cells b.V 38)):=(((Fr.refl Non w).alloc _).alloc _).alloc _;have hl:=Bi (P:=zp) w.heap.size 32 underlying32 rfl (cs:=r.cells) Co;have ad:=lh (fun (w':World) (hf:Fr Non w w')=>Ih base r a w' (h.non hf));have ac:=lh (fun (w':World) (hf:Fr Non w w')=>Ih base r b w' (h.non hf));rw [H4 hi] at ad;rw [H4 hk] at ac;have kl:=lh (fun (w':World) (hf:Fr Non w w')=>Ua base r w' (h.non hf));unfold K9 at kl;have ab:=lh (fun (A:Option Addr) (c:Nat) (w':World) (hf:Fr Non w w') (hrd:Rd w' w'.heap.size 1 A r.l.length (Cz r.l.length (Cy r.l)))=>Ub base w'.heap.size c r A i k n m w' (h.non hf) hrd hn hm);rw [en,em] at ab;unfold Ag at ab ⊢;clear h;generalize Bg r.l a b=R at*;generalize Cz r.l.length (Cy r.l)=NC at*;generalize r.l.length=N at*;generalize r.cells=CS at*;have t1:decide ((i:Int)>=0)=true:=decide_eq_true (by omega);have t2:decide ((k:Int)>=0)=true:=decide_eq_true (by omega);have aq:decide (0<=(i:Int))=true:=decide_eq_true (by omega);have ap:decide (0<=(k:Int))=true:=decide_eq_true (by omega);go_enter func34,ntmps34;go_upto_region 1 with (fail)
 have a0:=ba.cell 0;have a1:=ba.cell 1;have a2:=ba.cell 2;have b0:=bb.cell 0;have b1:=bb.cell 1;have b2:=bb.cell 2;clear ba bb;generalize ((w.alloc (.cells CS 32)).alloc (.cells a.V 38)).alloc (.cells b.V 38)=w0 at*;go_upto_region 2 with (go_at_call 87;(with_reducible refine (ad.out _ f0).mono ?_);rintro _ w1 ⟨rfl,f1⟩)
 have af:=bg.fr f1 zq;obtain ⟨ao,ag,ak⟩:=zk3 f1 b0 b1 b2;have ae:=f0.trans f1 zr;clear ad a0 a1 a2 b0 b1 b2 bg;go_upto_region 3 with (go_at_call 87;(with_reducible refine (ac.out _ ae).mono ?_);rintro _ w2 ⟨rfl,f2⟩)
 have aa:=ae.trans f2 zr;have B0:=af.fr f2 zq;clear ac ao ag ak af f0 f1 f2;have F0:Fr Non w2 w2.drew:=(Fr.refl Non w2).drew;have G0:Fr Non w w2.drew:=aa.drew;refine wp_region_held_drew (S:=fun w'=>Blk w' w.heap.size 32 CS) (by kernel_rfl) B0 (fun hHeld=> ?_);clear hHeld;refine tkH 0 B0 (h:=tkH 1 B0 (h:=tkH 2 B0 (h:=tkH 3 B0 (h:=tkH 4 B0 (h:=tkH 5 B0 (h:=tkH 6 B0 (h:=tkH 7 B0 (h:=tkH 8 B0 (h:=tkH 10 B0 (h:=tkH 11 B0 (h:=?_)))))))))));simp only [zl];refine oG 9 (fun K hK=> ?_);go_simp;go_wp2_with (go_at_call 86;(with_reducible refine (kl.out _ G0).mono ?_);rintro _ v1 ⟨A7,c7,rfl,ai,aj⟩;have F1:=F0.trans aj zr;have B1:=B0.fr F1 zq;have G1:=aa.trans F1 zr);refine hK.out _ _ B1 (fun hZ=> ?_);clear hZ hK K;try simp only [Ac,zl]
 refine oG 12 (fun K hK=> ?_);go_simp;go_wp2_with (go_at_call 88;(with_reducible refine (ab.out _ _ _ G1 ai.rd).mono ?_);rintro _ v2 ⟨rfl,al⟩;have F2:=F1.trans al zr;have B2:=B0.fr F2 zq;have G2:=aa.trans F2 zr);refine hK.out _ _ B2 (fun hZ=> ?_);clear hZ hK K;try simp only [Ac,zl]
 refine tkH 13 B2 (h:=tkH 14 B2 (h:=?_));simp only [zl];refine oD ?_;go_simp;go_wp2_with fail
 go_ret
 exact ⟨rfl,G2⟩
end Oq
namespace Oq
attribute [local go_sem] Ax4 Ax5
attribute [local go_sem ↓] Cx E5
section
variable {r : RG} {g : Gph} {b B0 B n c : Nat} {A : Option Addr} {ids : List Id} {w : World}
theorem Ci.rorder (h:Ci r g b B0 w) (hc:ClosedOk r.l ids) (hn:Hid (ids.length=n)) (hr:Rd w B 3 A n (ids.flatMap Id.cells)):
  Calls zp 32 #[.agg r.cells,.slice A n c] w (Bp (Af r.l ids) w):=
 N8 B0 B n c r A ids w h.ro hn hr (by rw [<- hn.out];have:=hc.len;have:=h.few;omega) hc.2
theorem Ci.rless (h:Ci r g b B0 w) {x y:Id} (hx:(plc r.l x).isSome=true) (hy:(plc r.l y).isSome=true):
  Calls zp 34 #[.agg r.cells,.agg x.V,.agg y.V] w (Ag (Bg r.l x y) w):=
 Au0 B0 r x y w h.ro hx hy
end
end Oq
namespace Oq
attribute [local go_sem] Ax4 Ax5
attribute [local go_sem ↓] Cx E5 Eu
theorem rankRow_law (A:Option Addr) (c:Nat) (l0:List Int) (A':Option Addr) (c':Nat) (l1:List Int) (w:World) (hk:KindsAt w) (hr:Rd w w.heap.size 1 A l0.length (l0.map Iv)) (hnc:l0.length<=c) (hnm:c<=9223372036854775807) (hok:∀x∈l0,I64 x) (hr':Rd w w.heap.size 1 A' l1.length (l1.map Iv)) (_hnc':l1.length<=c') (_hnm':c'<=9223372036854775807) (hok':∀x∈l1,I64 x):
  Calls zp 7 #[.slice A l0.length c,.slice A' l1.length c'] w (Ag true w):=by
 have hG:∀r:RG,(zp.info? 32).map (·.size)=some r.cells.size:=fun r=>Co;have km:=lh (Lh w.heap.size l0.length c A l0 w rfl hr hnc hnm hok hk);unfold Ii at km;have al:=fun (w':World) (hf:Fr Non w w')=>Ob w' (hk.fr hf);unfold Ag at al;replace al:=lh al;have az:Hid (∀wz,Fr Non w wz->Ag true w (.returned (.bool true)) wz):=fun wz h=>⟨rfl,h⟩;generalize Ag true w=POST at*;obtain ⟨n0,bi⟩:=Aa l0.length;rw [bi.out] at km ⊢;have a2:=lh (fun (b:Nat) (r:RG) (v:World) (hf:Fr Non w v) (h:r.own v b)=>Kj b r w.heap.size l1.length c' A' l1 v h rfl (hr'.fr hf zr) hok');obtain ⟨n1,a7⟩:=Aa l1.length;rw [a7.out] at a2 ⊢;clear hr hnc hnm hok bi hr' _hnc' _hnm' hok' a7;go_enter func7,ntmps7;go_upto_region 2 with (go_at_call 23;(with_reducible refine (km.out).mono ?_);rintro _ w1 ⟨r,g,b,rfl,st,bm,bq,bt,f1⟩;(have bz:=Blk.new w1 32 zG);(have bl:=Br (P:=zp) w1.heap.size 32 (cs:=r.cells) (hG r) (old:=zG) rfl (E6 r)))
 have bv:=bz.setRow (cs:=r.cells);have f2:Fr Non w1 ((w1.alloc (.cells zG 32)).setRow w1.heap.size r.cells):=((Fr.refl Non w1).alloc _).setRow (fun hh=>absurd hh (by omega)) _;have aj:=st.non f2;have ao:=f1.trans f2 zr;obtain ⟨gv,bk⟩:=Aa w1.heap.size;rw [bk.out] at bv aj ao ⊢;clear bl bz f2 f1 st km bk;generalize (w1.alloc (.cells zG 32)).setRow gv r.cells=w2 at*;have hl:=Bi (P:=zp) gv 32 underlying32 rfl (hG r);have ak:=aj.ro.rows;go_upto_region 5 with (go_at_call 26;(with_reducible refine (a2.out _ r _ ao aj.ro).mono ?_);rintro _ w3 ⟨ag,⟨A3,c3,rfl,o3,f3⟩,ah,_⟩)
 have ai:=aj.non f3;have aq:=ao.trans f3 zr;have bh:=bv.fr f3 zq;obtain ⟨n,hn⟩:=Aa ag.length;rw [hn.out] at o3 ⊢;have bs:n<=14:=by rw [<- hn.out];exact Nat.le_trans ah.len ai.few
 have ar:Hid ((Af r.l ag).length=n):=by show _=_;rw [E7,hn.out]
 have kO:=lh (fun (v:World) (hv:Fr Non w3 v) (B:Nat) (A:Option Addr) (c:Nat) (hr:Rd v B 3 A n ((ag).flatMap Id.cells))=>(ai.non hv).order ah hn (c:=c) hr);have kR:=lh (fun (v:World) (hv:Fr Non w3 v) (B:Nat) (A:Option Addr) (c:Nat) (hr:Rd v B 3 A n ((ag).flatMap Id.cells))=>(ai.non hv).rorder ah hn (c:=c) hr);unfold Bp at kO;unfold Bp at kR;rw [ar.out] at kO kR;have kL:Hid (∀(x y:Id) (v:World),x∈ag->y∈ag->Fr Non w3 v->Calls zp 33 #[.pointer (some ⟨g.gb,0,none⟩),.agg x.V,.agg y.V] v fun e v'=>e=.returned (.bool (Bg r.l x y))/\Fr Non v v'):=fun x y v hx hy hv=>(ai.non hv).less (ah.2 x hx) (ah.2 y hy);have kM:Hid (∀(x y:Id) (v:World),x∈ag->y∈ag->Fr Non w3 v->Calls zp 34 #[.agg r.cells,.agg x.V,.agg y.V] v fun e v'=>e=.returned (.bool (Bg r.l x y))/\Fr Non v v'):=fun x y v hx hy hv=>(ai.non hv).rless (ah.2 x hx) (ah.2 y hy);have kE:=lh (fun (v:World) (B B':Nat) (A A':Option Addr) (c c':Nat) (h1:Rd v B 3 A n ((Af r.l ag).flatMap Id.cells)) (h2:Rd v B' 3 A' n ((Af r.l ag).flatMap Id.cells))=>Ss B n c B' n c' A A' (Af r.l ag) (Af r.l ag) v ar ar h1 h2 (by omega) true ⟨fun _=>rfl,fun _=>rfl⟩);unfold Ag at kE;obtain ⟨GB,bg⟩:=Aa g.gb;rw [bg.out] at kL kO ⊢;clear aj ai ak hG bg bq bm bt ah a2 hl ar bv f3 ao;generalize Af r.l ag=RS at*;generalize Bg r.l=LS at*;have hl:=Bi (P:=zp) gv 32 underlying32 rfl (show (zp.info? 32).map (·.size)=some r.cells.size from Co);generalize r.cells=CS at*;have a1:=o3.rd;clear o3;have V0:=bh;have I0:Rd w3 w3.heap.size 3 A3 n (ag.flatMap Id.cells):=a1;have bb:Rd w3.drew w3.heap.size 3 A3 n (ag.flatMap Id.cells):=a1;have F0:Fr Non w3 w3.drew:=(Fr.refl Non w3).drew;refine wp_region_held_drew (S:=fun w'=>Blk w' gv 32 CS/\Rd w' w3.heap.size 3 A3 n (ag.flatMap Id.cells)) (by kernel_rfl) ⟨V0,I0⟩ (fun hHeld=> ?_);clear hHeld;have uu:=aI V0 I0;refine tkH 0 uu (h:=tkH 1 uu (h:=tkH 3 uu (h:=tkH 4 uu (h:=?_))));clear uu;simp only [zl];refine oG 2 (fun K hK=> ?_);go_simp;go_wp2_with (go_at_call 27;(with_reducible refine (kO.out _ F0 _ _ _ bb).mono ?_);rintro _ v1 ⟨A4,c4,rfl,o4,ax⟩;have F1:=F0.trans ax zr;have V1:=V0.fr F1 zq;have I1:=I0.fr F1 zr;have G1:=aq.trans F1 zr);refine hK.out _ _ ⟨V1,I1⟩ (fun hZ=> ?_);clear hZ hK K;try simp only [Ac,zl]
 refine oG 5 (fun K hK=> ?_);go_simp;go_wp2_with (go_at_call 32;(with_reducible refine (kR.out _ F1 _ _ _ I1).mono ?_);rintro _ v2 ⟨A5,c5,rfl,o5,ap⟩;have F2:=F1.trans ap zr;have V2:=V0.fr F2 zq;have I2:=I0.fr F2 zr;have G2:=aq.trans F2 zr;have bc:=o4.fr ap zr);refine hK.out _ _ ⟨V2,I2⟩ (fun hZ=> ?_);clear hZ hK K;try simp only [Ac,zl]
 refine oG 6 (fun K hK=> ?_);go_simp;go_wp2_with (go_at_call 20;(with_reducible refine (kE.out _ _ _ _ _ _ _ bc.rd o5.rd).mono ?_);rintro _ v3 ⟨rfl,bo⟩;have F3:=F2.trans bo zr;have V3:=V0.fr F3 zq;have I3:=I0.fr F3 zr;have G3:=aq.trans F3 zr);refine hK.out _ _ ⟨V3,I3⟩ (fun hZ=> ?_);clear hZ hK K;try simp only [Ac,zl]
 refine tkH 7 ⟨V3,I3⟩ (h:=?_);simp only [zl];refine oD ?_;go_simp;have br:=aq.trans F3 zr;have hF:=F3;have hV:=V3;have hI:=I3;clear V0 V1 V2 V3 I0 I1 I2 I3 bb F0 F1 F2 F3 G1 G2 G3 kO kR kE o4 bc o5 a1 bh;generalize v3=w5 at*;go_wp2_with fail
 go_loopw [8] (fun v wr=>∃i:Nat,v=.int .i64 (i:Int)/\i<=n/\Fr Non w5 wr) (fun v _=>n-(intOf v).toNat)
 case atStart=>exact ⟨0,rfl,Nat.zero_le _,Fr.refl _ _⟩
 case round=>
  obtain ⟨i,rfl,hi,hf⟩:=hrel
  by_cases hlt:i<n
  ·
   obtain ⟨x,hx⟩:∃x,ag[i]? =some x:=⟨_,Ax7 (by rw [hn.out];exact hlt)⟩;obtain ⟨i1,i2,i3⟩:=ix i n
   generalize wr=wo at*;clear wr;go_wp2_with fail
   go_loopw [9] (fun v wi=>∃k:Nat,v=.int .i64 (k:Int)/\k<=n/\Fr Non w5 wi) (fun v _=>n-(intOf v).toNat)
   case atStart=>exact ⟨0,rfl,Nat.zero_le _,hf⟩
   case round=>
    clear hf;obtain ⟨k,rfl,hk,hf⟩:=hrel
    by_cases hkt:k<n
    ·
     obtain ⟨y,hy⟩:∃y,ag[k]? =some y:=⟨_,Ax7 (by rw [hn.out];exact hkt)⟩;obtain ⟨k1,k2,k3⟩:=ix k n
     obtain ⟨ba,oa,rfl,_,x0,x1,x2⟩:=Id.at (hI.fr hf zr) hx;obtain ⟨bw,bu,hA,_,y0,y1,y2⟩:=Id.at (hI.fr hf zr) hy;injection hA with hA
     injection hA with e1 e2
     subst e1 e2;have a4:=lh (fun (v:World) (hv:Fr Non w3 v)=>kL.out x y v (Ax3 hx) (Ax3 hy) hv);have av:=lh (fun (v:World) (hv:Fr Non w3 v)=>kM.out x y v (Ax3 hx) (Ax3 hy) hv);obtain ⟨BL,bp⟩:=Aa (LS x y);rw [bp.out] at a4 av;have aw:=hF.trans hf zr;have V0:=hV.fr hf zq;go_upto_region 13 with (fail)
     have ab:=x0;have aa:=x1;have ac:=x2;have ad:=y0;have af:=y1;have ae:=y2;have F0:Fr Non wr wr.drew:=(Fr.refl Non wr).drew;have G0:Fr Non w3 wr.drew:=aw.drew;refine wp_region_held_drew (S:=fun w'=>Blk w' gv 32 CS/\cI w' ba (oa+i*3) x.b/\cI w' ba (oa+i*3+1) x.s/\cU w' ba (oa+i*3+2) x.u/\cI w' ba (oa+k*3) y.b/\cI w' ba (oa+k*3+1) y.s/\cU w' ba (oa+k*3+2) y.u) (by kernel_rfl) ⟨V0,ab,aa,ac,ad,af,ae⟩ (fun hHeld=> ?_);clear hHeld;have uu:=aI V0 (aI ab (aI aa (aI ac (aI ad (aI af ae)))));refine tkH 0 uu (h:=tkH 1 uu (h:=tkH 2 uu (h:=tkH 3 uu (h:=tkH 4 uu (h:=tkH 5 uu (h:=tkH 6 uu (h:=tkH 7 uu (h:=tkH 8 uu (h:=tkH 10 uu (h:=tkH 11 uu (h:=tkH 12 uu (h:=?_))))))))))));clear uu;simp only [zl];have uu:=aI V0 (aI ab (aI aa (aI ac (aI ad (aI af ae)))));refine tkH 13 uu (h:=tkH 14 uu (h:=tkH 15 uu (h:=tkH 16 uu (h:=tkH 17 uu (h:=tkH 18 uu (h:=?_))))));clear uu;simp only [zl];refine oG 9 (fun K hK=> ?_);go_simp;go_wp2_with (go_at_call 33;(with_reducible refine (a4.out _ G0).mono ?_);rintro _ v1 ⟨rfl,ax⟩;have F1:=F0.trans ax zr;have V1:=V0.fr F1 zq;obtain ⟨bf,be,bj,a8,a9,bd⟩:=zk6 F1 ab aa ac ad af ae;have G1:=aw.trans F1 zr);refine hK.out _ _ ⟨V1,bf,be,bj,a8,a9,bd⟩ (fun hZ=> ?_);clear hZ hK K;try simp only [Ac,zl]
     refine oG 19 (fun K hK=> ?_);go_simp;go_wp2_with (go_at_call 34;(with_reducible refine (av.out _ G1).mono ?_);rintro _ v2 ⟨rfl,ap⟩;have F2:=F1.trans ap zr;have V2:=V0.fr F2 zq;obtain ⟨a0,a6,a5,au,a3,ay⟩:=zk6 F2 ab aa ac ad af ae;have G2:=aw.trans F2 zr);refine hK.out _ _ ⟨V2,a0,a6,a5,au,a3,ay⟩ (fun hZ=> ?_);clear hZ hK K;try simp only [Ac,zl]
     refine tkH 20 ⟨V2,a0,a6,a5,au,a3,ay⟩ (h:=?_);simp only [zl];refine oD ?_;go_simp;have fz:=hf.trans F2 zr;clear V0 V1 V2 ab aa ac ad af ae bf be bj a8 a9 bd a0 a6 a5 au a3 ay F0 F1 F2 G0 G1 G2 a4 av x0 x1 x2 y0 y1 y2;go_wp2_with fail;go_roundw
     case rel=>exact ⟨k+1,by go_num,by omega,fz⟩
     case measure=>simp [intOf];omega
    ·
     obtain rfl:k=n:=by omega
     go_wp2_with fail;go_roundw
     case rel=>exact ⟨i+1,by go_num,by omega,hf⟩
     case measure=>simp [intOf];omega
  ·
   obtain rfl:i=n:=by omega
   have fz:=br.trans hf zr;go_wp2_with (go_at_call 30;(with_reducible refine (al.out _ fz).mono ?_);rintro _ wz ⟨rfl,bn⟩);exact az.out _ (fz.trans bn zr)
end Oq
end
section
open Go.ChangeShapes Go.WideShapes Go.ChangeAt Go.RowKit
theorem Au1 (os:Os) (started:os.Started) (H:Type) (enc:TypeId × Value->H):
  ReturnsInHanded {} Tryz.checked os 7 .any (fun w args=>(Rows.rankRowSpec.pre enc zp f7 [] false w args/\laidMetH zp [("huddle/op.kinds",Rows.laid_huddle_op_kinds)] w)/\sizedMet enc zp f7 (OpenSpec.ofChange Rows.rankRowSpec) false w args)
   (Rows.rankRowSpec.post enc zp f7 false true false false):=by
 refine returnsInHanded_of_change_and (C:=Tryz.checked) (X:=fun w _=>laidMetH zp [("huddle/op.kinds",Rows.laid_huddle_op_kinds)] w) (fun _ _ _ hh h=>h.of_heap hh) Tryz.own started (by kernel_rfl) func7
  (ChangeSpec.witness_at (enc:=enc) (C:=Tryz.checked) (os:=os) (X:=fun w _=>laidMetH zp [("huddle/op.kinds",Rows.laid_huddle_op_kinds)] w) false (Hw os) #[.slice none 0 0,.slice none 0 0] 8 rfl (by kernel_rfl) (by kernel_rfl) (by kernel_rfl) (by kernel_rfl) (by kernel_rfl) (Mh os _)) ?_
 intro W base args ds gs before hval0 hW _ _ hL _;have hk:=Mg hL;have hval:∀(j:Nat) t v,Tryz.f7.params[j]? =some t->args[j]? =some v->Value.okWide zp W .any base t v:=hval0;have hW':=hW;obtain ⟨p,q,hA0,hV,rfl,hfz,hnd⟩:=hW;have hA:DataW.TrodAll enc zp W 0 (fun _=>true) true Tryz.f7.params.toList args.toList ds p:=hA0;rw [params7] at hA hval;obtain ⟨v0,v1,d0,d1,p0,p1,rfl,rfl,rfl,h0,h1⟩:=trodAll_two hA;obtain ⟨A0,c0,l0,rfl,hlc0,hc0,hr0,hok0⟩:=Gb underlying22 underlying3 (by kernel_rfl) (hval 0 22 v0 rfl rfl) h0;obtain ⟨A1,c1,l1,rfl,hlc1,hc1,hr1,hok1⟩:=Gb underlying22 underlying3 (by kernel_rfl) (hval 1 22 v1 rfl rfl) h1;refine (Oq.rankRow_law A0 c0 l0 A1 c1 l1 W hk hr0 hlc0 hc0 hok0 hr1 hlc1 hc1 hok1).mono fun e W' ⟨he,hf⟩=> ?_;exact ⟨_,he,Ln Tryz.laidOut (by kernel_rfl) rfl (by kernel_rfl) underlying4 hW' ⟨rfl,rfl,rfl⟩ hf⟩
theorem Au2:Rows.RankRowSaid:=
 OpenClaim.holds_of_wide 7 f7 rfl rfl rfl rfl rfl rfl rfl ⟨rfl,rfl,rfl,rfl,rfl⟩ rfl rfl rfl rfl rfl (by kernel_rfl) func7 (by kernel_rfl)
  (of_decide_eq_true (by kernel_rfl)) (by unfold Func.isWrapper;rw [if_neg (by decide+kernel)];exact ⟨rfl,rfl⟩)
  (fun os started H enc _=>Au1 os started H enc)
end
section
open Go
theorem rankRow_card_holds:Rows.RankRowCardSaid:=
 Claim7.holds_tied_plain_at .later [] [.data] true (true, "384d72dad725d37bd6ac49b23d359ed0607772ed35652509833cbd7c76661533") false
  Au2 (fun _ h=>by cases h) (by kernel_rfl) (fun _ h=>by cases h) rankRow_row_tie rfl ⟨rfl,rfl⟩ (by kernel_rfl) rfl
  (fun f fn hf hfn=>by
   obtain rfl:f=7:=Option.some.inj ((show zp.funcNamed "huddle/huddlelaw14.RankRow" =some 7 by kernel_rfl).symm.trans hf)|>.symm;obtain rfl:fn=f7:=(Option.some.inj (Tryz.func7.symm.trans hfn)).symm
   exact ⟨by kernel_rfl,fun j t ht=>by
    rw [params7] at ht
    have hm:t∈([22,22]:List TypeId):=by
     have h2:=Array.mem_of_getElem? ht;simpa using h2
    have hall:([22,22]:List TypeId).all (fun t=> !(zp.wantsStandIn t))=true:=by kernel_rfl
    have:=List.all_eq_true.1 hall t hm;exact (by simpa using this:zp.wantsStandIn t=false)⟩)
  (by kernel_rfl)
end
end Go.Proofs.YtihfebhfgliojaaGreatDoor
