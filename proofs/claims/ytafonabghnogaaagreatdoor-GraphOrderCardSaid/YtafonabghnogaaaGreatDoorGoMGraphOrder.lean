/-
  huddlelaw12.GraphOrder: to be in the past is a strict order, of lesser levels, and of Ats that are no later.
    Conditions: op.kinds lies as its text lays it; the numbers read.
  GraphOrder: whatever the input is, where the one listed variable is as its text lays it, the law returns true, and nothing that was there has turned.
    Condition: none.
  GraphOrder: the tied card.
    Condition: none.
-/
import Derived.ChangeVars
import Derived.JoinedOf
import Derived.RowKitTokens
import Derived.LaidLaws
import Derived.Test.YtafonabghnogaaaGreatDoorTie
import Derived.Test.YtafonabghnogaaaGreatDoorCards
import Derived.SevenTiedAt
import Derived.Test.YtafonabghnogaaaGreatDoorGoM1
import Derived.Test.YtafonabghnogaaaGreatDoorGoM4
import Derived.Test.YtafonabghnogaaaGreatDoorGoM13
import Derived.Test.YtafonabghnogaaaGreatDoorGoM17
import Derived.Test.YtafonabghnogaaaGreatDoorGoM18
set_option maxRecDepth 100000
set_option maxHeartbeats 16000000
namespace Go.Proofs.YtafonabghnogaaaGreatDoor
theorem aI {p q:Prop} (a:p) (b:q):p∧q:=⟨a,b⟩
section
open Go.RowKit
attribute [local go_sem ↓] Go.wp_at_zero Go.wp_at_succ
namespace Oq
attribute [local go_sem ↓] loadAt_op storeAt_op
attribute [local go_sem] Bool.not_false Bool.not_true
theorem graphOrder_law (A:Option Addr) (c:Nat) (l0:List Int) (w:World) (hk:KindsAt w) (hr:Rd w w.heap.size 1 A l0.length (l0.map Iv)) (hnc:l0.length≤c) (hnm:c≤9223372036854775807) (hok:∀x∈l0,I64 x):
  Calls Tryz.prog 7 #[.slice A l0.length c] w (BoolPost true w):=by
 have hi:(Tryz.prog.info? 44).map (·.size)=some OpL.zero.cells.size:=by rw [show OpL.zero.cells.size=27 from rfl];kernel_rfl
 have bh:0<w.heap.size:=World.block_lt_of_cell? w _ (hk 0 (by decide));have km:=Lib.hid (made_any w.heap.size l0.length c A l0 w rfl hr hnc hnm hok);have da:=Lib.hid (fun (b:Nat) (r:RG) (w':World) (hf:Fr Non w w') (h:r.own w' b) (hcs:r.cards=cardsFrom 0 [1,2,3,1])=>of_any b r w' h hcs (Nat.lt_of_lt_of_le bh hf.size) (hk.fr hf));have bv:=fun (w':World) (hf:Fr Non w w')=>lives12_any w' (hk.fr hf);unfold BoolPost at bv;replace bv:=Lib.hid bv;have ca:Hid (∀wz,Fr Non w wz→BoolPost true w (.returned (.bool true)) wz):=fun wz h=>⟨rfl,h⟩;generalize BoolPost true w=POST at*;obtain ⟨nl,cp⟩:=hid_ex l0.length;rw [cp.out] at km ⊢;clear hr hnc hnm hok cp;go_enter Tryz.func7,Tryz.ntmps7
 go_upto_region 2 with (first
  |(go_at_call 12;(with_reducible refine (km.out).mono ?_);rintro _ w1 ⟨r,rfl,f1,ro,db,dg⟩)
  |(go_at_call 13;(with_reducible refine (da.out _ r _ f1 ro db).mono ?_);rintro _ w2 ⟨g,b,rfl,dh,hg,df,bk,f2⟩))
 have c6:=f1.trans f2 zr;have aq:=ro.rows;have bl:=ro.few;have a3:∀n∈r.l,n.id.ok:=fun n hn=>(ro.ok n hn).2;clear hk dh df dg km da ro db f1 f2 bh;generalize r.cards=CD at*;generalize r.l=l at*;have kA:=Lib.hid (gall_any b g w2 sortsIds hg);obtain ⟨gb,bg⟩:=hid_ex g.gb;rw [bg.out] at kA ⊢;go_upto_region 5 with (go_at_call 21;(with_reducible refine (kA.out).mono ?_);rintro _ w3 ⟨A3,c3,ap,rfl,a2,_,o3,f3⟩)
 have a7:=all_perm bk a2;have cd:ap.length≤200:=by rw [a7.length_eq,List.length_map];exact bl
 have bc:=Lib.hid (fun (x:Id) (hx:x∈ap)=>aq.named a7 hx)
 have ar:∀x∈ap,x.ok:=fun x hx=>by
  obtain ⟨p,m,_,h2,h3⟩:=bc.out x hx;rw [← h3];exact a3 m (List.mem_of_getElem? h2)
 have cn:=c6.trans f3 zr;have bp:=hg.fr f3
 have kB:Hid (∀(x y:Id) (w':World),Fr Non w3 w'→x∈ap→y∈ap→Calls Tryz.prog 29 #[.pointer (some ⟨gb,0,none⟩),.agg x.V,.agg y.V] w' fun e bf=>e=.returned (.bool (bef l x y))∧Fr Non w' bf):=by
  intro x y w' hf hx hy;have:=before_any b g x y w' (bp.fr hf) (ar x hx) (ar y hy);rw [g.before_eq,bk,bg.out] at this;exact this
 have kL:Hid (∀(x:Id) (w':World),Fr Non w3 w'→x∈ap→Calls Tryz.prog 27 #[.pointer (some ⟨gb,0,none⟩),.agg x.V] w' fun e bf=>e=.returned (.int .i64 (levOf l x:Int))∧Fr Non w' bf):=by
  intro x w' hf hx;have:=level_any b g x w' (bp.fr hf) (ar x hx);rw [g.level_eq,bk,bg.out] at this;exact this
 have kO:Hid (∀(x:Id) (w':World),Fr Non w3 w'→x∈ap→Calls Tryz.prog 36 #[.pointer (some ⟨gb,0,none⟩),.agg x.V] w' fun e bf=>∃y:OpL,e=.returned (.tuple #[.agg y.cells,.bool true])∧y.at_=atOf l x∧Fr Non w' bf):=by
  intro x w' hf hx;obtain ⟨p,m,h1,h2,h3⟩:=bc.out x hx;obtain ⟨z,h4,h5⟩:=opOf_eq bk h1 h2;have:=gop_any b g x w' (bp.fr hf) (ar x hx);rw [h4,bg.out] at this;refine this.mono ?_;rintro e bf ⟨y,rfl,h6,_,h7⟩;refine ⟨y,rfl,?_,h7⟩;rw [atOf_at h1 h2,← h5,← h6];rfl
 have cf:=Lib.hid (fun (x y:Id) (h:bef l x y=true)=>aq.order h);have bu:=o3.rd;obtain ⟨n,hn⟩:=hid_ex ap.length;rw [hn.out] at bu cd ⊢;clear kA a2 a7 o3 hg bp bk aq bl a3 bc ar f3 c6 bg;clear CD;go_wp2_with (fail)
 go_loopw [5] (fun v wr=>∃i:Nat,v=.int .i64 (i:Int)∧i≤n∧Fr Non w3 wr) (fun v _=>n-(intOf v).toNat)
 case atStart=>exact ⟨0,rfl,Nat.zero_le _,Fr.refl _ _⟩
 case round=>
  obtain ⟨i,rfl,dj,f4⟩:=hrel
  by_cases hlt:i<n
  ·
   obtain ⟨x,hx⟩:∃x,ap[i]? =some x:=⟨_,List.getElem?_eq_getElem (by rw [hn.out];exact hlt)⟩;have bj:=List.mem_of_getElem? hx;obtain ⟨ba,oa,rfl,di,_,_,_⟩:=Id.at bu hx
   have hJ:Hid (∀(k:Nat) (y:Id) (wr:World),ap[k]? =some y→Fr Non w3 wr→wr.cell? ⟨ba,oa+k*3,none⟩=some (.int .i64 y.b)∧wr.cell? ⟨ba,oa+k*3+1,none⟩=some (.int .i64 y.s)∧wr.cell? ⟨ba,oa+k*3+2,none⟩=some (.int .u64 (y.u:Int))):=by
    intro k y wr hy hf;obtain ⟨b',o',e,_,h0,h1,h2⟩:=Id.at (bu.fr hf zr) hy;injection e with e
    injection e with e1 e2
    subst e1 e2;exact ⟨h0,h1,h2⟩
   obtain ⟨Xa,Xb,Xc⟩:=hJ.out i x wr hx f4;have i1:(0:Int)≤i:=by omega
   have i2:(i:Int)<n:=by omega
   have i3:(i:Int).toNat=i:=by omega
   have c7:=Lib.hid (kO.out x wr f4 bj);clear bu
   go_upto_region 9 with (first
    |(go_at_call 36;(with_reducible refine (c7.out).mono ?_);rintro _ w5 ⟨y,rfl,de,f5⟩;have bz:=Blk.new w5 44 OpL.zero.cells;have ak:=one_cells y)
    |(refine wpList_store_new rfl 44 (.tmp 6) (.tmp 32) rfl rfl rfl rfl bz hi rfl ak ?_;intro w6 c2 cy _))
   have f6:Fr Non w3 w6:=((f4.trans f5 zr).alloc (.cells OpL.zero.cells 44)).trans cy (fun k hk e=>by have e':k=w5.heap.size:=e;have:=(f4.trans f5 zr).size;omega);have E0:w6.cell? ⟨w5.heap.size,3,none⟩=some (.int .i64 y.at_):=c2.cell 3;obtain ⟨xb,cu⟩:=hid_ex w5.heap.size;rw [cu.out] at E0 ⊢;clear c2 cy bz ak f5 c7 cu Xa Xb Xc f4;go_wp2_with (fail)
   go_loopw [8] (fun v wr=>∃k:Nat,v=.int .i64 (k:Int)∧k≤n∧Fr Non w6 wr) (fun v _=>n-(intOf v).toNat)
   case atStart=>exact ⟨0,rfl,Nat.zero_le _,Fr.refl _ _⟩
   case round=>
    obtain ⟨k,rfl,dk,f7⟩:=hrel
    by_cases hkt:k<n
    ·
     obtain ⟨z,hz⟩:∃z,ap[k]? =some z:=⟨_,List.getElem?_eq_getElem (by rw [hn.out];exact hkt)⟩;have bi:=List.mem_of_getElem? hz;have F7:=f6.trans f7 zr;obtain ⟨af,ad,ab⟩:=hJ.out i x _ hx F7;obtain ⟨ac,ae,aa⟩:=hJ.out k z _ hz F7;have F0:Fr Non wr wr.drew:=(Fr.refl Non wr).drew;have G0:Fr Non w3 wr.drew:=F7.drew;have k1:(0:Int)≤k:=by omega
     have k2:(k:Int)<n:=by omega
     have k3:(k:Int).toNat=k:=by omega
     have b9:=Lib.hid (fun (w':World) (hf:Fr Non w3 w')=>kB.out x z w' hf bj bi);have br:=Lib.hid (cf.out x z);obtain ⟨BV,c1⟩:=hid_ex (bef l x z);rw [c1.out] at b9 br;go_upto_region 12 with (fail)
     refine wp_region_held_drew (S:=fun w'=>w'.cell? ⟨ba,oa+i*3,none⟩=some (.int .i64 x.b)∧w'.cell? ⟨ba,oa+i*3+1,none⟩=some (.int .i64 x.s)∧w'.cell? ⟨ba,oa+i*3+2,none⟩=some (.int .u64 (x.u:Int))∧w'.cell? ⟨ba,oa+k*3,none⟩=some (.int .i64 z.b)∧w'.cell? ⟨ba,oa+k*3+1,none⟩=some (.int .i64 z.s)∧w'.cell? ⟨ba,oa+k*3+2,none⟩=some (.int .u64 (z.u:Int))) (by kernel_rfl) ⟨af,ad,ab,ac,ae,aa⟩ (fun hHeld=> ?_);clear hHeld;have uu:=aI af (aI ad (aI ab (aI ac (aI ae aa))));refine tkH 0 uu (h:=tkH 1 uu (h:=tkH 2 uu (h:=tkH 3 uu (h:=tkH 4 uu (h:=tkH 5 uu (h:=tkH 6 uu (h:=tkH 7 uu (h:=tkH 8 uu (h:=?_)))))))));clear uu;simp only [List.set];refine oG 9 (fun K hK=> ?_);go_simp;go_wp2_with (go_at_call 29;(with_reducible refine (b9.out _ G0).mono ?_);rintro _ v1 ⟨rfl,ax⟩;have F1:=F0.trans ax zr;have ag:=F1.cell af zq;have aj:=F1.cell ad zq;have ao:=F1.cell ab zq;have ai:=F1.cell ac zq;have al:=F1.cell ae zq;have ah:=F1.cell aa zq;have G1:=F7.trans F1 zr);refine hK.out _ _ ⟨ag,aj,ao,ai,al,ah⟩ (fun hZ=> ?_);clear hZ hK K;try simp only [put_lit',List.set]
     refine tkH 10 ⟨ag,aj,ao,ai,al,ah⟩ (h:=?_);simp only [List.set];refine oD ?_;go_simp;have f8:=f7.trans F1 zr;have F8:=G1;have av:=ag;have aw:=aj;have au:=ao;clear af ad ab ac ae aa ag aj ao F0 F1 G0 G1 b9 ax f7 F7
     cases BV
     case false=>
      clear br c1 ai al ah av aw au;go_wp2_with (fail);go_roundw
      case rel=>exact ⟨k+1,by go_num,by omega,f8⟩
      case measure=>simp [intOf];omega
     case true=>
      obtain ⟨cl,cm,b4,b7,ct⟩:=br.out rfl;clear br;have c8:=Lib.hid (kO.out z v1 F8 bi)
      go_upto_region 14 with (first
       |(go_at_call 36;(with_reducible refine (c8.out).mono ?_);rintro _ w8 ⟨y2,rfl,cr,fb⟩;have bz:=Blk.new w8 44 OpL.zero.cells;have ak:=one_cells y2)
       |(refine wpList_store_new rfl 44 (.tmp 9) (.tmp 58) rfl rfl rfl rfl bz hi rfl ak ?_;intro w9 cx c5 _))
      have f9:Fr Non w6 w9:=((f8.trans fb zr).alloc (.cells OpL.zero.cells 44)).trans c5 (fun k hk e=>by have e':k=w8.heap.size:=e;have:=(f8.trans fb zr).size;omega);have F9:=f6.trans f9 zr;have D0:w9.cell? ⟨w8.heap.size,3,none⟩=some (.int .i64 y2.at_):=cx.cell 3;have E9:=f9.cell E0 zq;rw [de] at E9;rw [cr] at D0;obtain ⟨yb,cj⟩:=hid_ex w8.heap.size;rw [cj.out] at D0 ⊢;clear cx c5 bz ak fb c8 cj ai al ah av aw au f8 F8 cr
      have te:((i:Int)==(k:Int))=false:=by
       rw [beq_eq_false_iff_ne];intro e;have e':i=k:=by omega
       subst e';exact cl (Option.some.inj (hx.symm.trans hz))
      have ci:=Lib.hid (fun (w':World) (hf:Fr Non w3 w')=>kB.out z x w' hf bi bj);rw [cm] at ci;have cg:=Lib.hid (fun (w':World) (hf:Fr Non w3 w')=>kL.out x w' hf bj);have b8:=Lib.hid (fun (w':World) (hf:Fr Non w3 w')=>kL.out z w' hf bi);obtain ⟨La,c9⟩:=hid_ex (levOf l x);obtain ⟨Lz,cq⟩:=hid_ex (levOf l z);obtain ⟨Ta,co⟩:=hid_ex (atOf l x);obtain ⟨Tz,cv⟩:=hid_ex (atOf l z);rw [c9.out] at cg b4;rw [cq.out] at b8 b4;rw [co.out] at E9 b7;rw [cv.out] at D0 b7;have tl:decide (Lz≤La)=false:=decide_eq_false (by omega);have tt:decide (Tz<Ta)=false:=decide_eq_false (by omega);have bm:=Lib.hid ct;clear c9 cq co cv cl cm b4 b7 ct;obtain ⟨af,ad,ab⟩:=hJ.out i x _ hx F9;obtain ⟨ac,ae,aa⟩:=hJ.out k z _ hz F9;have F0:Fr Non w9 w9.drew:=(Fr.refl Non w9).drew;have G0:Fr Non w3 w9.drew:=F9.drew;have a9:=E9;have bd:=D0;clear E9 D0;refine wp_region_held_drew (S:=fun w'=>w'.cell? ⟨ba,oa+i*3,none⟩=some (.int .i64 x.b)∧w'.cell? ⟨ba,oa+i*3+1,none⟩=some (.int .i64 x.s)∧w'.cell? ⟨ba,oa+i*3+2,none⟩=some (.int .u64 (x.u:Int))∧w'.cell? ⟨ba,oa+k*3,none⟩=some (.int .i64 z.b)∧w'.cell? ⟨ba,oa+k*3+1,none⟩=some (.int .i64 z.s)∧w'.cell? ⟨ba,oa+k*3+2,none⟩=some (.int .u64 (z.u:Int))∧w'.cell? ⟨xb,3,none⟩=some (.int .i64 Ta)∧w'.cell? ⟨yb,3,none⟩=some (.int .i64 Tz)) (by kernel_rfl) ⟨af,ad,ab,ac,ae,aa,a9,bd⟩ (fun hHeld=> ?_);clear hHeld;have uu:=aI af (aI ad (aI ab (aI ac (aI ae (aI aa (aI a9 bd))))));refine tkH 0 uu (h:=tkH 1 uu (h:=tkH 2 uu (h:=tkH 3 uu (h:=tkH 4 uu (h:=tkH 5 uu (h:=tkH 6 uu (h:=tkH 7 uu (h:=tkH 8 uu (h:=tkH 9 uu (h:=tkH 10 uu (h:=tkH 11 uu (h:=?_))))))))))));clear uu;simp only [List.set];refine tkH 12 ⟨af,ad,ab,ac,ae,aa,a9,bd⟩ (h:=?_);simp only [List.set];refine oG 13 (fun K hK=> ?_);go_simp;go_wp2_with (go_at_call 29;(with_reducible refine (ci.out _ G0).mono ?_);rintro _ v1 ⟨rfl,ax⟩;have F1:=F0.trans ax zr;have ag:=F1.cell af zq;have aj:=F1.cell ad zq;have ao:=F1.cell ab zq;have ai:=F1.cell ac zq;have al:=F1.cell ae zq;have ah:=F1.cell aa zq;have bx:=F1.cell a9 zq;have cb:=F1.cell bd zq;have G1:=F9.trans F1 zr);refine hK.out _ _ ⟨ag,aj,ao,ai,al,ah,bx,cb⟩ (fun hZ=> ?_);clear hZ hK K;try simp only [put_lit',List.set]
      have uu:=aI ag (aI aj (aI ao (aI ai (aI al (aI ah (aI bx cb))))));refine tkH 14 uu (h:=tkH 15 uu (h:=tkH 16 uu (h:=tkH 17 uu (h:=tkH 18 uu (h:=tkH 19 uu (h:=tkH 20 uu (h:=tkH 22 uu (h:=tkH 23 uu (h:=tkH 24 uu (h:=tkH 25 uu (h:=tkH 26 uu (h:=?_))))))))))));clear uu;simp only [List.set];refine oG 21 (fun K hK=> ?_);go_simp;go_wp2_with (go_at_call 27;(with_reducible refine (cg.out _ G1).mono ?_);rintro _ v2 ⟨rfl,bs⟩;have F2:=F1.trans bs zr;have av:=F2.cell af zq;have aw:=F2.cell ad zq;have au:=F2.cell ab zq;have a6:=F2.cell ac zq;have a8:=F2.cell ae zq;have be:=F2.cell aa zq;have c4:=F2.cell a9 zq;have cz:=F2.cell bd zq;have G2:=F9.trans F2 zr);refine hK.out _ _ ⟨av,aw,au,a6,a8,be,c4,cz⟩ (fun hZ=> ?_);clear hZ hK K;try simp only [put_lit',List.set]
      refine oG 27 (fun K hK=> ?_);go_simp;go_wp2_with (go_at_call 27;(with_reducible refine (b8.out _ G2).mono ?_);rintro _ v3 ⟨rfl,cs⟩;have F3:=F2.trans cs zr;have bw:=F3.cell af zq;have b6:=F3.cell ad zq;have b0:=F3.cell ab zq;have b5:=F3.cell ac zq;have ch:=F3.cell ae zq;have b2:=F3.cell aa zq;have cc:=F3.cell a9 zq;have b3:=F3.cell bd zq;have G3:=F9.trans F3 zr);refine hK.out _ _ ⟨bw,b6,b0,b5,ch,b2,cc,b3⟩ (fun hZ=> ?_);clear hZ hK K;try simp only [put_lit',List.set]
      have uu:=aI bw (aI b6 (aI b0 (aI b5 (aI ch (aI b2 (aI cc b3))))));refine tkH 28 uu (h:=tkH 29 uu (h:=tkH 30 uu (h:=tkH 31 uu (h:=tkH 32 uu (h:=tkH 33 uu (h:=tkH 34 uu (h:=tkH 35 uu (h:=tkH 36 uu (h:=?_)))))))));clear uu;simp only [List.set];refine oD ?_;go_simp;have dd:=f9.trans F3 zr;clear af ad ab ac ae aa a9 bd ag aj ao ai al ah bx cb av aw au a6 a8 be c4 cz bw b6 b0 b5 ch b2 cc b3 F0 F1 F2 F3 G0 G1 G2 G3 ci cg b8 ax bs cs f9 F9 te tl tt;go_wp2_with (fail)
      go_loopw [11] (fun v wr=>∃m:Nat,v=.int .i64 (m:Int)∧m≤n∧Fr Non w6 wr) (fun v _=>n-(intOf v).toNat)
      case atStart=>exact ⟨0,rfl,Nat.zero_le _,dd⟩
      case round=>
       obtain ⟨m,rfl,dl,bq⟩:=hrel
       by_cases hmt:m<n
       ·
        obtain ⟨u,hu⟩:∃u,ap[m]? =some u:=⟨_,List.getElem?_eq_getElem (by rw [hn.out];exact hmt)⟩;have c0:=List.mem_of_getElem? hu;have bb:=f6.trans bq zr;obtain ⟨af,ad,ab⟩:=hJ.out i x _ hx bb;obtain ⟨ac,ae,aa⟩:=hJ.out k z _ hz bb;obtain ⟨az,ay,a0⟩:=hJ.out m u _ hu bb;have F0:Fr Non wr wr.drew:=(Fr.refl Non wr).drew;have G0:Fr Non w3 wr.drew:=bb.drew;have m1:(0:Int)≤m:=by omega
        have m2:(m:Int)<n:=by omega
        have m3:(m:Int).toNat=m:=by omega
        have ce:=Lib.hid (fun (w':World) (hf:Fr Non w3 w')=>kB.out z u w' hf bi c0);have cw:=Lib.hid (fun (w':World) (hf:Fr Non w3 w')=>kB.out x u w' hf bj c0);have h5:=Lib.hid (bm.out u);obtain ⟨CV,ck⟩:=hid_ex (bef l z u);rw [ck.out] at ce h5;clear ck;go_upto_region 19 with (fail)
        cases CV
        case false=>
         refine wp_region_held_drew (S:=fun w'=>w'.cell? ⟨ba,oa+i*3,none⟩=some (.int .i64 x.b)∧w'.cell? ⟨ba,oa+i*3+1,none⟩=some (.int .i64 x.s)∧w'.cell? ⟨ba,oa+i*3+2,none⟩=some (.int .u64 (x.u:Int))∧w'.cell? ⟨ba,oa+k*3,none⟩=some (.int .i64 z.b)∧w'.cell? ⟨ba,oa+k*3+1,none⟩=some (.int .i64 z.s)∧w'.cell? ⟨ba,oa+k*3+2,none⟩=some (.int .u64 (z.u:Int))∧w'.cell? ⟨ba,oa+m*3,none⟩=some (.int .i64 u.b)∧w'.cell? ⟨ba,oa+m*3+1,none⟩=some (.int .i64 u.s)∧w'.cell? ⟨ba,oa+m*3+2,none⟩=some (.int .u64 (u.u:Int))) (by kernel_rfl) ⟨af,ad,ab,ac,ae,aa,az,ay,a0⟩ (fun hHeld=> ?_);clear hHeld;have uu:=aI af (aI ad (aI ab (aI ac (aI ae (aI aa (aI az (aI ay a0)))))));refine tkH 0 uu (h:=tkH 1 uu (h:=tkH 2 uu (h:=tkH 3 uu (h:=tkH 4 uu (h:=tkH 5 uu (h:=tkH 6 uu (h:=tkH 7 uu (h:=tkH 8 uu (h:=?_)))))))));clear uu;simp only [List.set];refine oG 9 (fun K hK=> ?_);go_simp;go_wp2_with (go_at_call 29;(with_reducible refine (ce.out _ G0).mono ?_);rintro _ v1 ⟨rfl,ax⟩;have F1:=F0.trans ax zr;have ag:=F1.cell af zq;have aj:=F1.cell ad zq;have ao:=F1.cell ab zq;have ai:=F1.cell ac zq;have al:=F1.cell ae zq;have ah:=F1.cell aa zq;have a1:=F1.cell az zq;have a5:=F1.cell ay zq;have a4:=F1.cell a0 zq;have G1:=bb.trans F1 zr);refine hK.out _ _ ⟨ag,aj,ao,ai,al,ah,a1,a5,a4⟩ (fun hZ=> ?_);clear hZ hK K;try simp only [put_lit',List.set]
         have uu:=aI ag (aI aj (aI ao (aI ai (aI al (aI ah (aI a1 (aI a5 a4)))))));refine tkH 10 uu (h:=skH 11 uu (h:=skH 12 uu (h:=skH 13 uu (h:=skH 14 uu (h:=skH 15 uu (h:=skH 16 uu (h:=skH 17 uu (h:=skH 18 uu (h:=skH 19 uu (h:=skH 20 uu (h:=skH 21 uu (h:=?_))))))))))));clear uu;simp only [List.set];refine tkH 22 ⟨ag,aj,ao,ai,al,ah,a1,a5,a4⟩ (h:=?_);simp only [List.set];refine oD ?_;go_simp;have b1:=bq.trans F1 zr;clear af ad ab ac ae aa az ay a0 ag aj ao ai al ah a1 a5 a4 F0 F1 G0 G1;go_wp2_with (fail);go_roundw
         case rel=>exact ⟨m+1,by go_num,by omega,b1⟩
         case measure=>simp [intOf];omega
        case true=>
         have h6:=h5.out rfl;rw [h6] at cw;refine wp_region_held_drew (S:=fun w'=>w'.cell? ⟨ba,oa+i*3,none⟩=some (.int .i64 x.b)∧w'.cell? ⟨ba,oa+i*3+1,none⟩=some (.int .i64 x.s)∧w'.cell? ⟨ba,oa+i*3+2,none⟩=some (.int .u64 (x.u:Int))∧w'.cell? ⟨ba,oa+k*3,none⟩=some (.int .i64 z.b)∧w'.cell? ⟨ba,oa+k*3+1,none⟩=some (.int .i64 z.s)∧w'.cell? ⟨ba,oa+k*3+2,none⟩=some (.int .u64 (z.u:Int))∧w'.cell? ⟨ba,oa+m*3,none⟩=some (.int .i64 u.b)∧w'.cell? ⟨ba,oa+m*3+1,none⟩=some (.int .i64 u.s)∧w'.cell? ⟨ba,oa+m*3+2,none⟩=some (.int .u64 (u.u:Int))) (by kernel_rfl) ⟨af,ad,ab,ac,ae,aa,az,ay,a0⟩ (fun hHeld=> ?_);clear hHeld;have uu:=aI af (aI ad (aI ab (aI ac (aI ae (aI aa (aI az (aI ay a0)))))));refine tkH 0 uu (h:=tkH 1 uu (h:=tkH 2 uu (h:=tkH 3 uu (h:=tkH 4 uu (h:=tkH 5 uu (h:=tkH 6 uu (h:=tkH 7 uu (h:=tkH 8 uu (h:=?_)))))))));clear uu;simp only [List.set];refine oG 9 (fun K hK=> ?_);go_simp;go_wp2_with (go_at_call 29;(with_reducible refine (ce.out _ G0).mono ?_);rintro _ v1 ⟨rfl,ax⟩;have F1:=F0.trans ax zr;have ag:=F1.cell af zq;have aj:=F1.cell ad zq;have ao:=F1.cell ab zq;have ai:=F1.cell ac zq;have al:=F1.cell ae zq;have ah:=F1.cell aa zq;have a1:=F1.cell az zq;have a5:=F1.cell ay zq;have a4:=F1.cell a0 zq;have G1:=bb.trans F1 zr);refine hK.out _ _ ⟨ag,aj,ao,ai,al,ah,a1,a5,a4⟩ (fun hZ=> ?_);clear hZ hK K;try simp only [put_lit',List.set]
         have uu:=aI ag (aI aj (aI ao (aI ai (aI al (aI ah (aI a1 (aI a5 a4)))))));refine tkH 10 uu (h:=tkH 11 uu (h:=tkH 12 uu (h:=tkH 13 uu (h:=tkH 14 uu (h:=tkH 15 uu (h:=tkH 16 uu (h:=tkH 17 uu (h:=tkH 18 uu (h:=tkH 19 uu (h:=?_))))))))));clear uu;simp only [List.set];refine oG 20 (fun K hK=> ?_);go_simp;go_wp2_with (go_at_call 29;(with_reducible refine (cw.out _ G1).mono ?_);rintro _ v2 ⟨rfl,bs⟩;have F2:=F1.trans bs zr;have av:=F2.cell af zq;have aw:=F2.cell ad zq;have au:=F2.cell ab zq;have a6:=F2.cell ac zq;have a8:=F2.cell ae zq;have be:=F2.cell aa zq;have bt:=F2.cell az zq;have bo:=F2.cell ay zq;have bn:=F2.cell a0 zq;have G2:=bb.trans F2 zr);refine hK.out _ _ ⟨av,aw,au,a6,a8,be,bt,bo,bn⟩ (fun hZ=> ?_);clear hZ hK K;try simp only [put_lit',List.set]
         refine tkH 21 ⟨av,aw,au,a6,a8,be,bt,bo,bn⟩ (h:=tkH 22 ⟨av,aw,au,a6,a8,be,bt,bo,bn⟩ (h:=?_));simp only [List.set];refine oD ?_;go_simp;have b1:=bq.trans F2 zr;clear af ad ab ac ae aa az ay a0 ag aj ao ai al ah a1 a5 a4 av aw au a6 a8 be bt bo bn F0 F1 F2 G0 G1 G2;go_wp2_with (fail);go_roundw
         case rel=>exact ⟨m+1,by go_num,by omega,b1⟩
         case measure=>simp [intOf];omega
       ·
        obtain rfl:m=n:=by omega
        have t1:decide ((m:Int)<(m:Int))=false:=decide_eq_false (by omega);go_wp2_with (fail);go_roundw
        case rel=>exact ⟨k+1,by go_num,by omega,bq⟩
        case measure=>simp [intOf];omega
    ·
     obtain rfl:k=n:=by omega
     have t1:decide ((k:Int)<(k:Int))=false:=decide_eq_false (by omega);go_wp2_with (fail);go_roundw
     case rel=>exact ⟨i+1,by go_num,by omega,f6.trans f7 zr⟩
     case measure=>simp [intOf];omega
  ·
   obtain rfl:i=n:=by omega
   have t1:decide ((i:Int)<(i:Int))=false:=decide_eq_false (by omega);have kv:=Lib.hid (bv.out wr (cn.trans f4 zr));go_wp2_with (go_at_call 19;(with_reducible refine (kv.out).mono ?_);rintro _ we ⟨rfl,fe⟩;have dc:=(cn.trans f4 zr).trans fe zr);exact ca.out _ dc
end Oq
end
section
open Go.ChangeShapes Go.WideShapes Go.ChangeAt Go.RowKit
theorem graphOrder_lifted (os:Os) (started:os.Started) (H:Type) (enc:TypeId × Value→H):
  ReturnsInHanded {} Tryz.checked os 7 .any (fun w args=>(Rows.graphOrderSpec.pre enc Tryz.prog Tryz.f7 [] false w args∧laidMetH Tryz.prog [("huddle/op.kinds",Rows.laid_huddle_op_kinds)] w)∧sizedMet enc Tryz.prog Tryz.f7 (OpenSpec.ofChange Rows.graphOrderSpec) false w args)
   (Rows.graphOrderSpec.post enc Tryz.prog Tryz.f7 false true false false):=by
 refine returnsInHanded_of_change_and (C:=Tryz.checked) (X:=fun w _=>laidMetH Tryz.prog [("huddle/op.kinds",Rows.laid_huddle_op_kinds)] w) (fun _ _ _ hh h=>h.of_heap hh) Tryz.own started (by kernel_rfl) Tryz.func7
  (ChangeSpec.witness_at (enc:=enc) (C:=Tryz.checked) (os:=os) (X:=fun w _=>laidMetH Tryz.prog [("huddle/op.kinds",Rows.laid_huddle_op_kinds)] w) false (laidWorld os) #[.slice none 0 0] 8 rfl (by kernel_rfl) (by kernel_rfl) (by kernel_rfl) (by kernel_rfl) (by kernel_rfl) (laidWorld_met os _)) ?_
 intro W base args ds gs before hval0 hW _ _ hL _;have hk:=kindsAt_of_laid hL;have hval:∀(j:Nat) t v,Tryz.f7.params[j]? =some t→args[j]? =some v→Value.okWide Tryz.prog W .any base t v:=hval0;have hW':=hW;obtain ⟨p,q,hA0,hV,rfl,hfz,hnd⟩:=hW;have hA:DataW.TrodAll enc Tryz.prog W 0 (fun _=>true) true Tryz.f7.params.toList args.toList ds p:=hA0;rw [Tryz.params7] at hA hval;obtain ⟨v0,d0,rfl,rfl,h0⟩:=trodAll_one hA;obtain ⟨A0,c0,l0,rfl,hlc0,hc0,hr0,hok0⟩:=open_ints Tryz.underlying22 Tryz.underlying3 (by kernel_rfl) (hval 0 22 v0 rfl rfl) h0;refine (Oq.graphOrder_law A0 c0 l0 W hk hr0 hlc0 hc0 hok0).mono fun e W' ⟨he,hf⟩=> ?_;exact ⟨_,he,law_post Tryz.laidOut (by kernel_rfl) rfl (by kernel_rfl) Tryz.underlying4 hW' ⟨rfl,rfl,rfl⟩ hf⟩
theorem graphOrder_holds:Rows.GraphOrderSaid:=
 OpenClaim.holds_of_wide 7 Tryz.f7 rfl rfl rfl rfl rfl rfl rfl ⟨rfl,rfl,rfl,rfl,rfl⟩ rfl rfl rfl rfl rfl (by kernel_rfl) Tryz.func7 (by kernel_rfl)
  (of_decide_eq_true (by kernel_rfl)) (by unfold Func.isWrapper;rw [if_neg (by decide+kernel)];exact ⟨rfl,rfl⟩)
  (fun os started H enc _=>graphOrder_lifted os started H enc)
end
section
open Go
theorem graphOrder_card_holds:Rows.GraphOrderCardSaid:=
 Claim7.holds_tied_plain_at .later [] [.data] true (true, "7e0c834fc93e2f05c1722e6864a69bf9e61c39615967a567db2e137b72a7bc25") false
  graphOrder_holds (fun _ h=>by cases h) (by kernel_rfl) (fun _ h=>by cases h) graphOrder_row_tie rfl ⟨rfl,rfl⟩ (by kernel_rfl) rfl
  (fun f fn hf hfn=>by
   obtain rfl:f=7:=Option.some.inj ((show Tryz.prog.funcNamed "huddle/huddlelaw12.GraphOrder" =some 7 by kernel_rfl).symm.trans hf)|>.symm;obtain rfl:fn=Tryz.f7:=(Option.some.inj (Tryz.func7.symm.trans hfn)).symm
   exact ⟨by kernel_rfl,fun j t ht=>by
    rw [Tryz.params7] at ht
    have hm:t∈([22]:List TypeId):=by
     have h2:=Array.mem_of_getElem? ht;simpa using h2
    have hall:([22]:List TypeId).all (fun t=> !(Tryz.prog.wantsStandIn t))=true:=by kernel_rfl
    have:=List.all_eq_true.1 hall t hm;exact (by simpa using this:Tryz.prog.wantsStandIn t=false)⟩)
  (by kernel_rfl)
end
end Go.Proofs.YtafonabghnogaaaGreatDoor
