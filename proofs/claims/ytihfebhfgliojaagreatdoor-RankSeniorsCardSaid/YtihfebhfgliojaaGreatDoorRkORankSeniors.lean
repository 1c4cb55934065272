/-
  huddlelaw14.RankSeniors: seniors stay: the first ones of the row have those seniors first, whatever stands behind.
    Conditions: op.kinds lies as its text lays it; the numbers read.
  RankSeniors: whatever the input is, where the one listed variable is as its text lays it, the law returns true, and nothing that was there has turned.
    Condition: none.
  RankSeniors: the tied card.
    Condition: none.
-/
import Derived.JoinedOf
import Derived.RowKitTokens
import Derived.LaidLaws
import Derived.Test.YtihfebhfgliojaaGreatDoorTie
import Derived.Test.YtihfebhfgliojaaGreatDoorCards
import Derived.SevenTiedAt
import Derived.Test.YtihfebhfgliojaaGreatDoorRkO20
set_option maxRecDepth 100000
set_option maxHeartbeats 16000000
open List renaming getElem?_eq_getElem->As7,length_take->As8,getElem?_map->As9,take_sublist->At0,getElem?_take_of_lt->At1
open Go.Proofs.Tryz
open Go.Proofs.Tryz renaming prog->zp
open Go.Lib renaming hid->lh
open List renaming set->zl
open Go.Ending renaming returned->ze
namespace Go.Proofs.YtihfebhfgliojaaGreatDoor
section
open Go.RowKit
attribute [local go_sem ↓] Go.wp_at_zero Go.wp_at_succ
namespace Oq
attribute [local go_sem] Bool.not_false Bool.not_true
attribute [local go_sem ↓] Cz Es G6 Dw
theorem rankSeniors_law (A:Option Addr) (c:Nat) (l0:List Int) (dv:Int) (w:World) (hk:KindsAt w) (hr:Rd w w.heap.size 1 A l0.length (l0.map Iv)) (hnc:l0.length<=c) (hnm:c<=9223372036854775807) (hok:∀x∈l0,I64 x) (dv0: -9223372036854775808<=dv) (dv1:dv<=9223372036854775807):
  Calls zp 11 #[.slice A l0.length c,.int .i64 dv] w (Ae true w):=by
 have hG:∀r:RG,(zp.info? 32).map (·.size)=some r.cells.size:=fun r=>Cx;have km:=lh (G7 w.heap.size l0.length c A l0 w rfl hr hnc hnm hok hk);unfold Ge at km;have bf:=fun (w':World) (hf:Fr Non w w')=>H9 w' (hk.fr hf);unfold Ae at bf;replace bf:=lh bf;have b2:Hid (∀wz,Fr Non w wz->Ae true w (.returned (.bool true)) wz):=fun wz h=>⟨rfl,h⟩;generalize Ae true w=POST at*;obtain ⟨n0,cl⟩:=Aa l0.length;rw [cl.out] at km ⊢;clear hr hnc hnm hok cl;go_enter func11,ntmps11;go_upto_region 2 with (go_at_call 23;(with_reducible refine (km.out).mono ?_);rintro _ w1 ⟨r,g,b,rfl,st,di,ci,dh,f1⟩;(have bz:=Blk.new w1 32 zG);(have bk:=Bp (P:=zp) w1.heap.size 32 (cs:=r.cells) (hG r) (old:=zG) rfl (Eh r)))
 have bv:=bz.setRow (cs:=r.cells);have f2:Fr Non w1 ((w1.alloc (.cells zG 32)).setRow w1.heap.size r.cells):=((Fr.refl Non w1).alloc _).setRow (fun hh=>absurd hh (by omega)) _;have ap:=st.non f2;have cc:=f1.trans f2 zr;obtain ⟨gv,cu⟩:=Aa w1.heap.size;rw [cu.out] at bv ap cc ⊢;clear bk bz f2 f1 st km cu;generalize (w1.alloc (.cells zG 32)).setRow gv r.cells=w2 at*;have hl:=Bk (P:=zp) gv 32 underlying32 rfl (hG r);have ad:=ap.ro.rows;have av:ClosedOk r.l (Ai r.ids):=Hu ad;have a8:(Ai r.ids).Perm (r.l.map Pn.id):=Ee _;have bb:Hid ((Ai r.ids).length=r.l.length):=by show _=_;rw [Hv];exact Gu r
 have ac:Hid ((Af r.l (Ai r.ids)).length=r.l.length):=by show _=_;rw [Et];exact bb.out
 have ai:ClosedOk r.l (Af r.l (Ai r.ids)):=av.perm (El _ _);have ah:=Hz r.l (Ai r.ids);have ak:Hid (∀k,Af r.l ((Af r.l (Ai r.ids)).take k)=(Af r.l (Ai r.ids)).take k):=fun k=>Sp (List.Pairwise.sublist (At0 _ _) ah);have ay:Hid (∀k,ClosedOk r.l ((Af r.l (Ai r.ids)).take k)):=fun k=>⟨ai.1.sublist (At0 _ _),fun x hx=>ai.2 x (List.mem_of_mem_take hx)⟩;have dn:r.l.length≠0:=fun e=>ci (List.length_eq_zero_iff.1 e);have bl:=ap.few;obtain ⟨nd,h0⟩:∃nd,r.l[0]? =some nd:=⟨_,As7 (Nat.pos_of_ne_zero dn)⟩;have bm:=lh (Tf ad h0 a8);have ct:nd.id.b=nd.o.by_:=(ad.idAt h0).1
 have cj:Hid (∀k,0<k->(Cc r.l ((Af r.l (Ai r.ids)).take k))[0]? =some nd.id.b):=fun k hk=>by
  rw [ct];exact Tg ad h0 (by rw [At1 hk];exact bm.out)
 have ax:Hid (∀k,k<=r.l.length->Cc r.l ((Af r.l (Ai r.ids)).take k)<+:Cc r.l (Af r.l (Ai r.ids))):=fun k hk=>Ak9 r.l _ k (by rw [ac.out];exact hk);have ao:Hid (∀(i:Nat) (d:Int),(Cc r.l (Af r.l (Ai r.ids)))[i]? =some d->∃(p:Nat) (x:Id),(Af r.l (Ai r.ids))[p]? =some x/\Ea r.l (Af r.l (Ai r.ids)) d=some x/\(Bb r.l (Af r.l (Ai r.ids)) p).length=i):=fun i d h=>Al0 h;have aw:Hid (∀p q,(Bb r.l (Af r.l (Ai r.ids)) p).length<(Bb r.l (Af r.l (Ai r.ids)) q).length->p<q):=fun p q h=>Al1 h;have a6:(Cc r.l (Af r.l (Ai r.ids))).Nodup:=St _ _ _
 have al:(Cc r.l (Af r.l (Ai r.ids))).length<=14:=by
  unfold Cc;refine Nat.le_trans (M9 _ _ _) ?_;rw [ac.out];exact bl
 have kA:=lh ap.all;have kO:=lh (fun (v:World) (hv:Fr Non w2 v) (B:Nat) (A:Option Addr) (c:Nat) (hr:Rd v B 3 A r.l.length ((Ai r.ids).flatMap Id.cells))=>(ap.non hv).order av bb (c:=c) hr)
 have kS:Hid (∀(k:Nat) (v:World) (_:Fr Non w2 v) (B:Nat) (A:Option Addr) (c:Nat),k<=r.l.length->Rd v B 3 A k (((Af r.l (Ai r.ids)).take k).flatMap Id.cells)->Calls zp 29 #[.pointer (some ⟨g.gb,0,none⟩),.slice A k c] v (Gb (Cc r.l ((Af r.l (Ai r.ids)).take k)) v)):=fun k v hv B A c hk hr=>by
  have:=(ap.non hv).sen (ay.out k) (show Hid _ by show ((Af r.l (Ai r.ids)).take k).length=k;rw [As8,ac.out];omega) (c:=c) hr;rwa [ak.out] at this
 have kC:Hid (∀(d:Int) (v:World) (_:Fr Non w2 v) (B:Nat) (A:Option Addr) (c:Nat),Rd v B 3 A r.l.length ((Af r.l (Ai r.ids)).flatMap Id.cells)->Calls zp 36 #[.pointer (some ⟨g.gb,0,none⟩),.slice A r.l.length c,.int .i64 d] v (H8 (Ea r.l (Af r.l (Ai r.ids)) d) v)):=fun d v hv B A c hr=>by
  have:=(ap.non hv).came d ai ac (c:=c) hr;rwa [Sp ah] at this
 unfold Ca at kA kO;unfold Gb at kS;unfold H8 at kC;rw [bb.out] at kA;rw [ac.out] at kO;have g2:∃(Aq:Option Addr) (cq:Nat),r.cells[2]? =some (.slice Aq r.l.length cq):=⟨_,_,rfl⟩;have br:=lh (fun (v:World)=>Ig dv ((r.l.length:Int)+1) v dv0 dv1 (by omega) (by omega));have ck:=Ie (n:=dv) (m:=(r.l.length:Int)+1) (by omega);obtain ⟨K,hK⟩:∃K:Nat,C6 dv ((r.l.length:Int)+1)=(K:Int):=⟨(C6 dv ((r.l.length:Int)+1)).toNat,by omega⟩;rw [hK] at br ck;have b3:K<=r.l.length:=by omega
 have dx:IntKind.i64.wrap ((r.l.length:Int)+1)=(r.l.length:Int)+1:=IntWalk.i64_in _ (by omega);have bo:(Af r.l (Ai r.ids)).Nodup:=ai.1;obtain ⟨GB,ca⟩:=Aa g.gb;rw [ca.out] at kO kS kC ⊢;clear ap ad hG ca ci di dh av ai ay a8 bb ah ak h0 ct hK ck;generalize Af r.l (Ai r.ids)=RS at*;have a3:RS.take r.l.length=RS:=List.take_of_length_le (Nat.le_of_eq ac.out);have bj:=lh (fun (v:World) (hv:Fr Non w2 v) (B:Nat) (A:Option Addr) (c:Nat) hr=>kS.out r.l.length v hv B A c (Nat.le_refl _) hr);rw [a3] at bj;generalize Ai r.ids=AI at*;generalize Ea r.l RS=CF at*;generalize hST:Bb r.l RS=ST at*;generalize hSF:Cc r.l=SF at*;clear hST hSF;generalize r.l.length=N at*;generalize r.cells=CS at*;generalize nd.id=z0 at*;obtain ⟨Aq,cq,g2⟩:=g2;have c2:cS w2 gv 2 Aq N cq:=(bv.cell 2).trans g2;replace g2:=lh g2;have tN:((N:Int) !=(N:Int))=false:=by simp
 go_upto_region 5 with (first
  |(go_at_call 22;(with_reducible refine (kA.out).mono ?_);rintro _ w3 ⟨A3,c3,rfl,o3,f3⟩)
  |(go_at_call 27;(with_reducible refine (kO.out _ f3 _ _ _ o3.rd).mono ?_);rintro _ w4 ⟨A4,c4,rfl,o4,f4⟩))
 have bc:=f3.trans f4 zr;have cy:=bc.cell c2 zq;have dl:=o4.cap;clear kA kO o3 f3 f4 c2 bv hl;go_upto_region 8 with (go_at_call 29;(with_reducible refine (bj.out _ bc _ _ _ o4.rd).mono ?_);rintro _ w5 ⟨A5,c5,rfl,o5,f5⟩)
 have cg:=bc.trans f5 zr;have b7:=o4.fr f5 zr;have d1:K<=c4:=by omega
 have k0:(0:Int)<=K:=by omega
 have k1:(K:Int)<=c4:=by omega
 have k3:(K:Int).toNat=K:=by omega
 have cv:Rd w5 w5.heap.size 3 A4 K ((RS.take K).flatMap Id.cells):=by
  have h:=b7.rd.takeN (m:=K) b3;rwa [show (RS.flatMap Id.cells).take (K*3)=(RS.take K).flatMap Id.cells from Ib (f:=Id.cells) (fun _=>rfl) RS K] at h
 go_upto_region 9 with (go_at_call 39;(with_reducible refine (br.out _).mono ?_);rintro _ _ ⟨rfl,rfl⟩)
 go_upto_region 10 with (go_at_call 29;(with_reducible refine (kS.out K _ cg _ _ _ b3 cv).mono ?_);rintro _ w6 ⟨A6,c6,rfl,o6,f6⟩)
 have az:=cg.trans f6 zr;have cf:=cc.trans az zr;have c9:=ax.out K b3;obtain ⟨tl,a7⟩:=c9;obtain ⟨SP,cx⟩:=Aa (SF (RS.take K));have au:=lh (fun hk=>cj.out K hk);rw [cx.out] at o6 a7 au ⊢;obtain ⟨SL,ce⟩:=Aa (SF RS);rw [ce.out] at o5 a7 ao a6 al ⊢;have bs:SP.length<=SL.length:=by rw [<- a7,List.length_append];omega
 have ag:SL.take SP.length=SP:=by rw [<- a7,List.take_left' rfl]
 have a0:=o5.fr f6 zr;have b8:=b7.fr f6 zr;obtain ⟨P,hP⟩:=Aa SP.length;obtain ⟨M,hM⟩:=Aa SL.length;have da:P<=14:=by rw [<- hP.out];omega
 have aq:Rd w6.drew w6.drew.heap.size 1 A5 P (SP.map Iv):=by
  have h:=a0.rd.take (m:=P) (by rw [<- hP.out];exact bs);rw [<- List.map_take,<- hP.out,ag] at h;rw [<- hP.out];exact h
 have kI:=lh (fun (v:World) (A A':Option Addr) (c c':Nat) h1 h2=>Tn P c c' A A' SP v hP.out h1 h2 (by omega));have a5:=a0.cap;rw [hP.out] at o6 bs ⊢;rw [hM.out] at a0 bs al a5 ⊢;have bp:Rd w6.drew w6.drew.heap.size 1 A6 P (SP.map Iv):=o6.rd;have c8:decide ((P:Int)>(M:Int))=false:=decide_eq_false (by omega);have bi:decide (M<P)=false:=decide_eq_false (by omega);have bh:decide ((M:Int)<(P:Int))=false:=decide_eq_false (by omega);have p1:(0:Int)<=P:=by omega
 have p2:(P:Int)<=c5:=by omega
 have p3:(P:Int).toNat=P:=by omega
 have p4:P<=c5:=by omega
 have p5:(P:Int)<=M:=by omega
 have cn:=(f5.trans f6 zr).cell cy zq;clear o5 b7 bc f5 f6 kS bj cv br cy cj ax g2 a7 ag ce cx o4;go_upto_region 10 with (fail)
 go_cut [79] from 47 to 79 (fun s wc=>s=.bool false/\Fr Non w6 wc)
 case first=>
  have F0:Fr Non w6 w6.drew:=(Fr.refl Non w6).drew
  by_cases hk:K=0
  ·
   have tk:decide ((K:Int)>0)=false:=decide_eq_false (by omega);have ds:decide (0<K)=false:=decide_eq_false (by omega);have dr:decide ((0:Int)<(K:Int))=false:=decide_eq_false (by omega);have C0:=cn;replace hk:=lh hk;refine wp_region_held_drew (S:=fun w'=>cS w' gv 2 Aq N cq) (by kernel_rfl) C0 (fun hHeld=> ?_);clear hHeld;refine tkH 0 C0 (h:=tkH 1 C0 (h:=tkH 2 C0 (h:=tkH 3 C0 (h:=tkH 4 C0 (h:=tkH 5 C0 (h:=tkH 6 C0 (h:=tkH 7 C0 (h:=tkH 8 C0 (h:=tkH 9 C0 (h:=tkH 10 C0 (h:=?_)))))))))));simp only [zl];refine oG 11 (fun K hK=> ?_);go_simp;go_wp2_with (go_at_call 28;(with_reducible refine (kI.out _ _ _ _ _ bp aq).mono ?_);rintro _ v1 ⟨rfl,a2⟩;have F1:=F0.trans a2 zr;have C1:=F1.cell C0 zq;have G1:=az.trans F1 zr);refine hK.out _ _ C1 (fun hZ=> ?_);clear hZ hK K;try simp only [Ad,zl]
   refine tkH 12 C1 (h:=tkH 13 C1 (h:=tkH 14 C1 (h:=tkH 15 C1 (h:=tkH 16 C1 (h:=tkH 17 C1 (h:=skH 18 C1 (h:=skH 19 C1 (h:=skH 20 C1 (h:=skH 21 C1 (h:=skH 22 C1 (h:=skH 23 C1 (h:=?_))))))))))));simp only [zl];refine skH 24 C1 (h:=skH 25 C1 (h:=skH 26 C1 (h:=skH 27 C1 (h:=skH 28 C1 (h:=skH 29 C1 (h:=skH 30 C1 (h:=tkH 31 C1 (h:=tkH 32 C1 (h:=?_)))))))));simp only [zl];refine oD ?_;go_simp;go_wp2_with fail;go_meet;exact ⟨rfl,F1⟩
  ·
   have tk:decide ((K:Int)>0)=true:=decide_eq_true (by omega);have ds:decide (0<K)=true:=decide_eq_true (by omega);have dr:decide ((0:Int)<(K:Int))=true:=decide_eq_true (by omega);have h9:=au.out (by omega)
   have dk:P≠0:=fun e=>by
    rw [<- hP.out] at e;rw [List.length_eq_zero_iff.1 e] at h9
    cases h9
   have tP:((P:Int)==0)=false:=by simp;exact dk
   have nP:(0:Int)<P:=by omega
   have dm:0<P:=by omega
   have nN:(0:Int)<N:=by omega
   have dw:0<N:=by omega
   obtain ⟨b4,q4,rfl,_,X0,_,_⟩:=Id.at b8.rd bm.out;rw [Nat.zero_mul,Nat.add_zero] at X0;obtain ⟨b6,q6,u6,rfl,_,a9,Y0⟩:=o6.rd.at (k:=0) dm;rw [As9,h9] at a9;injection a9 with a9
   subst a9;rw [Nat.add_zero] at Y0;have af:=X0;have ae:=Y0;clear h9;refine wp_region_held_drew (S:=fun w'=>cI w' b4 q4 z0.b/\cI w' b6 q6 z0.b) (by kernel_rfl) ⟨af,ae⟩ (fun hHeld=> ?_);clear hHeld;have uu:=aI af ae;refine tkH 0 uu (h:=tkH 1 uu (h:=tkH 2 uu (h:=tkH 3 uu (h:=tkH 4 uu (h:=tkH 5 uu (h:=tkH 6 uu (h:=tkH 7 uu (h:=tkH 8 uu (h:=tkH 9 uu (h:=tkH 10 uu (h:=?_)))))))))));clear uu;simp only [zl];refine oG 11 (fun K hK=> ?_);go_simp;go_wp2_with (go_at_call 28;(with_reducible refine (kI.out _ _ _ _ _ bp aq).mono ?_);rintro _ v1 ⟨rfl,a2⟩;have F1:=F0.trans a2 zr;have aa:=F1.cell af zq;have ab:=F1.cell ae zq;have G1:=az.trans F1 zr);refine hK.out _ _ ⟨aa,ab⟩ (fun hZ=> ?_);clear hZ hK K;try simp only [Ad,zl]
   have uu:=aI aa ab;refine tkH 12 uu (h:=tkH 13 uu (h:=tkH 14 uu (h:=tkH 15 uu (h:=tkH 16 uu (h:=tkH 17 uu (h:=tkH 18 uu (h:=tkH 19 uu (h:=tkH 20 uu (h:=tkH 21 uu (h:=tkH 22 uu (h:=tkH 23 uu (h:=?_))))))))))));clear uu;simp only [zl];have uu:=aI aa ab;refine tkH 24 uu (h:=tkH 25 uu (h:=tkH 26 uu (h:=tkH 27 uu (h:=tkH 28 uu (h:=tkH 29 uu (h:=tkH 30 uu (h:=tkH 31 uu (h:=tkH 32 uu (h:=?_)))))))));clear uu;simp only [zl];refine oD ?_;go_simp;go_wp2_with fail;go_meet;exact ⟨rfl,F1⟩
 case rest=>
 obtain ⟨rfl,fc⟩:=hcut;have cb:=a0.fr fc zr;have cd:=b8.fr fc zr;have dc:=az.trans fc zr;have dd:=cf.trans fc zr;clear bp aq kI au o6 a0 b8 az cf cn p1 p2 p3 p4 p5 c8 bi bh bm;generalize wc=w7 at*;go_wp2_with fail
 go_loopw [11,12] (fun s v wr=>∃(i:Nat) (LI:Int),v=.int .i64 (i:Int)/\s=.int .i64 LI/\i<=M/\Hid (LI= -1\/∃p:Nat,LI=(p:Int)/\(ST p).length<i)/\Fr Non w7 wr) (fun _ v _=>M-(intOf v).toNat)
 case atStart=>exact ⟨0,-1,rfl,rfl,Nat.zero_le _,.inl rfl,Fr.refl _ _⟩
 case round=>
  obtain ⟨i,LI,rfl,rfl,hi,dj,hf⟩:=hrel
  by_cases hlt:i<M
  ·
   obtain ⟨d,hd⟩:∃d,SL[i]? =some d:=⟨_,As7 (by rw [hM.out];exact hlt)⟩;obtain ⟨p,z,bq,co,bw⟩:=ao.out i d hd
   have de:p<N:=by
    have:=(List.getElem?_eq_some_iff.1 bq).1;rw [ac.out] at this;exact this
   have cp:LI<(p:Int):=by
    rcases dj.out with h|⟨p',h,h'⟩
    · omega
    ·
     have:=aw.out p' p (by rw [bw];exact h');omega
   have i1:(0:Int)<=i:=by omega
   have i2:(i:Int)<M:=by omega
   have i3:(i:Int).toNat=i:=by omega
   obtain ⟨b5,q5,u5,rfl,-,aj,d0⟩:=(cb.fr hf zr).rd.at hlt;rw [As9,hd] at aj;injection aj with aj
   subst aj;replace d0:cI wr b5 (q5+i) d:=d0;have a4:=lh (kC.out d wr (dc.trans hf zr) _ _ c4 (cd.fr hf zr).rd);rw [co] at a4;replace a4:Hid (Calls zp 36 #[.pointer (some ⟨GB,0,none⟩),.slice A4 N c4,.int .i64 d] wr fun e w'=>e=.returned (.tuple #[.agg z.V,.bool true])/\Fr Non wr w'):=a4
   have cr:Hid ((SL.take i).contains d=false):=by
    show _=_;rw [Bool.eq_false_iff];intro h;rw [List.contains_iff_mem] at h;obtain ⟨j,hj⟩:=List.getElem?_of_mem h
    have db:j<i:=by
     have:=(List.getElem?_eq_some_iff.1 hj).1;rw [As8] at this;omega
    rw [At1 db] at hj;have:=(List.getElem?_inj (i:=i) (j:=j) (by rw [hM.out];exact hlt) a6).1 (by rw [hd,hj]);omega
   have hu:Hid (∀k x,RS[k]? =some x->(Id.eq x z=true<->k=p)):=fun k x hx=>by
    rw [Id.eq_iff];constructor
    ·
     intro e;rw [e] at hx;exact Se bo hx bq
    ·
     intro e;rw [e,bq] at hx;injection hx with hx
     exact hx.symm
   have bu:=lh bw;clear co bw;go_upto_region 17 with (go_at_call 36;(with_reducible refine (a4.out).mono ?_);rintro _ w8 ⟨rfl,f8⟩;(have bz:=Blk.new w8 38 #[.int .i64 0,.int .i64 0,.int .u64 0]);(have bk:=Bp (P:=zp) w8.heap.size 38 (cs:=z.V) F9 (old:=#[.int .i64 0,.int .i64 0,.int .u64 0]) rfl (H7 _ _ _)))
   have b1:=bz.setRow (cs:=z.V);have f9:Fr Non w8 ((w8.alloc (.cells #[.int .i64 0,.int .i64 0,.int .u64 0] 38)).setRow w8.heap.size z.V):=((Fr.refl Non w8).alloc _).setRow (fun hh=>absurd hh (by omega)) _;have bt:=hf.trans (f8.trans f9 zr) zr;obtain ⟨zB,ch⟩:=Aa w8.heap.size;rw [ch.out] at b1 bt ⊢;clear bk bz f8 f9 a4 d0 ch hf;generalize (w8.alloc (.cells #[.int .i64 0,.int .i64 0,.int .u64 0] 38)).setRow zB z.V=w9 at*;clear wr w8;go_wp2_with fail
   go_loopw [15,16] (fun s v wx=>∃(k:Nat),v=.int .i64 (k:Int)/\s=.int .i64 (if p<k then (p:Int) else-1)/\k<=N/\Fr Non w9 wx) (fun _ v _=>N-(intOf v).toNat)
   case atStart=>exact ⟨0,rfl,rfl,Nat.zero_le _,Fr.refl _ _⟩
   case round=>
    obtain ⟨k,rfl,rfl,hk,bd⟩:=hrel;have c7:=bt.trans bd zr;have bg:=b1.fr bd zq
    by_cases hkt:k<N
    ·
     obtain ⟨x,hx⟩:∃x,RS[k]? =some x:=⟨_,As7 (by rw [ac.out];exact hkt)⟩;have dt:(0:Int)<=k:=by omega
     have dy:(k:Int)<N:=by omega
     have d2:(k:Int).toNat=k:=by omega
     obtain ⟨ba,oa,rfl,_,x0,x1,x2⟩:=Id.at (cd.fr c7 zr).rd hx;have y0:cI wr zB 0 z.b:=bg.cell 0;have y1:cI wr zB 1 z.s:=bg.cell 1;have y2:cU wr zB 2 z.u:=bg.cell 2;have a1:=hu.out k x hx;obtain ⟨BQ,c0⟩:=Aa (Id.eq x z);have dg:Id.eq x z=BQ:=c0.out;rw [dg] at a1;obtain ⟨LA,b9⟩:=Aa (if p<k then (p:Int) else-1);rw [b9.out];go_upto_region 21 with (fail)
     go_quiet (fail)
     have fN:Fr Non wr (wr.drewN nq):=(Fr.refl Non wr).drewN nq;have cm:=bd.trans fN zr;generalize wr.drewN nq=wy at*
     cases BQ
     case true=>
      have be:k=p:=a1.1 rfl;have ar:Hid ((k:Int)=if p<k+1 then (p:Int) else-1):=by show _=_;rw [if_pos (by omega),be]
      clear a1 be;go_wp2_with fail;go_roundw
      case rel=>exact ⟨k+1,by go_num,by rw [ar.out],by omega,cm⟩
      case measure=>simp [intOf];omega
     case false=>
      have be:k≠p:=fun e=>by have:=a1.2 e;cases this
      have ar:Hid (LA=if p<k+1 then (p:Int) else-1):=by
       show _=_;rw [<- b9.out]
       by_cases h:p<k
       · rw [if_pos h,if_pos (by omega)]
       · rw [if_neg h,if_neg (by omega)]
      clear a1 be;go_wp2_with fail;go_roundw
      case rel=>exact ⟨k+1,by go_num,by rw [ar.out],by omega,cm⟩
      case measure=>simp [intOf];omega
    ·
     obtain rfl:k=N:=by omega
     rw [if_pos de];have b0:=bt.trans bd zr;have cz:decide ((p:Int)<=LI)=false:=decide_eq_false (by omega);have d3:i<=c5:=by omega
     have dq:(i:Int)<=c5:=by omega
     have bx:=cb.fr b0 zr;obtain ⟨dz,du,u5,bn,_,aj,d0⟩:=bx.rd.at hlt;injection bn with bn
     injection bn with e1 e2
     subst e1 e2;rw [As9,hd] at aj;injection aj with aj
     subst aj;replace d0:cI wr b5 (q5+i) d:=d0
     have cw:Rd wr.drew wr.drew.heap.size 1 (some ⟨b5,q5,none⟩) i ((SL.take i).map Iv):=by
      rw [List.map_take];exact bx.rd.take (by omega)
     have kH:=lh (Ao7 wr.drew.heap.size i c5 (some ⟨b5,q5,none⟩) (SL.take i) d wr.drew (by show (SL.take i).length=i;rw [As8,hM.out];omega) cw (by omega));rw [cr.out] at kH;have c1:=lh cp;clear cp cr hd;go_upto_region 23 with (fail)
     go_cut [125] from 109 to 125 (fun s wc=>s=.bool false/\Fr Non wr wc)
     case first=>
      have F0:Fr Non wr wr.drew:=(Fr.refl Non wr).drew;have D0:=d0;refine wp_region_held_drew (S:=fun w'=>cI w' b5 (q5+i) d) (by kernel_rfl) D0 (fun hHeld=> ?_);clear hHeld;refine tkH 0 D0 (h:=tkH 1 D0 (h:=tkH 2 D0 (h:=tkH 3 D0 (h:=tkH 4 D0 (h:=tkH 5 D0 (h:=tkH 6 D0 (h:=tkH 7 D0 (h:=tkH 8 D0 (h:=tkH 9 D0 (h:=tkH 10 D0 (h:=tkH 11 D0 (h:=?_))))))))))));simp only [zl];refine tkH 12 D0 (h:=tkH 13 D0 (h:=tkH 14 D0 (h:=?_)));simp only [zl];refine oG 15 (fun K hK=> ?_);go_simp;go_wp2_with (go_at_call 40;(with_reducible refine (kH.out).mono ?_);rintro _ v1 ⟨rfl,a2⟩;have F1:=F0.trans a2 zr;have D1:=F1.cell D0 zq;have G1:=b0.trans F1 zr);refine hK.out _ _ D1 (fun hZ=> ?_);clear hZ hK K;try simp only [Ad,zl]
      refine tkH 16 D1 (h:=?_);simp only [zl];refine oD ?_;go_simp;go_wp2_with fail;go_meet;exact ⟨rfl,F1⟩
     case rest=>
     obtain ⟨rfl,fc⟩:=hcut;have dp:=b0.trans fc zr;clear kH cw d0 bx;go_wp2_with fail;go_roundw
     case rel=>exact ⟨i+1,(p:Int),by go_num,rfl,by omega,.inr ⟨p,rfl,by have:=bu.out;omega⟩,dp⟩
     case measure=>simp [intOf];omega
  ·
   obtain rfl:i=M:=by omega
   have fz:=dd.trans hf zr;go_wp2_with (go_at_call 30;(with_reducible refine (bf.out _ fz).mono ?_);rintro _ wz ⟨rfl,df⟩);exact b2.out _ (fz.trans df zr)
end Oq
end
section
open Go.ChangeShapes Go.WideShapes Go.ChangeAt Go.RowKit
theorem As5 (os:Os) (started:os.Started) (H:Type) (enc:TypeId × Value->H):
  ReturnsInHanded {} Tryz.checked os 11 .any (fun w args=>(Rows.rankSeniorsSpec.pre enc zp f11 [] false w args/\laidMetH zp [("huddle/op.kinds",Rows.laid_huddle_op_kinds)] w)/\sizedMet enc zp f11 (OpenSpec.ofChange Rows.rankSeniorsSpec) false w args)
   (Rows.rankSeniorsSpec.post enc zp f11 false true false false):=by
 refine returnsInHanded_of_change_and (C:=Tryz.checked) (X:=fun w _=>laidMetH zp [("huddle/op.kinds",Rows.laid_huddle_op_kinds)] w) (fun _ _ _ hh h=>h.of_heap hh) Tryz.own started (by kernel_rfl) func11
  (ChangeSpec.witness_at (enc:=enc) (C:=Tryz.checked) (os:=os) (X:=fun w _=>laidMetH zp [("huddle/op.kinds",Rows.laid_huddle_op_kinds)] w) false (Fp os) #[.slice none 0 0,.int .i64 0] 8 rfl (by kernel_rfl) (by kernel_rfl) (by kernel_rfl) (by kernel_rfl) (by kernel_rfl) (Hj os _)) ?_
 intro W base args ds gs before hval0 hW _ _ hL _;have hk:=Hi hL;have hval:∀(j:Nat) t v,Tryz.f11.params[j]? =some t->args[j]? =some v->Value.okWide zp W .any base t v:=hval0;have hW':=hW;obtain ⟨p,q,hA0,hV,rfl,hfz,hnd⟩:=hW;have hA:DataW.TrodAll enc zp W 0 (fun _=>true) true Tryz.f11.params.toList args.toList ds p:=hA0;rw [params11] at hA hval;obtain ⟨v0,v1,d0,d1,p0,p1,rfl,rfl,rfl,h0,h1⟩:=trodAll_two hA;obtain ⟨A0,c0,l0,rfl,hlc0,hc0,hr0,hok0⟩:=E7 underlying22 underlying3 (by kernel_rfl) (hval 0 22 v0 rfl rfl) h0;obtain ⟨x1,rfl,rfl,rfl,wf1⟩:=open_int underlying3 (hval 1 3 v1 rfl rfl) h1;have bd1:=Ni wf1;refine (Oq.rankSeniors_law A0 c0 l0 x1 W hk hr0 hlc0 hc0 hok0 bd1.1 bd1.2).mono fun e W' ⟨he,hf⟩=> ?_;exact ⟨_,he,Ha Tryz.laidOut (by kernel_rfl) rfl (by kernel_rfl) underlying4 hW' ⟨rfl,rfl,rfl⟩ hf⟩
theorem As6:Rows.RankSeniorsSaid:=
 OpenClaim.holds_of_wide 11 f11 rfl rfl rfl rfl rfl rfl rfl ⟨rfl,rfl,rfl,rfl,rfl⟩ rfl rfl rfl rfl rfl (by kernel_rfl) func11 (by kernel_rfl)
  (of_decide_eq_true (by kernel_rfl)) (by unfold Func.isWrapper;rw [if_neg (by decide+kernel)];exact ⟨rfl,rfl⟩)
  (fun os started H enc _=>As5 os started H enc)
end
section
open Go
theorem rankSeniors_card_holds:Rows.RankSeniorsCardSaid:=
 Claim7.holds_tied_plain_at .later [] [.data] true (true, "384d72dad725d37bd6ac49b23d359ed0607772ed35652509833cbd7c76661533") false
  As6 (fun _ h=>by cases h) (by kernel_rfl) (fun _ h=>by cases h) rankSeniors_row_tie rfl ⟨rfl,rfl⟩ (by kernel_rfl) rfl
  (fun f fn hf hfn=>by
   obtain rfl:f=11:=Option.some.inj ((show zp.funcNamed "huddle/huddlelaw14.RankSeniors" =some 11 by kernel_rfl).symm.trans hf)|>.symm;obtain rfl:fn=f11:=(Option.some.inj (Tryz.func11.symm.trans hfn)).symm
   exact ⟨by kernel_rfl,fun j t ht=>by
    rw [params11] at ht
    have hm:t∈([22,3]:List TypeId):=by
     have h2:=Array.mem_of_getElem? ht;simpa using h2
    have hall:([22,3]:List TypeId).all (fun t=> !(zp.wantsStandIn t))=true:=by kernel_rfl
    have:=List.all_eq_true.1 hall t hm;exact (by simpa using this:zp.wantsStandIn t=false)⟩)
  (by kernel_rfl)
end
end Go.Proofs.YtihfebhfgliojaaGreatDoor
