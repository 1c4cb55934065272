/- Contracts of functions, walked (part 16).
Conditions: as each theorem says. -/
import Derived.WideKeyEntry
import Derived.Test.YtmcpnjoomlgmlaaGreatDoorRpM15
set_option maxRecDepth 100000
set_option maxHeartbeats 16000000
open Bool renaming not_false->A63,not_true->A64
open List renaming getElem?_eq_getElem->A61,find?_cons_of_neg->A62,not_mem_nil->A65,mem_of_getElem?->A66,length_append->A67,length_map->A68,getElem?_map->A70,nil_append->A71,find?_cons_of_pos->A72,take_length->A75,getElem_mem->A76
open Nat renaming le_trans->A59,zero_add->A60,le_refl->A73,zero_le->A74
open Go.World renaming size_alloc->A69
open Go.Proofs.Tryz
open Go.Proofs.Tryz renaming prog->zp
open Go.Lib renaming hid->lh
open List renaming set->zl
open Go.Ending renaming returned->ze
namespace Go.Proofs.YtmcpnjoomlgmlaaGreatDoor
open Go.RowKit
attribute [local go_sem ↓] Go.wp_at_zero Go.wp_at_succ
namespace Oq
attribute [local go_sem] A63 A64
attribute [local go_sem ↓] Bq Dx Uw
theorem U8 {cards:List Cd} {m:List Pn} {ws:List Op} {o:Op} (h:(plc m o.name).isSome=true\/ws.any (fun x=>Id.eq x.name o.name)=true):Bp cards (m,ws) o=(5,(m,ws)):=by unfold Bp;rw [if_pos h]
theorem Aw8 {cards:List Cd} {m:List Pn} {ws:List Op} {o:Op} (h1:(plc m o.name).isSome=false) (h2:ws.any (fun x=>Id.eq x.name o.name)=false):
  Bp cards (m,ws) o=if ready m o=false then if 200<=ws.length then (3,(m,ws)) else (0,(m,ws++[o])) else if Au cards m o≠0 then (Au cards m o,(m,ws)) else (0,Ci cards ws.length (m++[Az m o]) ws):=by
 unfold Bp;rw [if_neg (by rw [h1,h2];simp)]
def TakeRPost (base:Nat) (r:Ag) (o:Op) (w:World) (e:Ending) (w':World):Prop:=
 e=.returned (.int .i64 (Bp r.g.cards r.st o).1)/\∃r':Ag,Hid (Ag.Step base r r' w w')/\Hid (r'.st=(Bp r.g.cards r.st o).2)
theorem TakeRPost.mk {base:Nat} {r r':Ag} {o:Op} {w w':World} {a:Int} {s:List Pn × List Op} (h:Bp r.g.cards r.st o=(a,s)) (hs:Ag.Step base r r' w w') (he:r'.st=s):TakeRPost base r o w (.returned (.int .i64 a)) w':=by
 unfold TakeRPost;rw [h];exact ⟨rfl,r',hs,he⟩
theorem Lp (base B n c:Nat) (A:Option Addr) (r:Ag) (o:Op) (w:World) (h:r.okAt w base) (hk:KindsAt w) (hn:Hid (o.put.length=n)) (hr:Rd w B 1 A n (o.put.map Bv)) (hl:n<=1099511627776) (hok:o.ok):
  Calls zp 9 #[.pointer (some ⟨r.rb,0,none⟩),.slice A n c] w (TakeRPost base r o w):=by
 have aa:(zp.info? 52).map (·.size)=some 27:=by kernel_rfl
 have kg:Hid (Calls zp 25 #[.slice A n c] w (fun e w'=>∃x:OpL,x.op=o/\e=.returned (.tuple #[.agg x.cells,.int .i64 0])/\x.own w' w.heap.size/\Fr Non w w')):=by
  have:=Aa3 B n c A o.put w hn hr hl;unfold Hv at this;rw [Xf hok.okR] at this;exact this
 have b8:base<=w.heap.size:=A59 h.rbase (Nat.le_of_lt h.blk.lt);have ab:Hid (∀(a:Int) (s:List Pn × List Op) (r':Ag) (w':World),Bp r.g.cards r.st o=(a,s)->Ag.Step base r r' w w'->r'.st=s->TakeRPost base r o w (.returned (.int .i64 a)) w'):=fun a s r' w' h1 h2 h3=>TakeRPost.mk h1 h2 h3;generalize TakeRPost base r o w=POST at*;obtain ⟨nm,aq⟩:∃nm,o.name=nm:=⟨_,rfl⟩;have a3:nm.ok:=by rw [<- aq];exact Lb hok
 obtain ⟨rb,ak⟩:=Ab r.rb;obtain ⟨gb,be⟩:=Ab r.g.gb;obtain ⟨N,hN⟩:=Ab r.ws.length;rw [ak.out];replace h:=lh h;replace hk:=lh hk;clear hn hr hl;go_enter func9,ntmps9;go_upto_region 2 with (go_at_call 25;(with_reducible refine (kg.out).mono ?_);rintro _ w1 ⟨x,a1,rfl,xo,f1⟩;have bn:=Blk.new w1 52 zO;have bq:=Cf (P:=zp) w1.heap.size 52 (cs:=x.cells) aa (old:=zO) rfl (E8 x))
 have bx:Blk ((w1.alloc (.cells zO 52)).setRow w1.heap.size x.cells) w1.heap.size 52 x.cells:=bn.setRow;have fx:Fr Non w1 ((w1.alloc (.cells zO 52)).setRow w1.heap.size x.cells):=((Fr.refl Non w1).alloc _).setRow (fun hh=>absurd hh (by omega)) _;have f2:=f1.trans fx zr;have au:=(xo.lower b8).non fx;have bc:x.op.ok:=by rw [a1];exact hok
 obtain ⟨ob,bz⟩:=Ab w1.heap.size;have aj:w.heap.size<=w1.heap.size:=f1.size;rw [bz.out] at bx f2 au aj ⊢;replace aj:=lh aj;clear kg xo bq bn f1 fx bz b8;generalize (w1.alloc (.cells zO 52)).setRow ob x.cells=w2 at*;have cd:=Be (P:=zp) ob 52 underlying52 rfl (cs:=x.cells) aa;have bp:=lh (fun (w':World) (h:Fr Non w2 w')=>U1 x nm (by rw [a1];exact aq) w' (au.non h).at bc);have kO:=lh (fun (w':World) (hf:Fr Non w w')=>U6 (l:=r.g.pns) nm (h.out.graph.fr hf) be.out rfl a3);unfold Lo at kO;have kL:=lh (fun (w':World) (hf:Fr Non w2 w')=>Ko base r.g x w' Kq (h.out.graph.fr (f2.trans hf zr)) (au.non hf).at bc.past.2 (by have:=bc.past.1;show x.op.past.length<=_;omega));unfold H6 at kL;have kA:=lh (fun (w':World) (hf:Fr Non w2 w')=>U3 base r x w' (h.out.non (f2.trans hf zr)) (au.non hf).at bc (hk.out.fr (f2.trans hf zr)));unfold Oy at kA;rw [a1] at kA;have kC:=lh (fun (iv:Nat) (w':World) (hf:Fr Non w w') (hi:Blk w' iv 45 nm.V)=>Aw2 w'.heap.size N r.c iv r.A r.ws (fun y=>Id.eq y.op.name nm) w' hN (by have:=(h.out.non hf).row.rd;rwa [hN.out] at this) (by have:=h.out.few;rw [hN.out] at this;omega) (fun y hy w'' hg=>Aw0 y nm iv w'' ((h.out.ops y hy).1.non (hf.trans hg zr)).at (h.out.ops y hy).2 (hi.fr hg zq)));unfold Ae at kC;have ao:=lh (U0 (g:=r.g) rfl x);rw [a1] at ao;rw [be.out] at kL kA;obtain ⟨LL,bw⟩:=Ab (x.past.filter (fun id=> !(place r.g.nodes id).isSome));rw [bw.out] at kL ao;obtain ⟨LN,ci⟩:=Ab LL.length;rw [ci.out] at kL ao;have b9:Hid (Own w2 base 52 27 r.A N r.c (r.ws.flatMap (fun x=>x.cells.toList))/\x.own w2 base/\x.op=o/\o.ok):=⟨by have:=(h.out.non f2).row;rwa [hN.out] at this,au,a1,hok⟩;have ay:=Ux x;have ba:=Ov x;have a2:x.cells.size=27:=rfl;obtain ⟨XC,b0⟩:=Ab x.cells;rw [b0.out] at bx cd bp kL kA ay ba a2;have bd:r.okAt w2 base:=h.out.non f2;have P2:w2.cell? ⟨rb,0,none⟩=some (.pointer (some ⟨gb,0,none⟩)):=by have:=bd.blk.cell 0;rwa [ak.out,be.out] at this
 have V2:w2.cell? ⟨rb,1,none⟩=some (.slice r.A N r.c):=by have:=bd.blk.cell 1;rwa [ak.out,hN.out] at this
 have b3:N<=200:=by have:=bd.few;rwa [hN.out] at this
 have ah:Hid ((r.ws.map OpL.op).any (fun y=>Id.eq y.name nm)=r.ws.any (fun y=>Id.eq y.op.name nm)):=by show _=_;rw [List.any_map];rfl
 obtain ⟨WB,ch⟩:=Ab (r.ws.any (fun y=>Id.eq y.op.name nm));rw [ch.out] at kC ah;clear au bc bw bd a3 aa hok;go_upto_region 4 with (fail)
 go_upto_region 5 with (go_at_call 26;(with_reducible refine (bp.out _ (Fr.refl _ _)).mono ?_);rintro _ w3 ⟨rfl,f3⟩)
 have bi:=Blk.new w3 45 nm.V;have a8:Fr Non w2 (w3.alloc (.cells nm.V 45)):=f3.alloc _;have bt:w.heap.size<=w3.heap.size:=(f2.trans f3 zr).size;obtain ⟨ib,bv⟩:=Ab w3.heap.size;rw [bv.out] at bi ⊢;generalize w3.alloc (.cells nm.V 45)=w4 at*;have ai:=f2.trans a8 zr;have b7:=bx.fr a8 zq;obtain ⟨P4,V4⟩:=zk2 a8 P2 V2;have i0:cI w4 ib 0 nm.b:=bi.cell 0;have i1:cI w4 ib 1 nm.s:=bi.cell 1;have i2:cU w4 ib 2 nm.u:=bi.cell 2;clear bp f3 P2 V2 bv bt
 go_cut [8,9] from 21 to 29 (fun s1 s2 wc=>∃(qb:Nat) (is:Bool),s1=.pointer (some ⟨qb,0,none⟩)/\s2=.bool is/\Hid ((plc r.g.pns nm).isSome=is)/\Fr Non w4 wc)
 case first=>
  have aa:(zp.info? 52).map (·.size)=some 27:=by kernel_rfl
  have P0:=P4;have I0:=i0;have J0:=i1;have K0:=i2;have F0:Fr Non w4 w4.drew:=(Fr.refl Non w4).drew;have G0:Fr Non w w4.drew:=ai.drew;refine wp_region_held_drew (S:=fun w'=>w'.cell? ⟨rb,0,none⟩=some (.pointer (some ⟨gb,0,none⟩))/\cI w' ib 0 nm.b/\cI w' ib 1 nm.s/\cU w' ib 2 nm.u) (by kernel_rfl) ⟨P0,I0,J0,K0⟩ (fun uu=> ?_);refine tkN 0 5 uu (h:=?_);clear uu;refine U7 5 9 (by kernel_rfl) rfl rfl (by kernel_rfl) (by kernel_rfl) (fun K hK=> ?_) (fun K hK=> ?_)
  ·
   skip
   go_simp;go_wp2_with (go_at_call 27;(with_reducible refine (kO.out _ G0).mono ?_);rintro _ v1 ⟨y2,is,rfl,af,_,_,ar⟩;have F1:=F0.trans ar zr;obtain ⟨P1,I1,J1,K1⟩:=zk4 F1 P0 I0 J0 K0;have G1:=ai.trans F1 zr);refine hK.out _ _ ⟨P1,I1,J1,K1⟩ (fun uu=> ?_);clear hK K;try simp only [Ah,zl]
   refine tkN 6 3 uu (h:=?_);clear uu;refine oG 9 (fun K hK=> ?_);go_simp;have bj:Fr Non v1 (v1.alloc (.cells zO 52)):=(Fr.refl _ _).alloc _;have bb:=Blk.new v1 52 zO;have F2:=F1.trans bj zr;obtain ⟨P2,I2,J2,K2⟩:=zk4 F2 P0 I0 J0 K0;have G2:=ai.trans F2 zr;obtain ⟨qb,a7⟩:=Ab v1.heap.size;rw [a7.out] at bb ⊢;have cb:w4.heap.size<=qb:=by rw [<- a7.out];exact F1.size
   refine hK.out _ _ ⟨P2,I2,J2,K2⟩ (fun hZ=> ?_);clear hZ hK K;try simp only [Ah,zl]
   generalize v1.alloc (.cells zO 52)=v2 at*;have bq:=Cf (P:=zp) qb 52 (cs:=y2.cells) aa (old:=zO) rfl (E8 y2);refine oG 10 (fun K hK=> ?_);go_simp;have F3:Fr Non w4 (v2.setRow qb y2.cells):=F2.setRow (fun hh=>absurd hh (by omega)) _;obtain ⟨P3,I3,J3,K3⟩:=zk4 F3 P0 I0 J0 K0;have G3:=ai.trans F3 zr;refine hK.out _ _ ⟨P3,I3,J3,K3⟩ (fun uu=> ?_);clear hK K;try simp only [Ah,zl]
   refine tkN 11 1 uu (h:=?_);clear uu;refine oD ?_;go_simp;go_wp2_with fail;go_meet;exact ⟨qb,is,rfl,rfl,af,F3⟩
  ·
   have F0:Fr Non w4 w4:=Fr.refl Non w4;have G0:=ai;go_simp;have ar:Fr Non w4 ((w4.alloc (.cells zO 52)).drew):=(((Fr.refl Non w4).alloc (.cells zO 52)).drew:Fr Non w4 _);have a9:=(Blk.new w4 52 zO).drew;have F1:=F0.trans ar zr;obtain ⟨P1,I1,J1,K1⟩:=zk4 F1 P0 I0 J0 K0;have G1:=ai.trans F1 zr;obtain ⟨qb,a7⟩:=Ab w4.heap.size;rw [a7.out] at a9 ⊢;have cb:w4.heap.size<=qb:=by rw [<- a7.out];exact A73 _
   refine hK.out _ _ ⟨P1,I1,J1,K1⟩ (fun hZ=> ?_);clear hZ hK K;try simp only [Ah,zl]
   generalize (w4.alloc (.cells zO 52)).drew=v1 at*;refine oG 5 (fun K hK=> ?_);go_simp;go_wp2_with (go_at_call 27;(with_reducible refine (kO.out _ G1).mono ?_);rintro _ v2 ⟨y2,is,rfl,af,_,_,bj⟩;have F2:=F1.trans bj zr;obtain ⟨P2,I2,J2,K2⟩:=zk4 F2 P0 I0 J0 K0;have G2:=ai.trans F2 zr;have bb:=a9.fr bj zq);refine hK.out _ _ ⟨P2,I2,J2,K2⟩ (fun uu=> ?_);clear hK K;try simp only [Ah,zl]
   refine tkN 6 3 uu (h:=?_);clear uu;have bq:=Cf (P:=zp) qb 52 (cs:=y2.cells) aa (old:=zO) rfl (E8 y2);refine oG 10 (fun K hK=> ?_);go_simp;have F3:Fr Non w4 (v2.setRow qb y2.cells):=F2.setRow (fun hh=>absurd hh (by omega)) _;obtain ⟨P3,I3,J3,K3⟩:=zk4 F3 P0 I0 J0 K0;have G3:=ai.trans F3 zr;refine hK.out _ _ ⟨P3,I3,J3,K3⟩ (fun uu=> ?_);clear hK K;try simp only [Ah,zl]
   refine tkN 11 1 uu (h:=?_);clear uu;refine oD ?_;go_simp;go_wp2_with fail;go_meet;exact ⟨qb,is,rfl,rfl,af,F3⟩
 case rest=>
 obtain ⟨qb,is,rfl,rfl,af,fc⟩:=hcut;generalize wc=w5 at*;have cc:=a8.trans fc zr;have bk:=ai.trans fc zr;have bh:=lh (kC.out ib w5 bk (bi.fr fc zq));obtain ⟨V5,P5⟩:=zk2 fc V4 P4;have b6:=b7.fr fc zq;clear kO kC bi i0 i1 i2 P4 V4 b7 bx fc
 cases is
 case true=>
  have hd:=lh (ab.out 5 r.st r w5 (U8 (.inl (by rw [aq];exact af.out))) (h.out.still bk) rfl);clear ab af kL kA bh;go_wp2_with fail;exact hd.out
 case false=>
 cases WB
 case true=>
  have hd:=lh (fun (w':World) (hf:Fr Non w w')=>ab.out 5 r.st r w' (U8 (.inr (by rw [aq];exact ah.out))) (h.out.still hf) rfl);clear ab af kL kA;go_wp2_with (go_at_call 40;(with_reducible refine (bh.out).mono ?_);rintro _ w6 ⟨rfl,f6⟩);exact hd.out _ (bk.trans f6 zr)
 case false=>
 have ag:=lh (Aw8 (cards:=r.g.cards) (m:=r.g.pns) (ws:=r.ws.map OpL.op) (o:=o) (by rw [aq];exact af.out) (by rw [aq];exact ah.out));go_upto_region 8 with (go_at_call 40;(with_reducible refine (bh.out).mono ?_);rintro _ w6 ⟨rfl,f6⟩)
 have b5:=cc.trans f6 zr;have ce:=bk.trans f6 zr;have P0:=f6.cell P5 zq;have X0:=b6.fr f6 zq;have V0:=f6.cell V5 zq;have F0:Fr Non w6 w6.drew:=(Fr.refl Non w6).drew;have G0:Fr Non w2 w6.drew:=b5.drew;clear bh af ah P5 V5 b6;refine wp_region_held_drew (S:=fun w'=>w'.cell? ⟨rb,0,none⟩=some (.pointer (some ⟨gb,0,none⟩))/\Blk w' ob 52 XC/\cS w' rb 1 r.A N r.c) (by kernel_rfl) ⟨P0,X0,V0⟩ (fun uu=> ?_);refine tkN 0 5 uu (h:=?_);clear uu;refine oG 5 (fun K hK=> ?_);go_simp;go_wp2_with (go_at_call 42;(with_reducible refine (kL.out _ G0).mono ?_);rintro _ v1 ⟨AL,cL,rfl,_,ar⟩;have F1:=F0.trans ar zr;have P1:=F1.cell P0 zq;have X1:=X0.fr F1 zq;have V1:=F1.cell V0 zq;have G1:=b5.trans F1 zr);refine hK.out _ _ ⟨P1,X1,V1⟩ (fun uu=> ?_);clear hK K;try simp only [Ah,zl]
 refine tkN 6 2 uu (h:=?_);clear uu;refine oD ?_;go_simp;have H1:=ce.trans F1 zr;generalize v1=w7 at*;clear P0 X0 V0 F0 G0 F1 ar kL
 by_cases hL0:LN=0
 case neg=>
  have t0:decide ((LN:Int)>0)=true:=decide_eq_true (by omega);have cm:decide (0<LN)=true:=decide_eq_true (by omega);have hr:ready r.g.pns o=false:=by rw [ao.out];exact decide_eq_false hL0
  have ad:Hid (Bp r.g.cards r.st o=if 200<=N then (3,r.st) else (0,(r.g.pns,r.ws.map OpL.op++[o]))):=by
   show _=_;rw [<- hN.out];have:=ag.out;rw [if_pos hr,A68] at this;exact this
  clear ag kA ao
  by_cases hfull:200<=N
  case pos=>
   have t1:decide ((N:Int)>=200)=true:=decide_eq_true (by omega);have cf:decide (200<=N)=true:=decide_eq_true hfull;have hd:=lh (ab.out 3 r.st r w7 (by rw [ad.out,if_pos hfull]) (h.out.still H1) rfl);clear ab ad;go_wp2_with fail;exact hd.out
  case neg=>
  have t1:decide ((N:Int)>=200)=false:=decide_eq_false (by omega);have cf:decide (200<=N)=false:=decide_eq_false hfull;have cj:decide ((200:Int)<=(N:Int))=false:=decide_eq_false (by omega);have a0:=lh (fun (w':World) (hf:Fr Non w w')=>h.out.non hf);have al:Ad r.A≠some rb:=by rw [<- ak.out];exact h.out.row.ne h.out.blk (by decide)
  have bf:=b9.out;have ck:Own w7 base 52 27 r.A N r.c (r.ws.flatMap (fun x=>x.cells.toList)):=bf.1.fr G1 zr
  have aw:Ad r.A≠some ob:=fun e=>by
   have h9:=(h.out.row.row ob e).2;have h7:=aj.out;omega
  have ca:x.own w7 base:=bf.2.1.non G1;have av:Hid (x.op=o):=bf.2.2.1;have bm:Hid o.ok:=bf.2.2.2;go_upto_region 11 with (fail)
  have X0:=X1;have V0:=V1;have F0:Fr Non w7 w7.drew:=(Fr.refl Non w7).drew;clear P1 X1 V1;refine Cv (S:=fun w'=>cS w' rb 1 r.A N r.c/\Blk w' ob 52 XC) 10 (by kernel_rfl) ?_;refine tkM 0 6 ⟨V0,X0⟩ (h:=?_);refine Bo 6 (by kernel_rfl) rfl (fun K hK=> ?_);go_simp;have b1:=(Blk.new w7 52 XC).drew;have F1:Fr Non w7 (w7.alloc (.cells XC 52)).drew:=((Fr.refl Non w7).alloc _).drew;obtain ⟨nb,bs⟩:=Ab w7.heap.size;rw [bs.out] at b1 ⊢;generalize (w7.alloc (.cells XC 52)).drew=v1 at*;have V1:=F1.cell V0 zq;have X1:=X0.fr F1 zq;refine hK.out _ _ ⟨V1,X1⟩ (fun hZ=> ?_);clear hZ hK K;try simp only [Ah,zl]
  have ac:=a0.out v1 (H1.trans F1 zr);have bl:Rd v1 v1.heap.size 27 (some ⟨nb,0,none⟩) 1 XC.toList:=Rd.blk (by simpa using b1) (by simp [a2]);have cl:base<=v1.heap.size:=by have h9:=ac.rbase;have h8:=ac.blk.lt;omega
  refine Bo 7 (by kernel_rfl) rfl (fun K hK=> ?_);refine Du (base:=base) (.tmp 57) (.tmp 59) 24 rfl rfl rfl slOp (ck.fr F1 zr) bl ba (by omega) (by omega) cl ?_;intro A9 c9 v2 ap az a5;have V2:=az.cell V1 al;have X2:=X1.fr az aw;have b2:=ac.blk.fr az (by rw [ak.out];exact al);rw [ak.out] at b2;have z2:=b2.frozen 1;refine hK.out _ _ ⟨V2,X2⟩ (fun hZ=> ?_);clear hZ hK K;try simp only [Ah,zl]
  refine Bo 8 (by kernel_rfl) rfl (fun K hK=> ?_);go_simp;refine hK.out _ _ ⟨V2,X2⟩ (fun uu=> ?_);clear hK K;try simp only [Ah,zl]
  refine tkM 9 1 uu (h:=?_);clear uu;refine Cp (by kernel_rfl) ?_;refine stT 10 (h:=?_);refine oD ?_;go_simp;rw [<- b0.out] at ap;have bo:=ac.longer hN (by omega) (ca.non F1) (by rw [av.out];exact bm.out) ap az a5;rw [ak.out] at bo;have hd:=lh (ab.out 0 _ _ _ (by rw [ad.out,if_neg hfull]) ((h.out.still (H1.trans F1 zr)).trans bo) (by show (r.g.pns,(r.ws++[x]).map OpL.op)=_;rw [List.map_append,List.map_cons,List.map_nil,av.out]));clear ab ad bo ap az a5 a0 ac;go_wp2_with fail;exact hd.out
 case pos=>
  subst hL0;have hr:ready r.g.pns o=true:=by rw [ao.out];rfl
  have ad:Hid (Bp r.g.cards r.st o=if Au r.g.cards r.g.pns o≠0 then (Au r.g.cards r.g.pns o,r.st) else (0,Ci r.g.cards r.ws.length (r.g.pns++[Az r.g.pns o]) (r.ws.map OpL.op))):=by
   show _=_;have:=ag.out;rw [hr,if_neg (by decide),A68] at this;exact this
  have a6:Hid (r.okAt w7 base):=h.out.non H1;have b4:Hid (KindsAt w7):=hk.out.fr H1;obtain ⟨E,hE⟩:=Ab (Au r.g.cards r.g.pns o);rw [hE.out] at kA ad;clear ag ao b9 hE;go_upto_region 13 with (fail)
  have X0:=X1;have P0:=P1;have F0:Fr Non w7 w7.drew:=(Fr.refl Non w7).drew;have cg:Hid (Ag.Step base r r w w7.drew):=h.out.still (H1.trans F0 zr);clear P1 X1 V1;refine wp_region_held_drew (S:=fun w'=>w'.cell? ⟨rb,0,none⟩=some (.pointer (some ⟨gb,0,none⟩))/\Blk w' ob 52 XC) (by kernel_rfl) ⟨P0,X0⟩ (fun uu=> ?_);refine tkN 0 5 uu (h:=?_);clear uu;refine oG 5 (fun K hK=> ?_);go_simp;go_wp2_with (go_at_call 43;(with_reducible refine (kA.out _ (G1.trans F0 zr)).mono ?_);rintro _ v1 ⟨rfl,r3,ae,a4,ax,bu⟩);have P1:v1.cell? ⟨rb,0,none⟩=some (.pointer (some ⟨gb,0,none⟩)):=by have h9:=ae.out.ok.blk.cell 0;rwa [ae.out.rb,ae.out.gb,ak.out,be.out] at h9
  have X1:=bu ob XC X0;refine hK.out _ _ ⟨P1,X1⟩ (fun uu=> ?_);clear hK K;try simp only [Ah,zl]
  refine tkN 6 1 uu (h:=?_);clear uu;refine oD ?_;go_simp;have bg:Hid (Ag.Step base r r3 w v1):=cg.out.trans ae.out;have br:Hid (r3.rb=rb):=ae.out.rb.trans ak.out
  by_cases e0:E=0
  case neg=>
   have t1:(E !=0)=true:=by simp [e0]
   have hd:=lh (ab.out E r.st r3 v1 (by rw [ad.out,if_pos e0]) bg.out (by show (r3.g.pns,r3.ws.map OpL.op)=_;rw [ax.out,if_neg e0,a4.out];rfl));clear ab ad kA ae bg bu;go_wp2_with fail;exact hd.out
  case pos=>
  subst e0;have kg:=lh (Aw7 base r3 v1 ae.out.ok (KindsAt.rel (b4.out.fr F0) (a6.out.non F0) ae.out.fr));unfold Ln at kg;rw [br.out] at kg;have hd:=lh (fun (w':World) (r4:Ag) (h4:Ag.Step base r3 r4 v1 w') (e4:r4.st=Ci r3.g.cards r3.ws.length r3.g.pns (r3.ws.map OpL.op))=>ab.out 0 _ r4 w' (by rw [ad.out,if_neg (by simp)]) (bg.out.trans h4) (by rw [e4,ae.out.cards,ax.out,if_pos rfl,a4.out]));clear ab ad kA ae bg bu a6 b4;go_wp2_with (go_at_call 44;(with_reducible refine (kg.out).mono ?_);rintro _ w9 ⟨rfl,r4,h4,e4⟩);exact hd.out w9 r4 h4.out e4.out
end Oq
namespace Oq
attribute [local go_sem] A63 A64
def Gl (cs:List Cd) (w:World) (e:Ending) (w':World):Prop:=
 ∃r:Ag,e=.returned (.pointer (some ⟨r.rb,0,none⟩))/\Hid (r.okAt w' w.heap.size)/\Hid (r.st=([],[]))/\Hid (r.g.cards=cs)/\Fr Non w w'
theorem Oz (B n c:Nat) (A:Option Addr) (l:List Int) (w:World) (hn:Hid (l.length=n)) (hnm:n<=1000) (hr:Rd w B 5 A n ((Bb 0 l).flatMap Cd.cells)) (hpos:0<w.heap.size):
  Calls zp 6 #[.slice A n c] w (Gl (Bb 0 l) w):=by
 have kn:=lh (Ar8 B n c A l w hn hnm hr hpos);unfold I5 at kn
 have hfin:Hid (∀(w1:World) (g:Gph),GAt w1 w.heap.size g->g.nodes=[]->g.cards=Bb 0 l->Fr Non w w1->Gl (Bb 0 l) w (.returned (.pointer (some ⟨w1.heap.size,0,none⟩))) (w1.alloc (.cells #[.pointer (some ⟨g.gb,0,none⟩),.slice none 0 0] 85))):=by
  intro w1 g hg hgn hgc hf;have f1:Fr Non w1 (w1.alloc (.cells #[.pointer (some ⟨g.gb,0,none⟩),.slice none 0 0] 85)):=(Fr.refl Non w1).alloc _;refine ⟨⟨w1.heap.size,g,none,0,[]⟩,rfl,⟨Blk.new w1 _ _,hf.size,hg.fr f1,Own.nil _ _ _ _,fun x hx=>absurd hx A65,A74 _⟩,?_,hgc,hf.trans f1 zr⟩;show (g.pns,_)=_;unfold Gph.pns;rw [hgn];rfl
 generalize Gl (Bb 0 l) w=POST at*;clear hr hn hnm hpos;go_enter func6,ntmps6;go_wp2_with (go_at_call 36;(with_reducible refine (kn.out).mono ?_);rintro _ w1 ⟨g,rfl,hg,hgn,hgc,f1⟩;(have hd:=lh (hfin.out w1 g hg hgn hgc f1)));exact hd.out
theorem O2 (base:Nat) (r:Ag) (w:World) (h:r.okAt w base):
  Calls zp 11 #[.pointer (some ⟨r.rb,0,none⟩)] w (fun e w'=>e=.returned (.int .i64 (r.ws.length:Int))/\Fr Non w w'):=by
 have c1:cS w r.rb 1 r.A r.ws.length r.c:=h.blk.cell 1;clear h;generalize r.ws.length=n at*;generalize r.rb=rb at*;go_enter func11,ntmps11;go_wp2
 go_ret
 exact ⟨rfl,Fr.refl _ _⟩
theorem U9 (base:Nat) (r:Ag) (w:World) (h:r.okAt w base):
  Calls zp 13 #[.pointer (some ⟨r.rb,0,none⟩)] w (Ek (Ba (r.g.pns.map Pn.id)) w):=by
 have c0:w.cell? ⟨r.rb,0,none⟩=some (.pointer (some ⟨r.g.gb,0,none⟩)):=h.blk.cell 0
 have ka:Hid (Calls zp 45 #[.pointer (some ⟨r.g.gb,0,none⟩)] w (Ek (Ba (r.g.pns.map Pn.id)) w)):=by
  refine (Tw base r.g w T3 h.graph).mono ?_;rintro e w'' ⟨A5,c5,out,rfl,hp,hs,o5,f5⟩;obtain rfl:=Q9 hs (Ua rfl hp);exact ⟨A5,c5,rfl,o5,f5⟩
 generalize Ba (r.g.pns.map Pn.id)=IS at*;have hfin:Hid (∀A c w',Own w' w.heap.size 45 3 A IS.length c (IS.flatMap Id.cells)->Fr Non w w'->Ek IS w (.returned (.slice A IS.length c)) w'):=fun A c w' h1 h2=>⟨A,c,rfl,h1,h2⟩;unfold Ek at ka;clear h;generalize Ek IS w=POST at*;generalize r.g.gb=gb at*;generalize r.rb=rb at*;go_enter func13,ntmps13;go_wp2_with (go_at_call 45;(with_reducible refine (ka.out).mono ?_);rintro _ w1 ⟨A5,c5,rfl,o5,f5⟩;(have hd:=lh (hfin.out A5 c5 w1 o5 f5)));exact hd.out
end Oq
section
open Go.RowKit Go.Maps Go.WideElems
open Go.ChangeMaps (modify_eq_set)
namespace Oq
abbrev FkG (f:Int × Int):Value:=.agg #[.int .i64 f.1,.int .i64 f.2]
def LeastAt (w:World) (b m:Nat) (f:Int->Option Int):Prop:=
 ∃(n:Nat) (D:DataW Nat),w.ownsMap zp 3 (plainElem zp 3) b n D/\n<=m/\IsMap D/\∀x,has D (.int .i64 x)=(f x).isSome/\∀i,f x=some i->∀z,D.atKey (.int .i64 x) z=.lit (.int .i64 i)
theorem LeastAt.fr {S:Nat->Prop} {w w':World} {b m:Nat} {f:Int->Option Int} (h:LeastAt w b m f) (hf:Fr S w w') (hb:¬S b):LeastAt w' b m f:=by
 obtain ⟨n,D,ho,hn,rest⟩:=h;obtain ⟨es,clock,hbl,r2⟩:=ho;exact ⟨n,D,⟨es,clock,(hf.block b (Array.getElem?_eq_some_iff.1 hbl).1 hb).trans hbl,r2⟩,hn,rest⟩
end Oq
end
namespace Oq
attribute [local go_sem] A63 A64
end Oq
end Go.Proofs.YtmcpnjoomlgmlaaGreatDoor
namespace Go.Proofs
open Go.Shelf Go.RowKit Go.Lib Go.Sort
end Go.Proofs
namespace Go.Proofs.YtmcpnjoomlgmlaaGreatDoor
open Go.RowKit
attribute [local go_sem ↓] Go.wp_at_zero Go.wp_at_succ
section
open Go.RowKit Go.Sort Go.Shelf
namespace Oq
end Oq
end
section
open Go.RowKit Go.Maps
namespace Oq
attribute [local go_sem] A63 A64
theorem Va (p v:Value):Instr.storeAt 45 p v=stS 45 p v:=rfl
attribute [local go_sem ↓] Va
theorem Aw9:(zp.info? 45).map (·.size)=some 3:=by kernel_rfl
theorem one3 (a b:Int) (u:Nat):(#[.int .i64 a,.int .i64 b,.int .u64 (u:Int)]:Array Value).all (·.oneCell')=true:=by simp [Value.oneCell']
def RF (f:Int->Option Int) (left:Lit->Bool) (xs:List (Int × Int)):Prop:=(xs.map Prod.fst).Nodup/\∀d i,(d,i)∈xs<->(f d=some i/\left (.int .i64 d)=false)
theorem RF.few {f:Int->Option Int} {left:Lit->Bool} {xs:List (Int × Int)} (h:RF f left xs) (hd:∀d i,f d=some i->1<=d/\d<=12):xs.length<=12:=by
 have hs:∀d∈xs.map Prod.fst,d∈(List.range 12).map (fun (i:Nat)=>(i:Int)+1):=by
  intro d hm;obtain ⟨⟨d',i⟩,h1,rfl⟩:=List.mem_map.1 hm;have h2:=hd d' i ((h.2 d' i).1 h1).1;exact List.mem_map.2 ⟨(d'-1).toNat,List.mem_range.2 (by omega),by omega⟩
 have:=Fp h.1 hs;simpa using this
end Oq
end
namespace Oq
attribute [local go_sem] A63 A64
attribute [local go_sem ↓] Gi Bq Lk Va Uw
theorem Vb (base B n c:Nat) (A:Option Addr) (r:FG) (x:OpL) (hs:List Nat) (w:World) (h:r.own w base) (hx:x.lies w base) (hb:base<=w.heap.size) (hok:x.op.ok) (hp:x.pastA=none/\x.pastC=0/\x.past=[]) (hdev:∃d:Nat,x.by_=(d:Int)/\d<=1000) (hat:0<=x.at_/\x.at_<=3)
    (hn:Hid (hs.length=n)) (hr:Rd w B 1 A n (hs.map Qv)) (hn3:n<=3) (hlt:∀p∈hs,p<r.l.length) (hin:plc r.l (Bs r.l x.op hs).name=none->Au r.cards r.l (sgn (Bs r.l x.op hs))=0/\FkB (r.l++[Az r.l (sgn (Bs r.l x.op hs))])):
    Calls zp 32 #[.agg r.cells,.agg x.cells,.slice A n c] w (Hf base r x.op hs w):=by
  have en:=h.num.few;have hl:=Be (P:=zp) w.heap.size 28 underlying28 rfl (cs:=r.cells) Dg
  have s0:Cc w (((w.alloc (.cells r.cells 28)).alloc (.cells x.cells 52)).alloc (.cells #[.slice none 0 0,.slice none 0 0,.slice none 0 0,.slice none 0 0] 28)) r.cells x x.sq x.at_ none 0 0 []:=by
    have f0:Fr Non w (((w.alloc (.cells r.cells 28)).alloc (.cells x.cells 52)).alloc (.cells #[.slice none 0 0,.slice none 0 0,.slice none 0 0,.slice none 0 0] 28)):=(((Fr.refl Non w).alloc _).alloc _).alloc _;have b1:=(Blk.new (w.alloc (.cells r.cells 28)) 52 x.cells).alloc (.cells #[.slice none 0 0,.slice none 0 0,.slice none 0 0,.slice none 0 0] 28);have b2:=Blk.new ((w.alloc (.cells r.cells 28)).alloc (.cells x.cells 52)) 28 #[.slice none 0 0,.slice none 0 0,.slice none 0 0,.slice none 0 0];rw [A69] at b1;rw [A69,A69] at b2
    have ex:x.put x.sq x.at_ none 0 []=x:=by
      obtain ⟨h1,h2,h3⟩:=hp;unfold OpL.put;rw [<- h1,<- h2,<- h3]
    refine ⟨((Blk.new w 28 r.cells).alloc _).alloc _,by rw [ex];exact b1,b2,f0,by simp only [A69];omega,Own.nil _ _ _ _,rfl⟩
  have kb:=lh (fun (v:World) (hf:Fr Non w v)=>Uq base B n c r A hs v (h.non hf) hn (hr.fr hf zr) (by omega) hlt)
  have ag:Hid (∀p,p<r.l.length->∃(m:Pn) (b ab:Nat),r.l[p]? =some m/\r.lA=some ⟨b,ab,none⟩/\cI w b (ab+p*27) m.o.by_/\cI w b (ab+p*27+1) m.o.sq/\cI w b (ab+p*27+3) m.o.at_):=by
    intro i hi;obtain ⟨y,b,ab,_,h1,_,h3,_,h4⟩:=h.xAt (A61 hi);exact ⟨_,b,ab,A61 hi,h3,by rw [<- h1];exact h4 0 (by omega) _ rfl,by rw [<- h1];exact h4 1 (by omega) _ rfl,by rw [<- h1];exact h4 3 (by omega) _ rfl⟩
  have al:Hid (∀p,p<r.l.length->∃(m:Pn) (b ab:Nat),r.l[p]? =some m/\r.iA=some ⟨b,ab,none⟩/\cI w b (ab+p*3) m.id.b/\cI w b (ab+p*3+1) m.id.s/\cU w b (ab+p*3+2) m.id.u):=fun p hp=>h.idAt hp;have b5:Hid (∀m∈r.l,1<=m.o.sq/\m.o.sq<=14):=fun m hm=>⟨h.num.s1 m hm,by have:=h.num.sq m hm;omega⟩;have bt:Hid (∀m∈r.l,m.o.at_<=42):=fun m hm=>by have:=h.num.at_ m hm;omega
  have bo:Hid (∀ys k p m,ys[k]? =some p->r.l[p]? =some m->Cx r.l x.by_ ys (k+1)=if m.o.by_=x.by_ then max (Cx r.l x.by_ ys k) (m.o.sq+1) else Cx r.l x.by_ ys k):=fun ys k p m h1 h2=>Ur h1 h2;have es:Hid (∀ys k,1<=Cx r.l x.by_ ys k/\Cx r.l x.by_ ys k<=15):=fun ys k=>⟨Ot _ _ _ _,Oo (by omega) (fun p hp m hm _=>by have:=(b5.out m (A66 hm)).2;omega) k⟩;have fc:Hid (∀ys,Cx r.l x.by_ ys 0=1):=fun _=>rfl;replace hlt:=lh hlt;go_enter func32,ntmps32;go_upto_region 1 with (fail)
  generalize ((w.alloc (.cells r.cells 28)).alloc (.cells x.cells 52)).alloc (.cells #[.slice none 0 0,.slice none 0 0,.slice none 0 0,.slice none 0 0] 28)=w0 at*;have z1:cI w0 (w.heap.size+1) 1 x.sq:=s0.b.cell 1;have z2:=s0.b.frozen 1;go_upto_region 2 with (fail)
  have s1:=s0.sq 1;generalize w0.setCell ⟨w.heap.size+1,1,none⟩ (.int .i64 1)=w1 at*;clear s0 z1 z2;have bg:=s1.g;have cq:=s1.sz;go_upto_region 3 with (go_at_call 47;(with_reducible refine (kb.out _ s1.f).mono ?_);rintro _ w2 ⟨ys,A7,c7,rfl,cd,cb,ac,f2⟩)
  replace ac:=He ac cq;have s2:=s1.non f2;clear s1 bg kb f2 cq;replace cd:=lh cd;replace cb:=lh cb;have g1:Hid (r.cells[1]? =some (.slice r.lA r.l.length r.lC)):=rfl;have g2:Hid (r.cells[2]? =some (.slice r.iA r.l.length r.iC)):=rfl;have g3:Hid (r.cells[3]? =some (.slice r.pA r.l.length r.pC)):=rfl;have a6:=lh (bo.out ys);have bs:=lh (es.out ys);have cj:=lh (fc.out ys)
  have dn:ys.length<=14:=by
    have:=Fp cd.out.1 (ys:=List.range r.l.length) (fun q hq=>List.mem_range.2 (cb.out q hq));simp at this;omega
  clear bo es fc;generalize hSQ:Cx r.l x.by_ ys=SQ at*;obtain ⟨M,hM⟩:=Ab ys.length;rw [hM.out] at ac dn ⊢;obtain ⟨N,hN⟩:=Ab r.l.length;rw [hN.out] at g1 g2 g3 ag al en hlt cb;obtain ⟨LA,dg⟩:=Ab r.lA;rw [dg.out] at g1 ag;obtain ⟨IA,c4⟩:=Ab r.iA;rw [c4.out] at g2 al;obtain ⟨LC,ei⟩:=Ab r.lC;rw [ei.out] at g1;obtain ⟨IC,d9⟩:=Ab r.iC;rw [d9.out] at g2;go_wp2_with fail
  go_loopw [8] (fun v wr=>∃k:Nat,v=.int .i64 (k:Int)/\k<=M/\Cc w wr r.cells x (SQ k) x.at_ none 0 0 []/\Own wr (w.heap.size+3) 3 1 A7 M c7 (ys.map Qv)) (fun v _=>M-(intOf v).toNat)
  case atStart=>exact ⟨0,rfl,A74 _,by rw [cj.out];exact s2,ac⟩
  case round=>
    obtain ⟨k,rfl,hk,s3,ar⟩:=hrel;clear s2 ac
    by_cases hkM:k<M
    · obtain ⟨p,cn⟩:∃p,ys[k]? =some p:=⟨_,A61 (by rw [hM.out];exact hkM)⟩
      have di:=cb.out p (A66 cn);obtain ⟨m,b,ab,hm,rfl,c0,c1,c3⟩:=ag.out p di;obtain ⟨b7,o7,u7,rfl,_,de,d7⟩:=ar.rd.at hkM;rw [A70,cn] at de;injection de with de
      subst de;replace d7:cI wr b7 (o7+k) (p:Int):=d7;have dj:=lh (a6.out k p m cn hm);have ft:=bs.out k;have fq:=b5.out m (A66 hm);obtain ⟨i1,i2,i3⟩:=ix k M
      obtain ⟨p1,p2,p3⟩:=ix p N
      have t0:decide ((k:Int)<M)=true:=decide_eq_true i2;have em:decide (k<M)=true:=decide_eq_true hkM;have e1:=iw ((k:Int)+1);have e2:=iw (m.o.sq+1);go_upto_region 6 with (fail)
      have F0:Fr Non wr wr.drew:=(Fr.refl Non wr).drew;have f3:Fr Non w wr.drew:=s3.f.trans F0 zr;have H0:cS wr.drew w.heap.size 1 (some ⟨b,ab,none⟩) N LC:=(s3.g.cell 1).trans g1.out;have D0:cI wr.drew b7 (o7+k) (p:Int):=d7;have E0:cI wr.drew b (ab+p*27) m.o.by_:=f3.cell c0 zq;have X0:cI wr.drew (w.heap.size+1) 0 x.by_:=s3.b.cell 0;refine wp_region_held_drew (S:=fun w'=>cS w' w.heap.size 1 (some ⟨b,ab,none⟩) N LC/\cI w' b7 (o7+k) (p:Int)/\cI w' b (ab+p*27) m.o.by_/\cI w' (w.heap.size+1) 0 x.by_) (by kernel_rfl) ⟨H0,D0,E0,X0⟩ (fun uu=> ?_);refine tkN 0 12 uu (h:=?_);clear uu;refine oD ?_;go_simp;have s4:=s3.non F0;have af:=ar.drew;have fh:=f3.cell c1 zq;generalize wr.drew=w4 at*;clear H0 E0 X0 c0 c3 s3 ar f3 d7 ag al
      by_cases hby:m.o.by_=x.by_
      · rw [if_pos hby] at dj
        have t1:(m.o.by_==x.by_)=true:=beq_iff_eq.2 hby;clear cn hm;go_upto_region 7 with (fail)
        have H0:cS w4.drew w.heap.size 1 (some ⟨b,ab,none⟩) N LC:=(s4.g.cell 1).trans g1.out;replace D0:cI w4.drew b7 (o7+k) (p:Int):=D0;have E0:cI w4.drew b (ab+p*27+1) m.o.sq:=fh;have X0:cI w4.drew (w.heap.size+1) 1 (SQ k):=s4.b.cell 1;refine Cv (S:=fun w'=>cS w' w.heap.size 1 (some ⟨b,ab,none⟩) N LC/\cI w' b7 (o7+k) (p:Int)/\cI w' b (ab+p*27+1) m.o.sq/\cI w' (w.heap.size+1) 1 (SQ k)) 14 (by kernel_rfl) ?_;refine tkM 0 14 ⟨H0,D0,E0,X0⟩ (h:=?_);have nz:=s4.b.frozen 1;refine Cp (by kernel_rfl) ?_;refine stT 14 (h:=?_);refine oD ?_;go_simp;have s5:=(s4.sq (max (SQ k) (m.o.sq+1))).non (Fr.refl Non _).drew;have bh:=(Own.setFar (i:=1) af s4.b (by decide) (.int .i64 (max (SQ k) (m.o.sq+1)))).drew;clear nz H0 D0 E0 X0 s4 af fh;generalize (w4.setCell ⟨w.heap.size+1,1,none⟩ (.int .i64 (max (SQ k) (m.o.sq+1)))).drew=w5 at*;go_wp2_with fail;go_roundw
        case rel=>exact ⟨k+1,by go_num,by omega,by rw [dj.out];exact s5,bh⟩
        case measure=>simp [intOf];omega
      · rw [if_neg hby] at dj
        have t1:(m.o.by_==x.by_)=false:=beq_eq_false_iff_ne.2 hby;clear cn hm;go_wp2_with fail;go_roundw
        case rel=>exact ⟨k+1,by go_num,by omega,by rw [dj.out];exact s4,af⟩
        case measure=>simp [intOf];omega
    · obtain rfl:k=M:=by omega
      have t0:decide ((k:Int)<k)=false:=decide_eq_false (by omega);have em:decide (k<k)=false:=decide_eq_false (by omega)
      have dx:Hid (SQ k=Bc r.l (Ak r.l (hs.map (nmP r.l))) x.by_ r.l.length+1):=by
        show _=_;rw [<- hSQ,<- hM.out];exact Av1 h.rows (by rw [hN.out];omega) cd.out (by intro p hp;rw [hN.out];exact hlt.out p hp) _
      have ey:=bs.out k;obtain ⟨S,hS⟩:=Ab (SQ k);rw [hS.out] at dx ey s3;clear a6 bs cj hSQ;clear hS;have bj:Hid (late r.l ((hs.take 0).map (nmP r.l))=0):=rfl
      have be:Hid (∀k p m,hs[k]? =some p->r.l[p]? =some m->late r.l ((hs.take (k+1)).map (nmP r.l))=max (late r.l ((hs.take k).map (nmP r.l))) m.o.at_):=by
        intro k p m hp hm;have h1:(hs.map (nmP r.l))[k]? =some (nmP r.l p):=by rw [A70,hp];rfl
        have h2:=Sn r.l (hs.map (nmP r.l)) k h1;rw [List.map_take,List.map_take];rw [h2,Gh hm,Iu (h.rows.ok p m hm).plc hm]
      have a8:Hid (∀k p m,hs[k]? =some p->r.l[p]? =some m->(hs.take (k+1)).map (nmP r.l)=(hs.take k).map (nmP r.l)++[m.id]):=fun k p m hp hm=>by rw [Df hp,List.map_append,List.map_cons,List.map_nil,Gh hm]
      have aw:Hid (∀k,0<=late r.l ((hs.take k).map (nmP r.l))/\late r.l ((hs.take k).map (nmP r.l))<=42):=fun k=>⟨Ul _ _,Sp r.l 42 (by omega) bt.out _⟩;have a7:Hid ((hs.take 0).map (nmP r.l)=[]):=rfl;have av:Hid (late r.l ((hs.take n).map (nmP r.l))=late r.l (hs.map (nmP r.l))):=by show _=_;rw [<- hn.out,A75]
      have ba:Hid ((hs.take n).map (nmP r.l)=hs.map (nmP r.l)):=by show _=_;rw [<- hn.out,A75]
      have ec:Hid (∀k,((hs.take k).map (nmP r.l)).length<=k):=fun k=>by rw [A68,List.length_take];omega
      obtain ⟨LT,cg⟩:∃LT:Nat->Int,Hid (∀k,LT k=late r.l ((hs.take k).map (nmP r.l))):=⟨_,fun _=>rfl⟩;obtain ⟨NM,cw⟩:∃NM:Nat->List Id,Hid (∀k,NM k=(hs.take k).map (nmP r.l)):=⟨_,fun _=>rfl⟩;replace aw:Hid (∀k,0<=LT k/\LT k<=42):=fun k=>by rw [cg.out];exact aw.out k
      replace be:Hid (∀k p m,hs[k]? =some p->r.l[p]? =some m->LT (k+1)=max (LT k) m.o.at_):=fun k p m h1 h2=>by rw [cg.out,cg.out];exact be.out k p m h1 h2
      replace a8:Hid (∀k p m,hs[k]? =some p->r.l[p]? =some m->NM (k+1)=NM k++[m.id]):=fun k p m h1 h2=>by rw [cw.out,cw.out];exact a8.out k p m h1 h2
      replace a7:Hid (NM 0=[]):=(cw.out 0).trans a7.out;replace bj:Hid (LT 0=0):=(cg.out 0).trans bj.out;replace av:Hid (LT n=late r.l (hs.map (nmP r.l))):=(cg.out n).trans av.out;replace ba:Hid (NM n=hs.map (nmP r.l)):=(cw.out n).trans ba.out;clear cg cw ec;generalize wr=wb at*;go_wp2_with fail
      go_loopw [9,10] (fun t v wr=>∃(j:Nat) (Ap:Option Addr) (cp:Nat),v=.int .i64 (j:Int)/\t=.int .i64 (LT j)/\j<=n/\Cc w wr r.cells x S x.at_ Ap j cp (NM j)/\Own wr (w.heap.size+3) 3 1 A7 k c7 (ys.map Qv)) (fun _ v _=>n-(intOf v).toNat)
      case atStart=>exact ⟨0,none,0,rfl,by rw [bj.out],A74 _,by rw [a7.out];exact s3,ar⟩
      case round=>
        obtain ⟨j,Ap,cp,rfl,rfl,hj,s4,af⟩:=hrel;clear s3 ar
        by_cases hjn:j<n
        · obtain ⟨p,cc⟩:∃p,hs[j]? =some p:=⟨_,A61 (by rw [hn.out];exact hjn)⟩
          have di:=hlt.out p (A66 cc);obtain ⟨m,b,ab,hm,rfl,c0,c1,c3⟩:=ag.out p di;obtain ⟨m',bi,oi,dh,rfl,d0,d1,d2⟩:=al.out p di;obtain rfl:m'=m:=by rw [hm] at dh;injection dh with dh;exact dh.symm
          obtain ⟨b4,o4,u4,rfl,_,dk,ci⟩:=hr.at hjn;rw [A70,cc] at dk;injection dk with dk
          subst dk;replace ci:cI w b4 (o4+j) (p:Int):=ci;have d7:=s4.f.cell ci zq;have fw:=lh (be.out j p m' cc hm);have ev:=lh (a8.out j p m' cc hm);have dw:=aw.out j;have fq:=bt.out m' (A66 hm);obtain ⟨i1,i2,i3⟩:=ix j n
          obtain ⟨p1,p2,p3⟩:=ix p N
          have t0:decide ((j:Int)<n)=true:=decide_eq_true i2;have em:decide (j<n)=true:=decide_eq_true hjn;have e1:=iw ((j:Int)+1);have f4:=s4.f;have c2:=s4.past.row;have e4:=s4.sz;have d6:=lh cc;clear cc hm c0 c1;go_upto_region 12 with (fail)
          have F0:Fr Non wr wr.drew:=(Fr.refl Non wr).drew;have Hb:cS wr w.heap.size 2 (some ⟨bi,oi,none⟩) N IC:=(s4.g.cell 2).trans g2.out;have Db:cI wr b4 (o4+j) (p:Int):=d7;obtain ⟨Ib,Jb,Kb⟩:=zk3 f4 d0 d1 d2;have Pb:wr.cell? ⟨w.heap.size+1,4,none⟩=some (.slice Ap j cp):=by have h9:=s4.b.cell 4;have h8:=s4.len;rw [<- h8];exact h9
          have H0:cS wr.drew w.heap.size 2 (some ⟨bi,oi,none⟩) N IC:=Hb;have D0:cI wr.drew b4 (o4+j) (p:Int):=Db;have I0:cI wr.drew bi (oi+p*3) m'.id.b:=Ib;have J0:cI wr.drew bi (oi+p*3+1) m'.id.s:=Jb;have K0:cU wr.drew bi (oi+p*3+2) m'.id.u:=Kb;have P0:cS wr.drew (w.heap.size+1) 4 Ap j cp:=Pb;clear d7 al ag;refine Cv (S:=fun w'=>cS w' w.heap.size 2 (some ⟨bi,oi,none⟩) N IC/\cI w' b4 (o4+j) (p:Int)/\cI w' bi (oi+p*3) m'.id.b/\cI w' bi (oi+p*3+1) m'.id.s/\cU w' bi (oi+p*3+2) m'.id.u/\cS w' (w.heap.size+1) 4 Ap j cp) 13 (by kernel_rfl) ?_;refine tkM 0 10 ⟨H0,D0,I0,J0,K0,P0⟩ (h:=?_);refine Bo 10 (by kernel_rfl) rfl (fun K hK=> ?_);go_simp;have az:=(Blk.new wr 45 m'.id.V).drew;have F1:Fr Non wr (wr.alloc (.cells m'.id.V 45)).drew:=((Fr.refl _ _).alloc _).drew;generalize (wr.alloc (.cells m'.id.V 45)).drew=v1 at*;obtain ⟨H1,D1,I1,J1,K1,P1⟩:=zk6 F1 Hb Db Ib Jb Kb Pb;refine hK.out _ _ ⟨H1,D1,I1,J1,K1,P1⟩ (fun hZ=> ?_);clear hZ hK K;try simp only [Ah,zl]
          have s5:=s4.non F1;refine Bo 11 (by kernel_rfl) rfl (fun K hK=> ?_);refine Du (base:=w.heap.size+3) (.tmp 55) (.tmp 64) 25 rfl rfl rfl Ds s5.past (Rd.blk (n:=1) (size:=3) az rfl) (by simp [Value.oneCell']) (by omega) (by omega) (A59 e4 F1.size) ?_;intro A8 c8 v2 ay bp ep;have fS:∀q,Ad Ap=some q->w.heap.size+3<=q:=fun q e=>(c2 q e).1;have f8:Fr Non w v2:=s5.f.trans bp (fun q hq e=>by have h9:=fS q e;omega);have H2:=(s5.g.fr bp (fun e=>by have h9:=fS _ e;omega)).cell 2|>.trans g2.out;obtain ⟨D2,I2,J2,K2⟩:=zk4 f8 ci d0 d1 d2;have P2:v2.cell? ⟨w.heap.size+1,4,none⟩=some (.slice Ap j cp):=by have h9:=(s5.b.fr bp (fun e=>by have h9:=fS _ e;omega)).cell 4;have h8:=s5.len;rw [<- h8];exact h9
          refine hK.out _ _ ⟨H2,D2,I2,J2,K2,P2⟩ (fun uu=> ?_);clear hK K;try simp only [Ah,zl]
          refine tkM 12 1 uu (h:=?_);clear uu;have nz:=(s5.b.fr bp (fun e=>by have h9:=fS _ e;omega)).frozen 4;refine Cp (by kernel_rfl) ?_;refine stT 13 (h:=?_);refine oD ?_;go_simp
          have cr:Own v2 (w.heap.size+3) 45 3 A8 (j+1) c8 ((NM (j+1)).flatMap Id.cells):=by
            rw [ev.out,List.flatMap_append];exact ay
          have s6:=s5.past! bp fS cr (by rw [ev.out,A67,s5.len];rfl);have a3:=Own.setFar (i:=4) (Own.grow2 (af.fr F1 zr) s5.past (by decide) bp) (s5.b.fr bp (fun e=>by have h9:=fS _ e;omega)) (by decide) (.slice A8 (j+1) c8);clear s5 s4 af ay cr bp ep az F0 F1 f8 f4 fS c2 nz Hb Db Ib Jb Kb Pb H0 D0 I0 J0 K0 P0 H1 D1 I1 J1 K1 P1 H2 D2 I2 J2 K2 P2 d0 d1 d2 ci e4;generalize v2.setCell ⟨w.heap.size+1,4,none⟩ (.slice A8 (j+1) c8)=v6 at*;go_upto_region 13 with (fail)
          have F0:Fr Non v6 v6.drew:=(Fr.refl Non v6).drew;have f6:=s6.f;obtain ⟨b8,o8,u8,e8,_,dd,d7⟩:=(hr.fr f6 zr).at hjn;injection e8 with e8
          injection e8 with e8 e9
          subst e8;subst e9;rw [A70,d6.out] at dd;injection dd with dd
          subst dd;have H0:cS v6.drew w.heap.size 1 (some ⟨b,ab,none⟩) N LC:=(s6.g.cell 1).trans g1.out;have D0:cI v6.drew b4 (o4+j) (p:Int):=d7;have E0:cI v6.drew b (ab+p*27+3) m'.o.at_:=f6.cell c3 zq;refine wp_region_held_drew (S:=fun w'=>cS w' w.heap.size 1 (some ⟨b,ab,none⟩) N LC/\cI w' b4 (o4+j) (p:Int)/\cI w' b (ab+p*27+3) m'.o.at_) (by kernel_rfl) ⟨H0,D0,E0⟩ (fun uu=> ?_);refine tkN 0 12 uu (h:=?_);clear uu;refine oD ?_;go_simp;have s7:=s6.non F0;have ac:=a3.drew;clear s6 a3 F0 f6 H0 D0 E0 c3 d7;generalize v6.drew=v7 at*;go_wp2_with fail;go_roundw
          case rel=>exact ⟨j+1,A8,c8,by go_num,by rw [fw.out],by omega,s7,ac⟩
          case measure=>simp [intOf];omega
        · obtain rfl:j=n:=by omega
          have t0:decide ((j:Int)<j)=false:=decide_eq_false (by omega);have em:decide (j<j)=false:=decide_eq_false (by omega);clear be a8 a7 bj ag al;have dw:=aw.out j;obtain ⟨T,hT⟩:=Ab (LT j);rw [hT.out] at av dw ⊢;rw [ba.out] at s4;have e1:=iw (x.at_+T);have z3:cI wr (w.heap.size+1) 3 x.at_:=s4.b.cell 3;have zf:=s4.b.frozen 3;go_upto_region 15 with (fail)
          have s5:=s4.at_ (x.at_+T);have bh:=Own.setFar (i:=3) af s4.b (by decide) (.int .i64 (x.at_+T));clear s4 af z3 zf aw ba hT;generalize wr.setCell ⟨w.heap.size+1,3,none⟩ (.int .i64 (x.at_+T))=v1 at*;have bf:Hid ((hs.map (nmP r.l)).length=j):=by show _=_;rw [A68,hn.out]
          have ks:=lh (Q4 v1.heap.size j cp Ap (hs.map (nmP r.l)) v1 bf.out s5.past.rd (by omega));have z4:v1.cell? ⟨w.heap.size+1,4,none⟩=some (.slice Ap j cp):=by have h9:=s5.b.cell 4;have h8:=s5.len;rw [<- h8];exact h9
          have b1:=s5.b;have df:=s5.sz;go_upto_region 16 with (go_at_call 14;(with_reducible refine (ks.out).mono ?_);rintro _ v2 ⟨A9,c9,rfl,o9,f9⟩;(have z5:=f9.cell z4 zq);(have zf:=(b1.fr f9 zq).frozen 4))
          have s6:=s5.past! f9 (fun _ e=>e.elim) (He o9 df) (by rw [I7];exact bf.out);have a3:=Own.setFar (i:=4) (bh.fr f9 zr) (b1.fr f9 zq) (by decide) (.slice A9 j c9);clear s5 bh ks z4 b1 df z5 zf o9 f9;generalize v2.setCell ⟨w.heap.size+1,4,none⟩ (.slice A9 j c9)=v3 at*
          have c5:Hid ((x.put S (x.at_+T) A9 c9 (Ba (hs.map (nmP r.l)))).op=Bs r.l x.op hs):=by
            show _=_;unfold Bs;show _=({x.op with sq:=Bc r.l (Ak r.l (hs.map (nmP r.l))) x.by_ r.l.length+1,at_:=x.at_+late r.l (hs.map (nmP r.l)),past:=Ba (hs.map (nmP r.l))}:Op);rw [<- dx.out,<- av.out];rfl
          have bl:Hid ((x.put S (x.at_+T) A9 c9 (Ba (hs.map (nmP r.l)))).op.ok):={hok with sq:=(show I64 S from ⟨by omega,by omega⟩),at_:=(show I64 (x.at_+T) from ⟨by omega,by omega⟩),past:=⟨by
              show (Ba (hs.map (nmP r.l))).length<=1000;rw [I7,bf.out];omega,fun y hy=>by
              obtain ⟨p,hp,rfl⟩:=List.mem_map.1 ((Dt _).mem_iff.1 hy);have ew:p<r.l.length:=by rw [hN.out];exact hlt.out p hp
              rw [Gh (A61 ew)];exact (h.ok _ (A76 ew)).2⟩}
          generalize hPS:hs.map (nmP r.l)=PS at*;have bk:Hid (∀(v:World) (CS:Array Value),Cc w v CS x S (x.at_+T) A9 j c9 (Ba PS)->(x.put S (x.at_+T) A9 c9 (Ba PS)).lies v base):=fun v _ s=>(hx.non s.f).put (by have h8:=s.len;have h9:=(RowAt.of_own s.past).lies.lower (base':=base) (by omega);rw [h8];exact h9);generalize hY:x.put S (x.at_+T) A9 c9 (Ba PS)=Y at*;obtain ⟨aa,aj⟩:=Ab (Bs r.l x.op hs).name;have dt:Y.op.name=aa:=by rw [c5.out,aj.out]
          have eu:=lh (As4 Y aa dt v3 ((bk.out v3 _ s6).at) bl.out);have b0:(zp.info? 52).map (·.size)=some Y.cells.size:=by rw [show Y.cells.size=27 from rfl];kernel_rfl
          have er:=Be (P:=zp) (w.heap.size+1) 52 underlying52 rfl (cs:=Y.cells) b0;have bx:Blk v3 (w.heap.size+1) 52 Y.cells:=hY▸s6.b;go_upto_region 17 with (go_at_call 79;(with_reducible refine (eu.out).mono ?_);rintro _ v4 ⟨rfl,f4⟩;(have d8:=Cf (P:=zp) v4.heap.size 45 (cs:=aa.V) Aw9 (old:=#[.int .i64 0,.int .i64 0,.int .u64 0]) rfl (one3 _ _ _));(have bn:=Blk.new v4 45 #[.int .i64 0,.int .i64 0,.int .u64 0]))
          have bz:=bn.setRow (cs:=aa.V);have fz:Fr Non v4 ((v4.alloc (.cells #[.int .i64 0,.int .i64 0,.int .u64 0] 45)).setRow v4.heap.size aa.V):=((Fr.refl Non v4).alloc _).setRow (fun hh=>absurd hh (by omega)) _;have s7:=(s6.non f4).non fz;have ac:=(a3.fr f4 zr).fr fz zr;have da:w.heap.size+3<=v4.heap.size:=A59 s6.sz f4.size;obtain ⟨gi,fj⟩:=Ab v4.heap.size;rw [fj.out] at bz fz s7 ac da ⊢;clear d8 bn bx eu f4 s6 a3;generalize (v4.alloc (.cells #[.int .i64 0,.int .i64 0,.int .u64 0] 45)).setRow gi aa.V=v5 at*;clear fz;have a0:=bz.cell 0;have a1:=bz.cell 1;have a2:=bz.cell 2;have fk:=(s7.g.cell 2).trans g2.out;have dc:=lh (h.rdIds.fr s7.f zr);rw [hN.out,c4.out] at dc;have bv:=lh (Qu w.heap.size N IC IA r.ids aa v5 (by show _=_;rw [FG.ids_len,hN.out]) dc.out (by omega));have fg:Bd r.ids aa=(plc r.l aa).isSome:=Av2 r.l aa;rw [fg] at bv;clear fg;unfold Ae at bv
          cases hc:(plc r.l aa).isSome
          case true=>
            rw [hc] at bv
            have e6:En r.l x.op hs=r.l:=by
              unfold En;rw [aj.out,if_pos hc]
            have fs:=Cf (P:=zp) (w.heap.size+2) 28 (cs:=r.cells) Dg (old:=#[.slice none 0 0,.slice none 0 0,.slice none 0 0,.slice none 0 0]) rfl (Ic r);have cz:Hid (∀v',Fr Non w v'->Hf base r x.op hs w (.returned (.agg r.cells)) v'):=fun v' hv=>⟨r,rfl,hv,h.non hv,rfl,e6.symm⟩;clear e6 hin hx h er b0 c5 bl bk dt dc ac
            as_aux_lemma=>
            go_wp2_with (go_at_call 30;(with_reducible refine (bv.out).mono ?_);rintro _ v6 ⟨rfl,f6⟩;(have s8:=s7.non f6);(have bg:=s8.g);(have br:=s8.r));have ee:=br.setRow (cs:=r.cells);have fz:=s8.f.setRow (g:=w.heap.size+2) (fun hh=>absurd hh (by omega)) r.cells;have dv:=lh (cz.out _ fz)
            (try simp only [Exit.inBlock,Exit.then])
            refine Ed (t:=28) rfl rfl ee rfl underlying28 Dg rfl ?_;exact dv.out
          case false=>
            rw [hc] at bv
            have bm:plc r.l (Bs r.l x.op hs).name=none:=by
              rw [aj.out]
              cases hq:plc r.l aa with
              |none=>rfl
              |some q=>rw [hq] at hc;cases hc
            obtain ⟨cv,e3⟩:=hin bm;obtain ⟨d,fi,fm⟩:=hdev;have fo:Y.by_=(d:Int):=by rw [<- hY];exact fi
            have kS:=lh (fun (v:World) (hl:Y.lies v base)=>Av0 Y d base v fo fm hl bl.out)
            have bc:Hid (∀(z:OpL) (lA iA pA:Option Addr) (lC iC pC:Nat) (wz:World),Fr Non w wz->z.op=sgn Y.op->z.lies wz base->
                Own wz (w.heap.size+3) 52 27 lA (N+1) lC (r.xs.flatMap (fun x=>x.cells.toList)++z.cells.toList)->
                Own wz (w.heap.size+3) 45 3 iA (N+1) iC (r.ids.flatMap Id.cells++aa.V.toList)->
                Own wz (w.heap.size+3) 22 1 pA (N+1) pC (r.ps.map UpL.cell++[.slice A7 k c7])->
                Own wz (w.heap.size+3) 3 1 A7 k c7 (ys.map Qv)->
                Hf base r x.op hs w (.returned (.agg #[.slice r.cA r.cards.length r.cC,.slice lA (N+1) lC,.slice iA (N+1) iC,.slice pA (N+1) pC])) wz):=by
              intro z lA iA pA lC iC pC wz hf hz dl oL oI oU o7;refine Av6 h hb hf (by rw [hz,c5.out]) dl (by rw [<- c5.out];exact bl.out) cd.out (by intro p hp;rw [hN.out];exact hlt.out p hp) (by rw [aj.out];exact hc) cv e3 hN.out hM.out oL (by rw [aj.out];exact oI) oU o7
            have dq:=lh (h.ops.sl.rd);rw [hN.out,dg.out] at dq;have ek:=lh h.rdIds;rw [hN.out,c4.out] at ek;have ds:=lh (h.pasts.sl.rd);rw [hN.out] at ds;have cx:=lh (Uy r.xs);have b9:=lh (Id.cells_one r.ids);have d5:=lh (Av5 r.ps);have g0:Hid (r.cells[0]? =some (.slice r.cA r.cards.length r.cC)):=rfl
            have ff:Hid (r.cells=#[.slice r.cA r.cards.length r.cC,.slice LA N LC,.slice IA N IC,.slice r.pA N r.pC]):=by
              show _=_;unfold FG.cells;rw [hN.out,dg.out,ei.out,c4.out,d9.out]
            clear cv e3 hin hx h b0 c5 bm aj dt dc dg ei c4 d9 dx dw av bf hPS hlt cd cb b5 bt hn hr hp hM hok ey;rw [ff.out] at s7 hl g1 g2 g3 g0;obtain ⟨CA,ea⟩:=Ab r.cA;obtain ⟨nc,dz⟩:=Ab r.cards.length;obtain ⟨CC,el⟩:=Ab r.cC;obtain ⟨PA,eh⟩:=Ab r.pA;obtain ⟨PC,fa⟩:=Ab r.pC;rw [ea.out,dz.out,el.out,eh.out,fa.out] at s7 hl g1 g2 g3 g0;rw [ea.out,dz.out,el.out] at bc;rw [eh.out] at ds;clear ff ea dz el eh fa;generalize Hf base r x.op hs w=POST at*;generalize r.xs.flatMap (fun x=>x.cells.toList)=LL at*;generalize r.ids.flatMap Id.cells=IL at*;generalize r.ps.map UpL.cell=UL at*;go_upto_region 19 with (go_at_call 30;(with_reducible refine (bv.out).mono ?_);rintro _ v6 ⟨rfl,f6⟩)
            have s8:=s7.non f6;have ay:=ac.fr f6 zr;have e0:=bz.fr f6 zq;clear s7 ac bz a0 a1 a2 fk f6 bv;have F0:Fr Non v6 v6.drew:=(Fr.refl Non v6).drew;have du:=s8.sz;have X0:Blk v6 (w.heap.size+1) 52 Y.cells:=hY▸s8.b;have G0:cS v6 w.heap.size 1 LA N LC:=(s8.g.cell 1).trans g1.out;have ez:=lh (dq.out.fr s8.f zr);refine Cv (S:=fun w'=>Blk w' (w.heap.size+1) 52 Y.cells/\cS w' w.heap.size 1 LA N LC) 8 (by kernel_rfl) ?_;refine tkM 0 2 ⟨X0,G0⟩ (h:=tkM 3 1 ⟨X0,G0⟩ (h:=?_));refine Bo 2 (by kernel_rfl) rfl (fun K hK=> ?_);refine Du (base:=w.heap.size+3) (.const (.slice none 0 0)) (.tmp 95) 24 rfl rfl rfl slOp (Own.nil _ _ _ _) (ez.out.fr F0 zr) cx.out (by omega) (by omega) du ?_;intro lA lC v1 oL fL ae;rw [A60,A71] at oL;have F1:Fr Non v6 v1:=F0.trans (Fb fL) zr;have bd:∀k,Ad lA=some k->v6.heap.size<=k:=fun k hk=>by rcases ae with e|e;(rw [e] at hk;cases hk);(rw [e] at hk;injection hk with hk;have fu:v6.heap.size=k:=hk;omega)
            have X1:=X0.fr F1 zq;have G1:=F1.cell G0 zq;refine hK.out _ _ ⟨X1,G1⟩ (fun hZ=> ?_);clear hZ hK K;try simp only [A60,Ah,zl]
            refine Bo 4 (by kernel_rfl) rfl (fun K hK=> ?_);go_simp;go_wp2_with (go_at_call 80;(with_reducible refine (kS.out _ (bk.out _ _ (s8.non F1))).mono ?_);rintro _ v2 ⟨z,rfl,e7,dl,f2⟩;have F2:=F1.trans f2 zr;have fd:=oL.fr f2 zr);have X2:=X0.fr F2 zq;have G2:=F2.cell G0 zq;refine hK.out _ _ ⟨X2,G2⟩ (fun hZ=> ?_);clear hZ hK K;try simp only [Ah,zl]
            have fv:=Ux z;refine Bo 5 (by kernel_rfl) rfl (fun K hK=> ?_);go_simp;have az:=Blk.new v2 52 z.cells;have ej:=fd.alloc (.cells z.cells 52);have F3:Fr Non v6 (v2.alloc (.cells z.cells 52)):=F2.alloc _;have c6:=dl.non ((Fr.refl Non v2).alloc (.cells z.cells 52));obtain ⟨ga,cf⟩:=Ab v2.heap.size;rw [cf.out] at az ⊢;generalize v2.alloc (.cells z.cells 52)=v3 at*;have X3:=X0.fr F3 zq;have G3:=F3.cell G0 zq;refine hK.out _ _ ⟨X3,G3⟩ (fun hZ=> ?_);clear hZ hK K;try simp only [Ah,zl]
            refine Bo 6 (by kernel_rfl) rfl (fun K hK=> ?_);refine Du (base:=w.heap.size+3) (.tmp 96) (.tmp 99) 24 rfl rfl rfl slOp ej (Rd.blk (n:=1) (size:=27) az rfl) (Ov z) (by omega) (by omega) (A59 du F3.size) ?_;intro ah ai v4 et ef eg;have F4:Fr Non v6 v4:=F3.trans ef (fun k hk e=>by have h9:=bd k e;omega);have ch:=c6.keepP ef (Types.row ej) (by decide) (by decide) (by decide) (by decide) (by decide) (by decide) (by decide);have X4:=X0.fr F4 zq;have G4:=F4.cell G0 zq;refine hK.out _ _ ⟨X4,G4⟩ (fun uu=> ?_);clear hK K;try simp only [Ah,zl]
            refine tkM 7 1 uu (h:=?_);clear uu;have s9:=s8.non F4;have nz:=s9.g.frozen 1;refine Cp (by kernel_rfl) ?_;refine stT 8 (h:=?_);refine oD ?_;go_simp;have t9:=s9.setG 1 (.slice ah (N+1) ai);have dm:=Own.setFar (i:=1) et s9.g (by decide) (.slice ah (N+1) ai);have dr:=Own.setFar (i:=1) (ay.fr F4 zr) s9.g (by decide) (.slice ah (N+1) ai);have db:=(e0.fr F4 zq).far (p:=⟨w.heap.size,1,none⟩) (by have h9:=da;show gi≠w.heap.size;omega) (.slice ah (N+1) ai);have dy:=ch.setG s9.g 1 (.slice ah (N+1) ai);generalize v4.setCell ⟨w.heap.size,1,none⟩ (.slice ah (N+1) ai)=w9 at*;change Cc w w9 #[.slice CA nc CC,.slice ah (N+1) ai,.slice IA N IC,.slice PA N PC] x S (x.at_+T) A9 j c9 (Ba PS) at t9;clear s9 s8 oL fd ej et fL ef ae eg bd F0 F1 F2 F3 F4 X0 X1 X2 X3 X4 G0 G1 G2 G3 G4 f2 az cf nz ez cx dq dl c6 ch fv kS er ay e0 hl bk du;go_upto_region 20 with (fail)
            have cu:=t9.sz;have eo:=lh (ek.out.fr t9.f zr)
            go_cut [7] from 102 to 108 (fun s wc=>s=.slice A7 k c7/\∃iA iC,Cc w wc #[.slice CA nc CC,.slice ah (N+1) ai,.slice iA (N+1) iC,.slice PA N PC] x S (x.at_+T) A9 j c9 (Ba PS)/\Own wc (w.heap.size+3) 45 3 iA (N+1) iC (IL++aa.V.toList)/\Own wc (w.heap.size+3) 52 27 ah (N+1) ai (LL++z.cells.toList)/\Own wc (w.heap.size+3) 3 1 A7 k c7 (ys.map Qv)/\z.lies wc base)
            case first=>
              clear bc
              as_aux_lemma=>
              have F0:Fr Non w9 w9.drew:=(Fr.refl Non w9).drew;have G0:cS w9 w.heap.size 2 IA N IC:=t9.g.cell 2;have I0:cI w9 gi 0 aa.b:=db.cell 0;have J0:cI w9 gi 1 aa.s:=db.cell 1;have K0:cU w9 gi 2 aa.u:=db.cell 2;refine Cv (S:=fun w'=>cS w' w.heap.size 2 IA N IC/\cI w' gi 0 aa.b/\cI w' gi 1 aa.s/\cU w' gi 2 aa.u) 7 (by kernel_rfl) ?_;refine tkM 0 2 ⟨G0,I0,J0,K0⟩ (h:=tkM 3 1 ⟨G0,I0,J0,K0⟩ (h:=?_));refine Av4 2 4 (by kernel_rfl) rfl rfl (fun K hK=> ?_) (fun K hK=> ?_)
              · skip
                refine Du (base:=w.heap.size+3) (.const (.slice none 0 0)) (.tmp 103) 25 rfl rfl rfl Ds (Own.nil _ _ _ _) (eo.out.fr F0 zr) b9.out (by omega) (by omega) cu ?_;intro iA iC v1 oI fI ae;rw [A60,A71] at oI;have F1:Fr Non w9 v1:=F0.trans (Fb fI) zr;have bd:∀k,Ad iA=some k->w9.heap.size<=k:=fun k hk=>by rcases ae with e|e;(rw [e] at hk;cases hk);(rw [e] at hk;injection hk with hk;have fu:w9.heap.size=k:=hk;omega)
                obtain ⟨G1,I1,J1,K1⟩:=zk4 F1 G0 I0 J0 K0;refine hK.out _ _ ⟨G1,I1,J1,K1⟩ (fun hZ=> ?_);clear hZ hK K;try simp only [A60,Ah,zl]
                refine Bo 4 (by kernel_rfl) rfl (fun K hK=> ?_);go_simp;have az:=Blk.new v1 45 aa.V;have fp:=oI.alloc (.cells aa.V 45);have F2:Fr Non w9 (v1.alloc (.cells aa.V 45)):=F1.alloc _;obtain ⟨ga,cf⟩:=Ab v1.heap.size;rw [cf.out] at az ⊢;generalize v1.alloc (.cells aa.V 45)=v2 at*;obtain ⟨G2,I2,J2,K2⟩:=zk4 F2 G0 I0 J0 K0;refine hK.out _ _ ⟨G2,I2,J2,K2⟩ (fun hZ=> ?_);clear hZ hK K;try simp only [Ah,zl]
                refine Bo 5 (by kernel_rfl) rfl (fun K hK=> ?_);refine Du (base:=w.heap.size+3) (.tmp 104) (.tmp 106) 25 rfl rfl rfl Ds fp (Rd.blk (n:=1) (size:=3) az rfl) (by simp [Value.oneCell']) (by omega) (by omega) (A59 cu F2.size) ?_;intro ao ak v3 dp eb bw;have F3:Fr Non w9 v3:=F2.trans eb (fun k hk e=>by have h9:=bd k e;omega);obtain ⟨G3,I3,J3,K3⟩:=zk4 F3 G0 I0 J0 K0;refine hK.out _ _ ⟨G3,I3,J3,K3⟩ (fun uu=> ?_);clear hK K;try simp only [Ah,zl]
                refine tkM 6 1 uu (h:=?_);clear uu;have ad:=t9.non F3;have nz:=ad.g.frozen 2;refine Cp (by kernel_rfl) ?_;refine oG 7 (fun K hK=> ?_);go_simp;have d4:=ad.setG 2 (.slice ao (N+1) ak);have bq:=Own.setFar (i:=2) dp ad.g (by decide) (.slice ao (N+1) ak);have ca:=Own.setFar (i:=2) (dm.fr F3 zr) ad.g (by decide) (.slice ao (N+1) ak);have bu:=Own.setFar (i:=2) (dr.fr F3 zr) ad.g (by decide) (.slice ao (N+1) ak);have b3:=(dy.non F3).setG ad.g 2 (.slice ao (N+1) ak);refine hK.out _ _ trivial (fun hZ=> ?_);clear hZ hK K;try simp only [Ah,zl]
                refine oD ?_;go_simp;go_wp2_with fail;go_meet;exact ⟨rfl,ao,ak,d4,bq,ca,bu,b3⟩
              · skip
                go_simp;have a5:=(Blk.new w9 45 aa.V).drew;have F1:Fr Non w9 (w9.alloc (.cells aa.V 45)).drew:=((Fr.refl Non w9).alloc _).drew;have df:=F1.size;obtain ⟨ga,cf⟩:=Ab w9.heap.size;have fn:w9.heap.size<=w9.heap.size:=A73 _;rw [cf.out] at a5 ⊢;generalize (w9.alloc (.cells aa.V 45)).drew=v1 at*;obtain ⟨G1,I1,J1,K1⟩:=zk4 F1 G0 I0 J0 K0;refine hK.out _ _ ⟨G1,I1,J1,K1⟩ (fun hZ=> ?_);clear hZ hK K;try simp only [Ah,zl]
                refine Bo 2 (by kernel_rfl) rfl (fun K hK=> ?_);refine Du (base:=w.heap.size+3) (.const (.slice none 0 0)) (.tmp 103) 25 rfl rfl rfl Ds (Own.nil _ _ _ _) (eo.out.fr F1 zr) b9.out (by omega) (by omega) (A59 cu df) ?_;intro iA iC v2 oI fI ae;rw [A60,A71] at oI;have F2:Fr Non w9 v2:=F1.trans (Fb fI) zr;have az:=a5.fr (Fb fI) zq;have bd:∀k,Ad iA=some k->w9.heap.size<=k:=fun k hk=>by rcases ae with e|e;(rw [e] at hk;cases hk);(rw [e] at hk;injection hk with hk;omega)
                obtain ⟨G2,I2,J2,K2⟩:=zk4 F2 G0 I0 J0 K0;refine hK.out _ _ ⟨G2,I2,J2,K2⟩ (fun hZ=> ?_);clear hZ hK K;try simp only [A60,Ah,zl]
                refine Bo 5 (by kernel_rfl) rfl (fun K hK=> ?_);refine Du (base:=w.heap.size+3) (.tmp 104) (.tmp 106) 25 rfl rfl rfl Ds oI (Rd.blk (n:=1) (size:=3) az rfl) (by simp [Value.oneCell']) (by omega) (by omega) (A59 cu F2.size) ?_;intro ao ak v3 dp eb bw;have F3:Fr Non w9 v3:=F2.trans eb (fun k hk e=>by have h9:=bd k e;omega);obtain ⟨G3,I3,J3,K3⟩:=zk4 F3 G0 I0 J0 K0;refine hK.out _ _ ⟨G3,I3,J3,K3⟩ (fun uu=> ?_);clear hK K;try simp only [Ah,zl]
                refine tkM 6 1 uu (h:=?_);clear uu;have ad:=t9.non F3;have nz:=ad.g.frozen 2;refine Cp (by kernel_rfl) ?_;refine oG 7 (fun K hK=> ?_);go_simp;have d4:=ad.setG 2 (.slice ao (N+1) ak);have bq:=Own.setFar (i:=2) dp ad.g (by decide) (.slice ao (N+1) ak);have ca:=Own.setFar (i:=2) (dm.fr F3 zr) ad.g (by decide) (.slice ao (N+1) ak);have bu:=Own.setFar (i:=2) (dr.fr F3 zr) ad.g (by decide) (.slice ao (N+1) ak);have b3:=(dy.non F3).setG ad.g 2 (.slice ao (N+1) ak);refine hK.out _ _ trivial (fun hZ=> ?_);clear hZ hK K;try simp only [Ah,zl]
                refine oD ?_;go_simp;go_wp2_with fail;go_meet;exact ⟨rfl,ao,ak,d4,bq,ca,bu,b3⟩
            case rest=>
            obtain ⟨rfl,iA,iC,ad,oI,oL,o7,zl⟩:=hcut;generalize wc=wd at*;clear t9 dm dr dy db eo cu ek b9;have b6:=ad.sz;have ck:=lh (ds.out.fr ad.f zr);have d3:=ad.g.cell 3;replace d3:cS wd w.heap.size 3 PA N PC:=d3
            go_upto_region 22 with (first
              |(at_builtin;go_loud (refine Av (base:=w.heap.size+3) (.const (.slice none 0 0)) (.tmp 110) 26 rfl rfl rfl rfl slIi (Own.nil _ _ _ _) ck.out d5.out (by omega) (by omega) b6 ?_);intro pA pC v1 oU fU ae;rw [A60,A71] at oU;have F1:Fr Non wd v1:=Fb fU;have bd:∀k,Ad pA=some k->wd.heap.size<=k:=(fun k hk=>by rcases ae with e|e;(rw [e] at hk;cases hk);(rw [e] at hk;injection hk with hk;omega));have a5:=Blk.new v1 22 #[.slice A7 k c7];have fe:=oU.alloc (.cells #[.slice A7 k c7] 22);have F2:Fr Non wd (v1.alloc (.cells #[.slice A7 k c7] 22)):=F1.alloc _;clear ae fU)
              |(at_builtin;go_loud (refine Av (base:=w.heap.size+3) (.tmp 111) (.tmp 113) 26 rfl rfl rfl rfl slIi fe (Rd.blk (n:=1) (size:=1) a5 rfl) (by simp [Value.oneCell']) (by omega) (by omega) (A59 b6 F2.size) ?_);intro ap aq v2 fb e5 bw;have F3:Fr Non wd v2:=F2.trans e5 (fun k hk e=>by have h9:=bd k e;omega);have bb:=ad.non F3;have z3:=bb.g.frozen 3;have n3:cS v2 w.heap.size 3 PA N PC:=bb.g.cell 3))
            have ce:=bb.setG 3 (.slice ap (N+1) aq);have cl:=Own.setFar (i:=3) fb bb.g (by decide) (.slice ap (N+1) aq);have cm:=Own.setFar (i:=3) (oI.fr F3 zr) bb.g (by decide) (.slice ap (N+1) aq);have cy:=Own.setFar (i:=3) (oL.fr F3 zr) bb.g (by decide) (.slice ap (N+1) aq);have ct:=Own.setFar (i:=3) (o7.fr F3 zr) bb.g (by decide) (.slice ap (N+1) aq);have co:=(zl.non F3).setG bb.g 3 (.slice ap (N+1) aq);generalize v2.setCell ⟨w.heap.size,3,none⟩ (.slice ap (N+1) aq)=v13 at*;change Cc w v13 #[.slice CA nc CC,.slice ah (N+1) ai,.slice iA (N+1) iC,.slice ap (N+1) aq] x S (x.at_+T) A9 j c9 (Ba PS) at ce;clear ad bb oI oL o7 zl oU fe fb e5 bw F1 F2 F3 a5 bd d3 n3 z3 ck b6;have a9:(zp.info? 28).map (·.size)=some (#[.slice CA nc CC,.slice ah (N+1) ai,.slice iA (N+1) iC,.slice ap (N+1) aq]:Array Value).size:=Dg;have a4:(#[.slice CA nc CC,.slice ah (N+1) ai,.slice iA (N+1) iC,.slice ap (N+1) aq]:Array Value).all (·.oneCell')=true:=by simp [Value.oneCell']
            have au:=lh (bc.out z ah iA ap ai iC aq);obtain ⟨CZ,ed⟩:=Ab (#[.slice CA nc CC,.slice ah (N+1) ai,.slice iA (N+1) iC,.slice ap (N+1) aq]:Array Value);rw [ed.out] at a9 a4 au ce;have fx:=Be (P:=zp) w.heap.size 28 underlying28 rfl (cs:=CZ) a9;have fl:=Cf (P:=zp) (w.heap.size+2) 28 (cs:=CZ) a9 (old:=#[.slice none 0 0,.slice none 0 0,.slice none 0 0,.slice none 0 0]) (by rw [<- ed.out];rfl) a4;have bg:=ce.g;have br:=ce.r;clear ed bc g0 g1 g2 g3 a4;have ee:=br.setRow (cs:=CZ);have fz:=ce.f.setRow (g:=w.heap.size+2) (fun hh=>absurd hh (by omega)) CZ;have fr:=Gk (w:=v13) (g:=w.heap.size+2) CZ;have ax:∀{t size n c:Nat} {A:Option Addr} {xs:List Value},Own v13 (w.heap.size+3) t size A n c xs->Own (v13.setRow (w.heap.size+2) CZ) (w.heap.size+3) t size A n c xs:=fun h=>h.fr fr (fun q hq e=>by have h9:=(h.row q hq).1;have h8:q=w.heap.size+2:=e;omega);have dv:=lh (au.out _ fz e7 (co.keepP fr (Types.one br) (by decide) (by decide) (by decide) (by decide) (by decide) (by decide) (by decide)) (ax cy) (ax cm) (ax cl) (ax ct));clear au fz fr ax cy cm cl ct co ce e7
            as_aux_lemma=>
            go_wp2_with fail
            (try simp only [Exit.inBlock,Exit.then])
            refine Ed (t:=28) rfl rfl ee rfl underlying28 a9 rfl ?_;exact dv.out
end Oq
namespace Oq
theorem Vc {cards:List Cd} (hc:cards=Bb 0 [1,2,2,3]) {d:Int} (hd:1<=d/\d<=4):∃c,Ev cards d=some c/\c.s=Sg.pub (sec Ca d.toNat):=by
 subst hc;have h4:d=1\/d=2\/d=3\/d=4:=by omega
 show ∃c,List.find? _ [Cs 0 1,Cs 1 2,Cs 2 2,Cs 3 3]=some c/\_
 rcases h4 with rfl|rfl|rfl|rfl
 · exact ⟨Cs 0 1,by rw [A72 (by rw [Ej];decide)],I6 _ _⟩
 · exact ⟨Cs 1 2,by rw [A62 (by rw [Ej];decide),A72 (by rw [Ej];decide)],I6 _ _⟩
 · exact ⟨Cs 2 2,by rw [A62 (by rw [Ej];decide),A62 (by rw [Ej];decide),A72 (by rw [Ej];decide)],I6 _ _⟩
 · exact ⟨Cs 3 3,by rw [A62 (by rw [Ej];decide),A62 (by rw [Ej];decide),A62 (by rw [Ej];decide),A72 (by rw [Ej];decide)],I6 _ _⟩
def Fc (l:List Pn) (a b:Nat):List Nat:=[a/4%l.length]++(if 0<=Em l ((1:Int)+(a%4:Nat)) l.length/\0<a/64%5 then [(Em l ((1:Int)+(a%4:Nat)) l.length).toNat] else [])++(if b%3=0 then [b/3%l.length] else [])
def Gm (l:List Pn) (a b:Nat):Op:=Dj (if b%2=0 then 7 else 4) ((1:Int)+(a%4:Nat)) 0 ((b/6%4:Nat):Int) [] (nmP l 0) [UInt8.ofNat (65+b/2%3)]
def O3 (l:List Pn) (a b:Nat):List Pn:=En l (Gm l a b) (Dm l (Fc l a b))
def Gn (k0:List Int):Nat->List Pn
 |0=>En [] (Fs 1) []
 |j+1=>O3 (Gn k0 j) (Dh k0 (2*j)) (Dh k0 (2*j+1))
def Lq (k0:List Int):List Pn:=Gn k0 (min 13 (k0.length/2))
theorem Vd {l:List Pn} (hne:l≠[]) (a b:Nat):∀p∈Fc l a b,p<l.length:=by
 have h0:0<l.length:=List.length_pos_iff.2 hne;intro p hp;unfold Fc at hp
 rcases List.mem_append.1 hp with hp|hp
 ·
  rcases List.mem_append.1 hp with hp|hp
  ·
   rw [List.mem_singleton.1 hp];exact Nat.mod_lt _ h0
  ·
   split at hp
   ·
    rename_i hc;rw [List.mem_singleton.1 hp];have:=(Od l ((1:Int)+(a%4:Nat)) l.length).2;omega
   · cases hp
 ·
  split at hp
  ·
   rw [List.mem_singleton.1 hp];exact Nat.mod_lt _ h0
  · cases hp
theorem Ve (l:List Pn) (a b:Nat):(Fc l a b).length<=3:=by
 unfold Fc;rw [A67,A67]
 split<;>split<;>simp
theorem Ax0 (l:List Pn) (a b:Nat):Fc l a b≠[]:=by
 unfold Fc;simp
theorem Ax1 (l:List Pn) (k b dt:Int) (hs:List Nat) (e:Id) (y:List UInt8):Bs l (Dj k b 0 dt [] e y) hs=Jc l k b dt hs e y:=by
 unfold Bs Jc;rw [Ja,Oc];unfold Dj
 by_cases hk:k=7
 ·
  rw [if_pos hk,if_pos hk];rfl
 ·
  rw [if_neg hk,if_neg hk];rfl
theorem Vf {l:List Pn} (hB:FkB l) (h13:l.length<=13) {o:Op} {hs:List Nat} (hb:1<=o.by_/\o.by_<=12) (ha:o.at_<=3):FkB (l++[Az l (sgn (Bs l o hs))]):=by
 have hlen:(l++[Az l (sgn (Bs l o hs))]).length=l.length+1:=by rw [A67];rfl
 have hsq:(sgn (Bs l o hs)).sq=Bc l (Ak l (hs.map (nmP l))) o.by_ l.length+1:=by rw [Aq2];rfl
 have hat:(sgn (Bs l o hs)).at_=o.at_+late l (hs.map (nmP l)):=by rw [Aq3];rfl
 have hby:(sgn (Bs l o hs)).by_=o.by_:=by rw [Aq1];rfl
 have h1:Bc l (Ak l (hs.map (nmP l))) o.by_ l.length<=l.length:=Ob (by omega) hB.sq _;have h2:=Li l (Ak l (hs.map (nmP l))) o.by_ l.length;have h3:late l (hs.map (nmP l))<=3*l.length:=Sp l _ (by omega) hB.at_ _;refine ⟨fun n hn=> ?_,fun n hn=> ?_,fun n hn=> ?_,fun n hn=> ?_,by rw [hlen];omega⟩<;>rw [List.mem_append,List.mem_singleton] at hn<;>rcases hn with hn|rfl
 · have:=hB.sq n hn;rw [hlen];omega
 · rw [hlen,I8,hsq];omega
 · have:=hB.at_ n hn;rw [hlen];omega
 · rw [hlen,I8,hat];omega
 · exact hB.by_ n hn
 · rw [I8,hby];exact hb
 · exact hB.s1 n hn
 · rw [I8,hsq];omega
theorem Ax2 {cards:List Cd} {l:List Pn} (h:Rows cards l) (hB:FkB l) {n:Pn} (hn:n∈l):n.id.named=true:=by
 obtain ⟨i,hi⟩:=List.getElem?_of_mem hn;rw [(h.ok i n hi).id];refine T8 (hB.by_ n hn) ⟨hB.s1 n hn,?_⟩;have:=hB.sq n hn;have:=hB.few;omega
theorem fk_in {cards:List Cd} {l:List Pn} (h:Rows cards l) (hB:FkB l) (hc:cards=Bb 0 [1,2,2,3]) (hne:l≠[]) (h13:l.length<=13) (a b:Nat):
  plc l (Bs l (Gm l a b) (Dm l (Fc l a b))).name=none->Au cards l (sgn (Bs l (Gm l a b) (Dm l (Fc l a b))))=0/\FkB (l++[Az l (sgn (Bs l (Gm l a b) (Dm l (Fc l a b))))]):=by
 intro hnew;have hlt:=Vd hne a b;have h0:0<l.length:=List.length_pos_iff.2 hne;refine ⟨?_,Vf hB h13 (by unfold Gm;rw [Ja];omega) (by unfold Gm;rw [Oc];omega)⟩;unfold Gm at hnew ⊢;rw [Ax1] at hnew ⊢;refine At9 h hB (fun b h1 h2=>Vc hc ⟨h1,h2⟩) (At5 h (Ax0 l a b) hlt) (Ui _ _ _) (A59 (Lh _ _ _) (Ve l a b)) (fun p hp=>hlt p (I9 _ hp).1) (fun p hp q hq=>(I9 _ hp).2 q (I9 _ hq).1) ⟨by omega,by omega⟩ ⟨by omega,by omega⟩ ?_ ⟨by simp,by simp⟩ hnew;have hn:l[0]? =some l[0]:=A61 h0;rw [Gh hn];exact Ax2 h hB (A76 h0)
theorem Ax3:Bs [] (Fs 1) []=Fs 1:=rfl
theorem Ax4 {cards:List Cd} (hc:cards=Bb 0 [1,2,2,3]):plc [] (Bs [] (Fs 1) []).name=none->Au cards [] (sgn (Bs [] (Fs 1) []))=0/\FkB ([]++[Az [] (sgn (Bs [] (Fs 1) []))]):=by
 intro _;obtain ⟨c,h1,h2⟩:=Vc hc (d:=1) ⟨by decide,by decide⟩;refine ⟨?_,Vf ⟨fun _ hn=>absurd hn A65,fun _ hn=>absurd hn A65,fun _ hn=>absurd hn A65,fun _ hn=>absurd hn A65,by decide⟩ (by decide) (by decide) (by decide)⟩;rw [Ax3];exact T7 (c:=c) (Aq5 (by decide)) rfl (by simp) h1 h2 (.inr rfl) rfl (by show clash [] []=false;unfold clash C8;simp) (Int.le_refl _) rfl
theorem Vg (l:List Pn) (o:Op) (hs:List Nat):(En l o hs).length<=l.length+1:=by
 unfold En
 split
 · omega
 ·
  rw [A67];exact A73 _
theorem Ax5 {l:List Pn} (h:l≠[]) (o:Op) (hs:List Nat):En l o hs≠[]:=by
 unfold En
 split
 · exact h
 · simp
theorem O4 (k0:List Int):∀j,Gn k0 j≠[]
 |0=>by
  show En [] (Fs 1) []≠[];unfold En;rw [show plc [] (Bs [] (Fs 1) []).name=none from rfl,if_neg (by simp)];simp
 |j+1=>Ax5 (O4 k0 j) _ _
theorem Vh (k0:List Int):∀j,(Gn k0 j).length<=j+1
 |0=>Vg _ _ _
 |j+1=>A59 (Vg _ _ _) (by have:=Vh k0 j;omega)
