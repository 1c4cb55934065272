/-
  Contracts of the functions that the claim's statement reaches, walked one by one (part 16).
  Conditions: as each theorem says.
-/
import Derived.WideKeyEntry
import Derived.Test.YtgbdljlapmjmnaaGreatDoorRlG15
set_option maxRecDepth 100000
set_option maxHeartbeats 16000000
open Bool renaming not_false->A03,not_true->A04
open List renaming not_mem_nil->A05,getElem?_eq_getElem->A06,find?_cons_of_neg->A07,mem_of_getElem?->A08,length_append->A09,length_map->A11,getElem?_map->A13,nil_append->A14,find?_cons_of_pos->A15,map_append->A16,getElem?_toArray->A18,take_length->A19,getElem_mem->A20
open Nat renaming le_trans->A01,zero_add->A02,le_refl->A10,zero_le->A17
open Go.World renaming size_alloc->A12
open Go.Proofs.Tryz
open Go.Proofs.Tryz renaming prog->zp
open Go.Lib renaming hid->lh
open List renaming set->zl
open Go.Ending renaming returned->ze
namespace Go.Proofs.YtgbdljlapmjmnaaGreatDoor
open Go.RowKit
attribute [local go_sem ↓] Go.wp_at_zero Go.wp_at_succ
namespace Oq
attribute [local go_sem] A03 A04
theorem Ud {P:Program} {Q:Exit->Act->World->Prop} {l:List Oper} {md:Region.Mode} {S:World->Prop} {fuel:Nat} {listed:Array Bool} {a:Act} {w:World} (i j:Nat) {d:Option Tmp} {op:Go.Op} {ty:TypeId} {pos:String} {after:Array Edge} {g:Option (Nat × Bool)} {d':Option Tmp} {op':Go.Op} {ty':TypeId} {pos':String} {after':Array Edge} {g':Option (Nat × Bool)}
  (hr:Region.ready md l.toArray listed=[i,j]) (ho:l[i]? =some ⟨d,op,ty,pos,after,g⟩) (ho':l[j]? =some ⟨d',op',ty',pos',after',g'⟩)
  (hw:Region.wanted ⟨d,op,ty,pos,after,g⟩ (yielded l.toArray a.tmps)=true) (hw':Region.wanted ⟨d',op',ty',pos',after',g'⟩ (yielded l.toArray a.tmps)=true)
  (h:∀K':Act->World->Prop,Shut (∀a w,S w->(S w->wpAnyH P md l.toArray Q S fuel (listed.setIfInBounds i true) a w)->K' a w)->Oper.wp P ⟨d,op,ty,pos,after,g⟩ a w K' Q)
  (h':∀K':Act->World->Prop,Shut (∀a w,S w->(S w->wpAnyH P md l.toArray Q S fuel (listed.setIfInBounds j true) a w)->K' a w)->Oper.wp P ⟨d',op',ty',pos',after',g'⟩ a w K' Q):
  wpAnyH P md l.toArray Q S (fuel+1) listed a w:=
 wpAnyH_ready hr (by simp) (AllReadyH.cons (by rw [A18];exact ho) (fun K' hK=>by rw [if_pos hw];exact h K' hK) (AllReadyH.cons (by rw [A18];exact ho') (fun K' hK=>by rw [if_pos hw'];exact h' K' hK) AllReadyH.nil))
end Oq
namespace Oq
attribute [local go_sem] A03 A04
attribute [local go_sem ↓] Bo Dn T2
theorem Ue {cards:List Cd} {m:List Pn} {ws:List Op} {o:Op} (h:(plc m o.name).isSome=true\/ws.any (fun x=>Id.eq x.name o.name)=true):Bl cards (m,ws) o=(5,(m,ws)):=by unfold Bl;rw [if_pos h]
theorem At2 {cards:List Cd} {m:List Pn} {ws:List Op} {o:Op} (h1:(plc m o.name).isSome=false) (h2:ws.any (fun x=>Id.eq x.name o.name)=false):
  Bl cards (m,ws) o=if ready m o=false then if 200<=ws.length then (3,(m,ws)) else (0,(m,ws++[o])) else if Au cards m o≠0 then (Au cards m o,(m,ws)) else (0,Cm cards ws.length (m++[Aw m o]) ws):=by
 unfold Bl;rw [if_neg (by rw [h1,h2];simp)]
def TakeRPost (base:Nat) (r:Ad) (o:Op) (w:World) (e:Ending) (w':World):Prop:=
 e=.returned (.int .i64 (Bl r.g.cards r.st o).1)/\∃r':Ad,Hid (Ad.Step base r r' w w')/\Hid (r'.st=(Bl r.g.cards r.st o).2)
theorem TakeRPost.mk {base:Nat} {r r':Ad} {o:Op} {w w':World} {a:Int} {s:List Pn × List Op} (h:Bl r.g.cards r.st o=(a,s)) (hs:Ad.Step base r r' w w') (he:r'.st=s):TakeRPost base r o w (.returned (.int .i64 a)) w':=by
 unfold TakeRPost;rw [h];exact ⟨rfl,r',hs,he⟩
theorem Hu (base B n c:Nat) (A:Option Addr) (r:Ad) (o:Op) (w:World) (h:r.okAt w base) (hk:KindsAt w) (hn:Hid (o.put.length=n)) (hr:Rd w B 1 A n (o.put.map Bv)) (hl:n<=1099511627776) (hok:o.ok):
  Calls zp 22 #[.pointer (some ⟨r.rb,0,none⟩),.slice A n c] w (TakeRPost base r o w):=by
 have aa:(zp.info? 55).map (·.size)=some 27:=by kernel_rfl
 have kg:Hid (Calls zp 27 #[.slice A n c] w (fun e w'=>∃x:OpL,x.op=o/\e=.returned (.tuple #[.agg x.cells,.int .i64 0])/\x.own w' w.heap.size/\Fr Non w w')):=by
  have:=Ze B n c A o.put w hn hr hl;unfold Hg at this;rw [Wd hok.okR] at this;exact this
 have bv:base<=w.heap.size:=A01 h.rbase (Nat.le_of_lt h.blk.lt);have ab:Hid (∀(a:Int) (s:List Pn × List Op) (r':Ad) (w':World),Bl r.g.cards r.st o=(a,s)->Ad.Step base r r' w w'->r'.st=s->TakeRPost base r o w (.returned (.int .i64 a)) w'):=fun a s r' w' h1 h2 h3=>TakeRPost.mk h1 h2 h3;generalize TakeRPost base r o w=POST at*;obtain ⟨nm,aq⟩:∃nm,o.name=nm:=⟨_,rfl⟩;have ay:nm.ok:=by rw [<- aq];exact Kv hok
 obtain ⟨rb,ai⟩:=Aa r.rb;obtain ⟨gb,bj⟩:=Aa r.g.gb;obtain ⟨N,hN⟩:=Aa r.ws.length;rw [ai.out];replace h:=lh h;replace hk:=lh hk;clear hn hr hl;go_enter func22,ntmps22;go_upto_region 2 with (go_at_call 27;(with_reducible refine (kg.out).mono ?_);rintro _ w1 ⟨x,a1,rfl,xo,f1⟩;have bn:=Blk.new w1 55 zO;have bm:=Cy (P:=zp) w1.heap.size 55 (cs:=x.cells) aa (old:=zO) rfl (Ex x))
 have bx:Blk ((w1.alloc (.cells zO 55)).setRow w1.heap.size x.cells) w1.heap.size 55 x.cells:=bn.setRow;have fx:Fr Non w1 ((w1.alloc (.cells zO 55)).setRow w1.heap.size x.cells):=((Fr.refl Non w1).alloc _).setRow (fun hh=>absurd hh (by omega)) _;have f2:=f1.trans fx zr;have ar:=(xo.lower bv).non fx;have aw:x.op.ok:=by rw [a1];exact hok
 obtain ⟨ob,b9⟩:=Aa w1.heap.size;have ak:w.heap.size<=w1.heap.size:=f1.size;rw [b9.out] at bx f2 ar ak ⊢;replace ak:=lh ak;clear kg xo bm bn f1 fx b9 bv;generalize (w1.alloc (.cells zO 55)).setRow ob x.cells=w2 at*;have cc:=Ci (P:=zp) ob 55 underlying55 rfl (cs:=x.cells) aa;have bq:=lh (fun (w':World) (h:Fr Non w2 w')=>T7 x nm (by rw [a1];exact aq) w' (ar.non h).at aw);have kO:=lh (fun (w':World) (hf:Fr Non w w')=>Uc (l:=r.g.pns) nm (h.out.graph.fr hf) bj.out rfl ay);unfold K8 at kO;have kL:=lh (fun (w':World) (hf:Fr Non w2 w')=>Kh base r.g x w' Kj (h.out.graph.fr (f2.trans hf zr)) (ar.non hf).at aw.past.2 (by have:=aw.past.1;show x.op.past.length<=_;omega));unfold Hn at kL;have kA:=lh (fun (w':World) (hf:Fr Non w2 w')=>T9 base r x w' (h.out.non (f2.trans hf zr)) (ar.non hf).at aw (hk.out.fr (f2.trans hf zr)));unfold Oc at kA;rw [a1] at kA;have kC:=lh (fun (iv:Nat) (w':World) (hf:Fr Non w w') (hi:Blk w' iv 48 nm.V)=>As6 w'.heap.size N r.c iv r.A r.ws (fun y=>Id.eq y.op.name nm) w' hN (by have:=(h.out.non hf).row.rd;rwa [hN.out] at this) (by have:=h.out.few;rw [hN.out] at this;omega) (fun y hy w'' hg=>As4 y nm iv w'' ((h.out.ops y hy).1.non (hf.trans hg zr)).at (h.out.ops y hy).2 (hi.fr hg zq)));unfold Ag at kC;have ao:=lh (T6 (g:=r.g) rfl x);rw [a1] at ao;rw [bj.out] at kL kA;obtain ⟨LL,b4⟩:=Aa (x.past.filter (fun id=> !(place r.g.nodes id).isSome));rw [b4.out] at kL ao;obtain ⟨LN,ce⟩:=Aa LL.length;rw [ce.out] at kL ao;have bw:Hid (Own w2 base 55 27 r.A N r.c (r.ws.flatMap (fun x=>x.cells.toList))/\x.own w2 base/\x.op=o/\o.ok):=⟨by have:=(h.out.non f2).row;rwa [hN.out] at this,ar,a1,hok⟩;have az:=T3 x;have a4:=N9 x;have bc:x.cells.size=27:=rfl;obtain ⟨XC,b6⟩:=Aa x.cells;rw [b6.out] at bx cc bq kL kA az a4 bc;have bg:r.okAt w2 base:=h.out.non f2;have P2:w2.cell? ⟨rb,0,none⟩=some (.pointer (some ⟨gb,0,none⟩)):=by have:=bg.blk.cell 0;rwa [ai.out,bj.out] at this
 have V2:w2.cell? ⟨rb,1,none⟩=some (.slice r.A N r.c):=by have:=bg.blk.cell 1;rwa [ai.out,hN.out] at this
 have b3:N<=200:=by have:=bg.few;rwa [hN.out] at this
 have ag:Hid ((r.ws.map OpL.op).any (fun y=>Id.eq y.name nm)=r.ws.any (fun y=>Id.eq y.op.name nm)):=by show _=_;rw [List.any_map];rfl
 obtain ⟨WB,ci⟩:=Aa (r.ws.any (fun y=>Id.eq y.op.name nm));rw [ci.out] at kC ag;clear ar aw b4 bg ay aa hok;go_upto_region 4 with (fail)
 go_upto_region 5 with (go_at_call 40;(with_reducible refine (bq.out _ (Fr.refl _ _)).mono ?_);rintro _ w3 ⟨rfl,f3⟩)
 have bi:=Blk.new w3 48 nm.V;have ax:Fr Non w2 (w3.alloc (.cells nm.V 48)):=f3.alloc _;have br:w.heap.size<=w3.heap.size:=(f2.trans f3 zr).size;obtain ⟨ib,b1⟩:=Aa w3.heap.size;rw [b1.out] at bi ⊢;generalize w3.alloc (.cells nm.V 48)=w4 at*;have aj:=f2.trans ax zr;have bz:=bx.fr ax zq;obtain ⟨P4,V4⟩:=zk2 ax P2 V2;have i0:cI w4 ib 0 nm.b:=bi.cell 0;have i1:cI w4 ib 1 nm.s:=bi.cell 1;have i2:cU w4 ib 2 nm.u:=bi.cell 2;clear bq f3 P2 V2 b1 br
 go_cut [8,9] from 21 to 29 (fun s1 s2 wc=>∃(qb:Nat) (is:Bool),s1=.pointer (some ⟨qb,0,none⟩)/\s2=.bool is/\Hid ((plc r.g.pns nm).isSome=is)/\Fr Non w4 wc)
 case first=>
  have aa:(zp.info? 55).map (·.size)=some 27:=by kernel_rfl
  have P0:=P4;have I0:=i0;have J0:=i1;have K0:=i2;have F0:Fr Non w4 w4.drew:=(Fr.refl Non w4).drew;have G0:Fr Non w w4.drew:=aj.drew;refine wp_region_held_drew (S:=fun w'=>w'.cell? ⟨rb,0,none⟩=some (.pointer (some ⟨gb,0,none⟩))/\cI w' ib 0 nm.b/\cI w' ib 1 nm.s/\cU w' ib 2 nm.u) (by kernel_rfl) ⟨P0,I0,J0,K0⟩ (fun hHeld=> ?_);clear hHeld;have uu:=aI P0 (aI I0 (aI J0 K0));refine tkH 0 uu (h:=tkH 1 uu (h:=tkH 2 uu (h:=tkH 3 uu (h:=tkH 4 uu (h:=?_)))));clear uu;simp only [zl];refine Ud 5 9 (by kernel_rfl) rfl rfl (by kernel_rfl) (by kernel_rfl) (fun K hK=> ?_) (fun K hK=> ?_)
  ·
   skip
   go_simp;go_wp2_with (go_at_call 41;(with_reducible refine (kO.out _ G0).mono ?_);rintro _ v1 ⟨y2,is,rfl,af,_,_,au⟩;have F1:=F0.trans au zr;obtain ⟨P1,I1,J1,K1⟩:=zk4 F1 P0 I0 J0 K0;have G1:=aj.trans F1 zr);refine hK.out _ _ ⟨P1,I1,J1,K1⟩ (fun hZ=> ?_);clear hZ hK K;try simp only [Ae,zl]
   refine tkH 6 ⟨P1,I1,J1,K1⟩ (h:=tkH 7 ⟨P1,I1,J1,K1⟩ (h:=tkH 8 ⟨P1,I1,J1,K1⟩ (h:=?_)));simp only [zl];refine oG 9 (fun K hK=> ?_);go_simp;have bf:Fr Non v1 (v1.alloc (.cells zO 55)):=(Fr.refl _ _).alloc _;have a8:=Blk.new v1 55 zO;have F2:=F1.trans bf zr;obtain ⟨P2,I2,J2,K2⟩:=zk4 F2 P0 I0 J0 K0;have G2:=aj.trans F2 zr;obtain ⟨qb,a6⟩:=Aa v1.heap.size;rw [a6.out] at a8 ⊢;have ck:w4.heap.size<=qb:=by rw [<- a6.out];exact F1.size
   refine hK.out _ _ ⟨P2,I2,J2,K2⟩ (fun hZ=> ?_);clear hZ hK K;try simp only [Ae,zl]
   generalize v1.alloc (.cells zO 55)=v2 at*;have bm:=Cy (P:=zp) qb 55 (cs:=y2.cells) aa (old:=zO) rfl (Ex y2);refine oG 10 (fun K hK=> ?_);go_simp;have F3:Fr Non w4 (v2.setRow qb y2.cells):=F2.setRow (fun hh=>absurd hh (by omega)) _;obtain ⟨P3,I3,J3,K3⟩:=zk4 F3 P0 I0 J0 K0;have G3:=aj.trans F3 zr;refine hK.out _ _ ⟨P3,I3,J3,K3⟩ (fun hZ=> ?_);clear hZ hK K;try simp only [Ae,zl]
   refine tkH 11 ⟨P3,I3,J3,K3⟩ (h:=?_);simp only [zl];refine oD ?_;go_simp;go_wp2_with fail;go_meet;exact ⟨qb,is,rfl,rfl,af,F3⟩
  ·
   have F0:Fr Non w4 w4:=Fr.refl Non w4;have G0:=aj;go_simp;have au:Fr Non w4 ((w4.alloc (.cells zO 55)).drew):=(((Fr.refl Non w4).alloc (.cells zO 55)).drew:Fr Non w4 _);have a5:=(Blk.new w4 55 zO).drew;have F1:=F0.trans au zr;obtain ⟨P1,I1,J1,K1⟩:=zk4 F1 P0 I0 J0 K0;have G1:=aj.trans F1 zr;obtain ⟨qb,a6⟩:=Aa w4.heap.size;rw [a6.out] at a5 ⊢;have ck:w4.heap.size<=qb:=by rw [<- a6.out];exact A10 _
   refine hK.out _ _ ⟨P1,I1,J1,K1⟩ (fun hZ=> ?_);clear hZ hK K;try simp only [Ae,zl]
   generalize (w4.alloc (.cells zO 55)).drew=v1 at*;refine oG 5 (fun K hK=> ?_);go_simp;go_wp2_with (go_at_call 41;(with_reducible refine (kO.out _ G1).mono ?_);rintro _ v2 ⟨y2,is,rfl,af,_,_,bf⟩;have F2:=F1.trans bf zr;obtain ⟨P2,I2,J2,K2⟩:=zk4 F2 P0 I0 J0 K0;have G2:=aj.trans F2 zr;have a8:=a5.fr bf zq);refine hK.out _ _ ⟨P2,I2,J2,K2⟩ (fun hZ=> ?_);clear hZ hK K;try simp only [Ae,zl]
   refine tkH 6 ⟨P2,I2,J2,K2⟩ (h:=tkH 7 ⟨P2,I2,J2,K2⟩ (h:=tkH 8 ⟨P2,I2,J2,K2⟩ (h:=?_)));simp only [zl];have bm:=Cy (P:=zp) qb 55 (cs:=y2.cells) aa (old:=zO) rfl (Ex y2);refine oG 10 (fun K hK=> ?_);go_simp;have F3:Fr Non w4 (v2.setRow qb y2.cells):=F2.setRow (fun hh=>absurd hh (by omega)) _;obtain ⟨P3,I3,J3,K3⟩:=zk4 F3 P0 I0 J0 K0;have G3:=aj.trans F3 zr;refine hK.out _ _ ⟨P3,I3,J3,K3⟩ (fun hZ=> ?_);clear hZ hK K;try simp only [Ae,zl]
   refine tkH 11 ⟨P3,I3,J3,K3⟩ (h:=?_);simp only [zl];refine oD ?_;go_simp;go_wp2_with fail;go_meet;exact ⟨qb,is,rfl,rfl,af,F3⟩
 case rest=>
 obtain ⟨qb,is,rfl,rfl,af,fc⟩:=hcut;generalize wc=w5 at*;have cb:=ax.trans fc zr;have be:=aj.trans fc zr;have bh:=lh (kC.out ib w5 be (bi.fr fc zq));obtain ⟨V5,P5⟩:=zk2 fc V4 P4;have b0:=bz.fr fc zq;clear kO kC bi i0 i1 i2 P4 V4 bz bx fc
 cases is
 case true=>
  have hd:=lh (ab.out 5 r.st r w5 (Ue (.inl (by rw [aq];exact af.out))) (h.out.still be) rfl);clear ab af kL kA bh;go_wp2_with fail;exact hd.out
 case false=>
 cases WB
 case true=>
  have hd:=lh (fun (w':World) (hf:Fr Non w w')=>ab.out 5 r.st r w' (Ue (.inr (by rw [aq];exact ag.out))) (h.out.still hf) rfl);clear ab af kL kA;go_wp2_with (go_at_call 53;(with_reducible refine (bh.out).mono ?_);rintro _ w6 ⟨rfl,f6⟩);exact hd.out _ (be.trans f6 zr)
 case false=>
 have ah:=lh (At2 (cards:=r.g.cards) (m:=r.g.pns) (ws:=r.ws.map OpL.op) (o:=o) (by rw [aq];exact af.out) (by rw [aq];exact ag.out));go_upto_region 8 with (go_at_call 53;(with_reducible refine (bh.out).mono ?_);rintro _ w6 ⟨rfl,f6⟩)
 have b5:=cb.trans f6 zr;have ca:=be.trans f6 zr;have P0:=f6.cell P5 zq;have X0:=b0.fr f6 zq;have V0:=f6.cell V5 zq;have F0:Fr Non w6 w6.drew:=(Fr.refl Non w6).drew;have G0:Fr Non w2 w6.drew:=b5.drew;clear bh af ag P5 V5 b0;refine wp_region_held_drew (S:=fun w'=>w'.cell? ⟨rb,0,none⟩=some (.pointer (some ⟨gb,0,none⟩))/\Blk w' ob 55 XC/\cS w' rb 1 r.A N r.c) (by kernel_rfl) ⟨P0,X0,V0⟩ (fun hHeld=> ?_);clear hHeld;have uu:=aI P0 (aI X0 V0);refine tkH 0 uu (h:=tkH 1 uu (h:=tkH 2 uu (h:=tkH 3 uu (h:=tkH 4 uu (h:=?_)))));clear uu;simp only [zl];refine oG 5 (fun K hK=> ?_);go_simp;go_wp2_with (go_at_call 31;(with_reducible refine (kL.out _ G0).mono ?_);rintro _ v1 ⟨AL,cL,rfl,_,au⟩;have F1:=F0.trans au zr;have P1:=F1.cell P0 zq;have X1:=X0.fr F1 zq;have V1:=F1.cell V0 zq;have G1:=b5.trans F1 zr);refine hK.out _ _ ⟨P1,X1,V1⟩ (fun hZ=> ?_);clear hZ hK K;try simp only [Ae,zl]
 refine tkH 6 ⟨P1,X1,V1⟩ (h:=tkH 7 ⟨P1,X1,V1⟩ (h:=?_));simp only [zl];refine oD ?_;go_simp;have H1:=ca.trans F1 zr;generalize v1=w7 at*;clear P0 X0 V0 F0 G0 F1 au kL
 by_cases hL0:LN=0
 case neg=>
  have t0:decide ((LN:Int)>0)=true:=decide_eq_true (by omega);have cm:decide (0<LN)=true:=decide_eq_true (by omega);have hr:ready r.g.pns o=false:=by rw [ao.out];exact decide_eq_false hL0
  have ad:Hid (Bl r.g.cards r.st o=if 200<=N then (3,r.st) else (0,(r.g.pns,r.ws.map OpL.op++[o]))):=by
   show _=_;rw [<- hN.out];have:=ah.out;rw [if_pos hr,A11] at this;exact this
  clear ah kA ao
  by_cases hfull:200<=N
  case pos=>
   have t1:decide ((N:Int)>=200)=true:=decide_eq_true (by omega);have cj:decide (200<=N)=true:=decide_eq_true hfull;have hd:=lh (ab.out 3 r.st r w7 (by rw [ad.out,if_pos hfull]) (h.out.still H1) rfl);clear ab ad;go_wp2_with fail;exact hd.out
  case neg=>
  have t1:decide ((N:Int)>=200)=false:=decide_eq_false (by omega);have cj:decide (200<=N)=false:=decide_eq_false hfull;have cg:decide ((200:Int)<=(N:Int))=false:=decide_eq_false (by omega);have av:=lh (fun (w':World) (hf:Fr Non w w')=>h.out.non hf);have al:Ac r.A≠some rb:=by rw [<- ai.out];exact h.out.row.ne h.out.blk (by decide)
  have bd:=bw.out;have cl:Own w7 base 55 27 r.A N r.c (r.ws.flatMap (fun x=>x.cells.toList)):=bd.1.fr G1 zr
  have bb:Ac r.A≠some ob:=fun e=>by
   have h9:=(h.out.row.row ob e).2;have h7:=ak.out;omega
  have cf:x.own w7 base:=bd.2.1.non G1;have a7:Hid (x.op=o):=bd.2.2.1;have bu:Hid o.ok:=bd.2.2.2;go_upto_region 11 with (fail)
  have X0:=X1;have V0:=V1;have F0:Fr Non w7 w7.drew:=(Fr.refl Non w7).drew;clear P1 X1 V1;refine C9 (S:=fun w'=>cS w' rb 1 r.A N r.c/\Blk w' ob 55 XC) 10 (by kernel_rfl) ?_;have uu:=aI V0 X0;refine tkG 0 uu (h:=tkG 1 uu (h:=tkG 2 uu (h:=tkG 3 uu (h:=tkG 4 uu (h:=tkG 5 uu (h:=?_))))));clear uu;simp only [zl];refine Cc 6 (by kernel_rfl) rfl (fun K hK=> ?_);go_simp;have b8:=(Blk.new w7 55 XC).drew;have F1:Fr Non w7 (w7.alloc (.cells XC 55)).drew:=((Fr.refl Non w7).alloc _).drew;obtain ⟨nb,bo⟩:=Aa w7.heap.size;rw [bo.out] at b8 ⊢;generalize (w7.alloc (.cells XC 55)).drew=v1 at*;have V1:=F1.cell V0 zq;have X1:=X0.fr F1 zq;refine hK.out _ _ ⟨V1,X1⟩ (fun hZ=> ?_);clear hZ hK K;try simp only [Ae,zl]
  have ac:=av.out v1 (H1.trans F1 zr);have bt:Rd v1 v1.heap.size 27 (some ⟨nb,0,none⟩) 1 XC.toList:=Rd.blk (by simpa using b8) (by simp [bc]);have ch:base<=v1.heap.size:=by have h9:=ac.rbase;have h8:=ac.blk.lt;omega
  refine Cc 7 (by kernel_rfl) rfl (fun K hK=> ?_);refine E1 (base:=base) (.tmp 57) (.tmp 59) 24 rfl rfl rfl slOp (cl.fr F1 zr) bt a4 (by omega) (by omega) ch ?_;intro A9 c9 v2 ap a9 a3;have V2:=a9.cell V1 al;have X2:=X1.fr a9 bb;have b2:=ac.blk.fr a9 (by rw [ai.out];exact al);rw [ai.out] at b2;have z2:=b2.frozen 1;refine hK.out _ _ ⟨V2,X2⟩ (fun hZ=> ?_);clear hZ hK K;try simp only [Ae,zl]
  refine Cc 8 (by kernel_rfl) rfl (fun K hK=> ?_);go_simp;refine hK.out _ _ ⟨V2,X2⟩ (fun hZ=> ?_);clear hZ hK K;try simp only [Ae,zl]
  refine tkG 9 ⟨V2,X2⟩ (h:=?_);simp only [zl];refine C5 (by kernel_rfl) ?_;refine oG 10 (fun K hK=> ?_);go_simp;refine hK.out _ _ trivial (fun hZ=> ?_);clear hZ hK K;try simp only [Ae,zl]
  refine oD ?_;go_simp;rw [<- b6.out] at ap;have bp:=ac.longer hN (by omega) (cf.non F1) (by rw [a7.out];exact bu.out) ap a9 a3;rw [ai.out] at bp;have hd:=lh (ab.out 0 _ _ _ (by rw [ad.out,if_neg hfull]) ((h.out.still (H1.trans F1 zr)).trans bp) (by show (r.g.pns,(r.ws++[x]).map OpL.op)=_;rw [A16,List.map_cons,List.map_nil,a7.out]));clear ab ad bp ap a9 a3 av ac;go_wp2_with fail;exact hd.out
 case pos=>
  subst hL0;have hr:ready r.g.pns o=true:=by rw [ao.out];rfl
  have ad:Hid (Bl r.g.cards r.st o=if Au r.g.cards r.g.pns o≠0 then (Au r.g.cards r.g.pns o,r.st) else (0,Cm r.g.cards r.ws.length (r.g.pns++[Aw r.g.pns o]) (r.ws.map OpL.op))):=by
   show _=_;have:=ah.out;rw [hr,if_neg (by decide),A11] at this;exact this
  have ba:Hid (r.okAt w7 base):=h.out.non H1;have b7:Hid (KindsAt w7):=hk.out.fr H1;obtain ⟨E,hE⟩:=Aa (Au r.g.cards r.g.pns o);rw [hE.out] at kA ad;clear ah ao bw hE;go_upto_region 13 with (fail)
  have X0:=X1;have P0:=P1;have F0:Fr Non w7 w7.drew:=(Fr.refl Non w7).drew;have cd:Hid (Ad.Step base r r w w7.drew):=h.out.still (H1.trans F0 zr);clear P1 X1 V1;refine wp_region_held_drew (S:=fun w'=>w'.cell? ⟨rb,0,none⟩=some (.pointer (some ⟨gb,0,none⟩))/\Blk w' ob 55 XC) (by kernel_rfl) ⟨P0,X0⟩ (fun hHeld=> ?_);clear hHeld;have uu:=aI P0 X0;refine tkH 0 uu (h:=tkH 1 uu (h:=tkH 2 uu (h:=tkH 3 uu (h:=tkH 4 uu (h:=?_)))));clear uu;simp only [zl];refine oG 5 (fun K hK=> ?_);go_simp;go_wp2_with (go_at_call 24;(with_reducible refine (kA.out _ (G1.trans F0 zr)).mono ?_);rintro _ v1 ⟨rfl,r3,ae,a0,a2,bs⟩);have P1:v1.cell? ⟨rb,0,none⟩=some (.pointer (some ⟨gb,0,none⟩)):=by have h9:=ae.out.ok.blk.cell 0;rwa [ae.out.rb,ae.out.gb,ai.out,bj.out] at h9
  have X1:=bs ob XC X0;refine hK.out _ _ ⟨P1,X1⟩ (fun hZ=> ?_);clear hZ hK K;try simp only [Ae,zl]
  refine tkH 6 ⟨P1,X1⟩ (h:=?_);simp only [zl];refine oD ?_;go_simp;have bk:Hid (Ad.Step base r r3 w v1):=cd.out.trans ae.out;have bl:Hid (r3.rb=rb):=ae.out.rb.trans ai.out
  by_cases e0:E=0
  case neg=>
   have t1:(E !=0)=true:=by simp [e0]
   have hd:=lh (ab.out E r.st r3 v1 (by rw [ad.out,if_pos e0]) bk.out (by show (r3.g.pns,r3.ws.map OpL.op)=_;rw [a2.out,if_neg e0,a0.out];rfl));clear ab ad kA ae bk bs;go_wp2_with fail;exact hd.out
  case pos=>
  subst e0;have kg:=lh (At1 base r3 v1 ae.out.ok (KindsAt.rel (b7.out.fr F0) (ba.out.non F0) ae.out.fr));unfold K7 at kg;rw [bl.out] at kg;have hd:=lh (fun (w':World) (r4:Ad) (h4:Ad.Step base r3 r4 v1 w') (e4:r4.st=Cm r3.g.cards r3.ws.length r3.g.pns (r3.ws.map OpL.op))=>ab.out 0 _ r4 w' (by rw [ad.out,if_neg (by simp)]) (bk.out.trans h4) (by rw [e4,ae.out.cards,a2.out,if_pos rfl,a0.out]));clear ab ad kA ae bk bs ba b7;go_wp2_with (go_at_call 55;(with_reducible refine (kg.out).mono ?_);rintro _ w9 ⟨rfl,r4,h4,e4⟩);exact hd.out w9 r4 h4.out e4.out
end Oq
namespace Oq
attribute [local go_sem] A03 A04
def Gz (cs:List Cd) (w:World) (e:Ending) (w':World):Prop:=
 ∃r:Ad,e=.returned (.pointer (some ⟨r.rb,0,none⟩))/\Hid (r.okAt w' w.heap.size)/\Hid (r.st=([],[]))/\Hid (r.g.cards=cs)/\Fr Non w w'
theorem Uf (B n c:Nat) (A:Option Addr) (l:List Int) (w:World) (hn:Hid (l.length=n)) (hnm:n<=1000) (hr:Rd w B 5 A n ((Bb 0 l).flatMap Cd.cells)) (hpos:0<w.heap.size):
  Calls zp 19 #[.slice A n c] w (Gz (Bb 0 l) w):=by
 have kn:=lh (Ao5 B n c A l w hn hnm hr hpos);unfold Iq at kn
 have hfin:Hid (∀(w1:World) (g:Gph),GAt w1 w.heap.size g->g.nodes=[]->g.cards=Bb 0 l->Fr Non w w1->Gz (Bb 0 l) w (.returned (.pointer (some ⟨w1.heap.size,0,none⟩))) (w1.alloc (.cells #[.pointer (some ⟨g.gb,0,none⟩),.slice none 0 0] 92))):=by
  intro w1 g hg hgn hgc hf;have f1:Fr Non w1 (w1.alloc (.cells #[.pointer (some ⟨g.gb,0,none⟩),.slice none 0 0] 92)):=(Fr.refl Non w1).alloc _;refine ⟨⟨w1.heap.size,g,none,0,[]⟩,rfl,⟨Blk.new w1 _ _,hf.size,hg.fr f1,Own.nil _ _ _ _,fun x hx=>absurd hx A05,A17 _⟩,?_,hgc,hf.trans f1 zr⟩;show (g.pns,_)=_;unfold Gph.pns;rw [hgn];rfl
 generalize Gz (Bb 0 l) w=POST at*;clear hr hn hnm hpos;go_enter func19,ntmps19;go_wp2_with (go_at_call 20;(with_reducible refine (kn.out).mono ?_);rintro _ w1 ⟨g,rfl,hg,hgn,hgc,f1⟩;(have hd:=lh (hfin.out w1 g hg hgn hgc f1)));exact hd.out
theorem Od (base:Nat) (r:Ad) (w:World) (h:r.okAt w base):
  Calls zp 13 #[.pointer (some ⟨r.rb,0,none⟩)] w (fun e w'=>e=.returned (.int .i64 (r.ws.length:Int))/\Fr Non w w'):=by
 have c1:cS w r.rb 1 r.A r.ws.length r.c:=h.blk.cell 1;clear h;generalize r.ws.length=n at*;generalize r.rb=rb at*;go_enter func13,ntmps13;go_wp2
 go_ret
 exact ⟨rfl,Fr.refl _ _⟩
theorem Oe (base:Nat) (r:Ad) (w:World) (h:r.okAt w base):
  Calls zp 15 #[.pointer (some ⟨r.rb,0,none⟩)] w (Eo (Ak (r.g.pns.map Pn.id)) w):=by
 have c0:w.cell? ⟨r.rb,0,none⟩=some (.pointer (some ⟨r.g.gb,0,none⟩)):=h.blk.cell 0
 have ka:Hid (Calls zp 25 #[.pointer (some ⟨r.g.gb,0,none⟩)] w (Eo (Ak (r.g.pns.map Pn.id)) w)):=by
  refine (Sx base r.g w S3 h.graph).mono ?_;rintro e w'' ⟨A5,c5,out,rfl,hp,hs,o5,f5⟩;obtain rfl:=Ie hs (Td rfl hp);exact ⟨A5,c5,rfl,o5,f5⟩
 generalize Ak (r.g.pns.map Pn.id)=IS at*;have hfin:Hid (∀A c w',Own w' w.heap.size 48 3 A IS.length c (IS.flatMap Id.cells)->Fr Non w w'->Eo IS w (.returned (.slice A IS.length c)) w'):=fun A c w' h1 h2=>⟨A,c,rfl,h1,h2⟩;unfold Eo at ka;clear h;generalize Eo IS w=POST at*;generalize r.g.gb=gb at*;generalize r.rb=rb at*;go_enter func15,ntmps15;go_wp2_with (go_at_call 25;(with_reducible refine (ka.out).mono ?_);rintro _ w1 ⟨A5,c5,rfl,o5,f5⟩;(have hd:=lh (hfin.out A5 c5 w1 o5 f5)));exact hd.out
end Oq
section
open Go.RowKit Go.Maps Go.WideElems
open Go.ChangeMaps (modify_eq_set)
namespace Oq
abbrev FkG (f:Int × Int):Value:=.agg #[.int .i64 f.1,.int .i64 f.2]
def LeastAt (w:World) (b m:Nat) (f:Int->Option Int):Prop:=
 ∃(n:Nat) (D:DataW Nat),w.ownsMap zp 3 (plainElem zp 3) b n D/\n<=m/\IsMap D/\∀x,has D (.int .i64 x)=(f x).isSome/\∀i,f x=some i->∀z,D.atKey (.int .i64 x) z=.lit (.int .i64 i)
theorem LeastAt.made (w:World):LeastAt (w.alloc (.map #[] 0)) w.heap.size 0 (fun _=>none):=
 ⟨0,.map [],World.ownsMap_made w _ _ _,A10 _,isMap_empty,fun x=>⟨rfl,fun i h=>by cases h⟩⟩
theorem LeastAt.fr {S:Nat->Prop} {w w':World} {b m:Nat} {f:Int->Option Int} (h:LeastAt w b m f) (hf:Fr S w w') (hb:¬S b):LeastAt w' b m f:=by
 obtain ⟨n,D,ho,hn,rest⟩:=h;obtain ⟨es,clock,hbl,r2⟩:=ho;exact ⟨n,D,⟨es,clock,(hf.block b (Array.getElem?_eq_some_iff.1 hbl).1 hb).trans hbl,r2⟩,hn,rest⟩
theorem LeastAt.lt {w:World} {b m:Nat} {f:Int->Option Int} (h:LeastAt w b m f):b<w.heap.size:=by
 obtain ⟨n,D,ho,_⟩:=h;exact ho.lt
theorem LeastAt.congr {w:World} {b m:Nat} {f g:Int->Option Int} (h:LeastAt w b m f) (hg:∀x,g x=f x):LeastAt w b m g:=by
 obtain ⟨n,D,ho,hn,hm,hs⟩:=h;exact ⟨n,D,ho,hn,hm,fun x=>by rw [hg x];exact hs x⟩
end Oq
end
namespace Oq
attribute [local go_sem] A03 A04
end Oq
end Go.Proofs.YtgbdljlapmjmnaaGreatDoor
namespace Go.Proofs
open Go.Shelf Go.RowKit Go.Lib Go.Sort
end Go.Proofs
namespace Go.Proofs.YtgbdljlapmjmnaaGreatDoor
open Go.RowKit
attribute [local go_sem ↓] Go.wp_at_zero Go.wp_at_succ
section
open Go.RowKit Go.Sort Go.Shelf
namespace Oq
end Oq
end
section
open Go.RowKit Go.Maps
namespace Oq
attribute [local go_sem] A03 A04
theorem Ug (p v:Value):Instr.storeAt 48 p v=stS 48 p v:=rfl
attribute [local go_sem ↓] Ug
theorem At3:(zp.info? 48).map (·.size)=some 3:=by kernel_rfl
theorem one3 (a b:Int) (u:Nat):(#[.int .i64 a,.int .i64 b,.int .u64 (u:Int)]:Array Value).all (·.oneCell')=true:=by simp [Value.oneCell']
def RF (f:Int->Option Int) (left:Lit->Bool) (xs:List (Int × Int)):Prop:=(xs.map Prod.fst).Nodup/\∀d i,(d,i)∈xs<->(f d=some i/\left (.int .i64 d)=false)
theorem RF.start {f:Int->Option Int} {left:Lit->Bool} (h:∀d,(f d).isSome=left (.int .i64 d)):RF f left []:=
 ⟨List.nodup_nil,fun d i=>⟨fun h=>absurd h A05,fun ⟨h1,h2⟩=>by rw [<- h d,h1] at h2;cases h2⟩⟩
theorem RF.step {f:Int->Option Int} {left:Lit->Bool} {xs:List (Int × Int)} (h:RF f left xs) {x c:Int} (hx:f x=some c) (hl:left (.int .i64 x)=true):RF f (fun z=>left z&& !z.sameKey (.int .i64 x)) (xs++[(x,c)]):=by
 have hs:∀d:Int,(Lit.int .i64 d).sameKey (.int .i64 x)=decide (d=x):=by
  intro d
  by_cases e:d=x
  ·
   subst e;rw [decide_eq_true rfl];exact WideAt.sameKey_self (by simp [WideAt.IsKeyLit])
  ·
   rw [decide_eq_false e];exact sameKey_ne (fun e2=>e (by injection e2))
 refine ⟨?_,fun d i=> ?_⟩
 ·
  rw [A16];refine List.nodup_append.2 ⟨h.1,by simp,fun a ha b hb=> ?_⟩;obtain rfl:=List.mem_singleton.1 (show b∈[x] from hb);rintro rfl;obtain ⟨⟨d,i⟩,h1,rfl⟩:=List.mem_map.1 ha;have:=((h.2 d i).1 h1).2;rw [hl] at this
  cases this
 ·
  rw [List.mem_append,h.2 d i];dsimp only;rw [hs d]
  by_cases e:d=x
  ·
   subst e;rw [hl,decide_eq_true rfl];constructor
   ·
    rintro (⟨_,h2⟩|h2)
    · cases h2
    ·
     have:=List.mem_singleton.1 h2;injection this with _ e2
     subst e2;exact ⟨hx,rfl⟩
   ·
    rintro ⟨h1,_⟩;rw [hx] at h1;injection h1 with h1
    subst h1;exact .inr (List.mem_singleton.2 rfl)
  ·
   rw [decide_eq_false e];constructor
   ·
    rintro (⟨h1,h2⟩|h2)
    · exact ⟨h1,by rw [h2];rfl⟩
    ·
     have:=List.mem_singleton.1 h2;injection this with e2 _
     exact absurd e2 e
   ·
    rintro ⟨h1,h2⟩;exact .inl ⟨h1,by simpa using h2⟩
theorem RF.done {f:Int->Option Int} {left:Lit->Bool} {xs:List (Int × Int)} (h:RF f left xs) (hl:∀kl,left kl=false):∀d i,(d,i)∈xs<->f d=some i:=fun d i=>by
 rw [h.2 d i,hl];exact ⟨fun h=>h.1,fun h=>⟨h,rfl⟩⟩
theorem RF.few {f:Int->Option Int} {left:Lit->Bool} {xs:List (Int × Int)} (h:RF f left xs) (hd:∀d i,f d=some i->1<=d/\d<=12):xs.length<=12:=by
 have hs:∀d∈xs.map Prod.fst,d∈(List.range 12).map (fun (i:Nat)=>(i:Int)+1):=by
  intro d hm;obtain ⟨⟨d',i⟩,h1,rfl⟩:=List.mem_map.1 hm;have h2:=hd d' i ((h.2 d' i).1 h1).1;exact List.mem_map.2 ⟨(d'-1).toNat,List.mem_range.2 (by omega),by omega⟩
 have:=Gv h.1 hs;simpa using this
end Oq
end
namespace Oq
attribute [local go_sem] A03 A04
attribute [local go_sem ↓] Gk Bo Iz Ug T2
theorem Uh (base B n c:Nat) (A:Option Addr) (r:FG) (x:OpL) (hs:List Nat) (w:World) (h:r.own w base) (hx:x.lies w base) (hb:base<=w.heap.size) (hok:x.op.ok) (hp:x.pastA=none/\x.pastC=0/\x.past=[]) (hdev:∃d:Nat,x.by_=(d:Int)/\d<=1000) (hat:0<=x.at_/\x.at_<=3)
    (hn:Hid (hs.length=n)) (hr:Rd w B 1 A n (hs.map Qv)) (hn3:n<=3) (hlt:∀p∈hs,p<r.l.length) (hin:plc r.l (Bs r.l x.op hs).name=none->Au r.cards r.l (sgn (Bs r.l x.op hs))=0/\FkB (r.l++[Aw r.l (sgn (Bs r.l x.op hs))])):
    Calls zp 45 #[.agg r.cells,.agg x.cells,.slice A n c] w (Gy base r x.op hs w):=by
  have ec:=h.num.few;have hl:=Ci (P:=zp) w.heap.size 28 underlying28 rfl (cs:=r.cells) Dd
  have s0:Bz w (((w.alloc (.cells r.cells 28)).alloc (.cells x.cells 55)).alloc (.cells #[.slice none 0 0,.slice none 0 0,.slice none 0 0,.slice none 0 0] 28)) r.cells x x.sq x.at_ none 0 0 []:=by
    have f0:Fr Non w (((w.alloc (.cells r.cells 28)).alloc (.cells x.cells 55)).alloc (.cells #[.slice none 0 0,.slice none 0 0,.slice none 0 0,.slice none 0 0] 28)):=(((Fr.refl Non w).alloc _).alloc _).alloc _;have b1:=(Blk.new (w.alloc (.cells r.cells 28)) 55 x.cells).alloc (.cells #[.slice none 0 0,.slice none 0 0,.slice none 0 0,.slice none 0 0] 28);have b2:=Blk.new ((w.alloc (.cells r.cells 28)).alloc (.cells x.cells 55)) 28 #[.slice none 0 0,.slice none 0 0,.slice none 0 0,.slice none 0 0];rw [A12] at b1;rw [A12,A12] at b2
    have ex:x.put x.sq x.at_ none 0 []=x:=by
      obtain ⟨h1,h2,h3⟩:=hp;unfold OpL.put;rw [<- h1,<- h2,<- h3]
    refine ⟨((Blk.new w 28 r.cells).alloc _).alloc _,by rw [ex];exact b1,b2,f0,by simp only [A12];omega,Own.nil _ _ _ _,rfl⟩
  have kb:=lh (fun (v:World) (hf:Fr Non w v)=>Tv base B n c r A hs v (h.non hf) hn (hr.fr hf zr) (by omega) hlt)
  have ag:Hid (∀p,p<r.l.length->∃(m:Pn) (b ab:Nat),r.l[p]? =some m/\r.lA=some ⟨b,ab,none⟩/\cI w b (ab+p*27) m.o.by_/\cI w b (ab+p*27+1) m.o.sq/\cI w b (ab+p*27+3) m.o.at_):=by
    intro i hi;obtain ⟨y,b,ab,_,h1,_,h3,_,h4⟩:=h.xAt (A06 hi);exact ⟨_,b,ab,A06 hi,h3,by rw [<- h1];exact h4 0 (by omega) _ rfl,by rw [<- h1];exact h4 1 (by omega) _ rfl,by rw [<- h1];exact h4 3 (by omega) _ rfl⟩
  have aj:Hid (∀p,p<r.l.length->∃(m:Pn) (b ab:Nat),r.l[p]? =some m/\r.iA=some ⟨b,ab,none⟩/\cI w b (ab+p*3) m.id.b/\cI w b (ab+p*3+1) m.id.s/\cU w b (ab+p*3+2) m.id.u):=fun p hp=>h.idAt hp;have b0:Hid (∀m∈r.l,1<=m.o.sq/\m.o.sq<=14):=fun m hm=>⟨h.num.s1 m hm,by have:=h.num.sq m hm;omega⟩;have bt:Hid (∀m∈r.l,m.o.at_<=42):=fun m hm=>by have:=h.num.at_ m hm;omega
  have bp:Hid (∀ys k p m,ys[k]? =some p->r.l[p]? =some m->Cw r.l x.by_ ys (k+1)=if m.o.by_=x.by_ then max (Cw r.l x.by_ ys k) (m.o.sq+1) else Cw r.l x.by_ ys k):=fun ys k p m h1 h2=>Tw h1 h2;have e4:Hid (∀ys k,1<=Cw r.l x.by_ ys k/\Cw r.l x.by_ ys k<=15):=fun ys k=>⟨N7 _ _ _ _,N4 (by omega) (fun p hp m hm _=>by have:=(b0.out m (A08 hm)).2;omega) k⟩;have et:Hid (∀ys,Cw r.l x.by_ ys 0=1):=fun _=>rfl;replace hlt:=lh hlt;go_enter func45,ntmps45;go_upto_region 1 with (fail)
  generalize ((w.alloc (.cells r.cells 28)).alloc (.cells x.cells 55)).alloc (.cells #[.slice none 0 0,.slice none 0 0,.slice none 0 0,.slice none 0 0] 28)=w0 at*;have z1:cI w0 (w.heap.size+1) 1 x.sq:=s0.b.cell 1;have z2:=s0.b.frozen 1;go_upto_region 2 with (fail)
  have s1:=s0.sq 1;generalize w0.setCell ⟨w.heap.size+1,1,none⟩ (.int .i64 1)=w1 at*;clear s0 z1 z2;have bg:=s1.g;have ck:=s1.sz;go_upto_region 3 with (go_at_call 89;(with_reducible refine (kb.out _ s1.f).mono ?_);rintro _ w2 ⟨ys,A7,c7,rfl,cc,ce,ac,f2⟩)
  replace ac:=Gw ac ck;have s2:=s1.non f2;clear s1 bg kb f2 ck;replace cc:=lh cc;replace ce:=lh ce;have g1:Hid (r.cells[1]? =some (.slice r.lA r.l.length r.lC)):=rfl;have g2:Hid (r.cells[2]? =some (.slice r.iA r.l.length r.iC)):=rfl;have g3:Hid (r.cells[3]? =some (.slice r.pA r.l.length r.pC)):=rfl;have ar:=lh (bp.out ys);have b3:=lh (e4.out ys);have cv:=lh (et.out ys)
  have d8:ys.length<=14:=by
    have:=Gv cc.out.1 (ys:=List.range r.l.length) (fun q hq=>List.mem_range.2 (ce.out q hq));simp at this;omega
  clear bp e4 et;generalize hSQ:Cw r.l x.by_ ys=SQ at*;obtain ⟨M,hM⟩:=Aa ys.length;rw [hM.out] at ac d8 ⊢;obtain ⟨N,hN⟩:=Aa r.l.length;rw [hN.out] at g1 g2 g3 ag aj ec hlt ce;obtain ⟨LA,di⟩:=Aa r.lA;rw [di.out] at g1 ag;obtain ⟨IA,cu⟩:=Aa r.iA;rw [cu.out] at g2 aj;obtain ⟨LC,dt⟩:=Aa r.lC;rw [dt.out] at g1;obtain ⟨IC,dp⟩:=Aa r.iC;rw [dp.out] at g2;go_wp2_with fail
  go_loopw [8] (fun v wr=>∃k:Nat,v=.int .i64 (k:Int)/\k<=M/\Bz w wr r.cells x (SQ k) x.at_ none 0 0 []/\Own wr (w.heap.size+3) 3 1 A7 M c7 (ys.map Qv)) (fun v _=>M-(intOf v).toNat)
  case atStart=>exact ⟨0,rfl,A17 _,by rw [cv.out];exact s2,ac⟩
  case round=>
    obtain ⟨k,rfl,hk,s3,a4⟩:=hrel;clear s2 ac
    by_cases hkM:k<M
    · obtain ⟨p,cq⟩:∃p,ys[k]? =some p:=⟨_,A06 (by rw [hM.out];exact hkM)⟩
      have dl:=ce.out p (A08 cq);obtain ⟨m,b,ab,hm,rfl,c0,c1,c3⟩:=ag.out p dl;obtain ⟨b7,o7,u7,rfl,_,dc,d7⟩:=a4.rd.at hkM;rw [A13,cq] at dc;injection dc with dc
      subst dc;replace d7:cI wr b7 (o7+k) (p:Int):=d7;have dk:=lh (ar.out k p m cq hm);have fj:=b3.out k;have fo:=b0.out m (A08 hm);obtain ⟨i1,i2,i3⟩:=ix k M
      obtain ⟨p1,p2,p3⟩:=ix p N
      have t0:decide ((k:Int)<M)=true:=decide_eq_true i2;have en:decide (k<M)=true:=decide_eq_true hkM;have e1:=iw ((k:Int)+1);have e2:=iw (m.o.sq+1);go_upto_region 6 with (fail)
      have F0:Fr Non wr wr.drew:=(Fr.refl Non wr).drew;have f3:Fr Non w wr.drew:=s3.f.trans F0 zr;have H0:cS wr.drew w.heap.size 1 (some ⟨b,ab,none⟩) N LC:=(s3.g.cell 1).trans g1.out;have D0:cI wr.drew b7 (o7+k) (p:Int):=d7;have E0:cI wr.drew b (ab+p*27) m.o.by_:=f3.cell c0 zq;have X0:cI wr.drew (w.heap.size+1) 0 x.by_:=s3.b.cell 0;refine wp_region_held_drew (S:=fun w'=>cS w' w.heap.size 1 (some ⟨b,ab,none⟩) N LC/\cI w' b7 (o7+k) (p:Int)/\cI w' b (ab+p*27) m.o.by_/\cI w' (w.heap.size+1) 0 x.by_) (by kernel_rfl) ⟨H0,D0,E0,X0⟩ (fun hHeld=> ?_);clear hHeld;have uu:=aI H0 (aI D0 (aI E0 X0));refine tkH 0 uu (h:=tkH 1 uu (h:=tkH 2 uu (h:=tkH 3 uu (h:=tkH 4 uu (h:=tkH 5 uu (h:=tkH 6 uu (h:=tkH 7 uu (h:=tkH 8 uu (h:=tkH 9 uu (h:=tkH 10 uu (h:=tkH 11 uu (h:=?_))))))))))));clear uu;simp only [zl];refine oD ?_;go_simp;have s4:=s3.non F0;have af:=a4.drew;have e0:=f3.cell c1 zq;generalize wr.drew=w4 at*;clear H0 E0 X0 c0 c3 s3 a4 f3 d7 ag aj
      by_cases hby:m.o.by_=x.by_
      · rw [if_pos hby] at dk
        have t1:(m.o.by_==x.by_)=true:=beq_iff_eq.2 hby;clear cq hm;go_upto_region 7 with (fail)
        have H0:cS w4.drew w.heap.size 1 (some ⟨b,ab,none⟩) N LC:=(s4.g.cell 1).trans g1.out;replace D0:cI w4.drew b7 (o7+k) (p:Int):=D0;have E0:cI w4.drew b (ab+p*27+1) m.o.sq:=e0;have X0:cI w4.drew (w.heap.size+1) 1 (SQ k):=s4.b.cell 1;refine C9 (S:=fun w'=>cS w' w.heap.size 1 (some ⟨b,ab,none⟩) N LC/\cI w' b7 (o7+k) (p:Int)/\cI w' b (ab+p*27+1) m.o.sq/\cI w' (w.heap.size+1) 1 (SQ k)) 14 (by kernel_rfl) ?_;have uu:=aI H0 (aI D0 (aI E0 X0));refine tkG 0 uu (h:=tkG 1 uu (h:=tkG 2 uu (h:=tkG 3 uu (h:=tkG 4 uu (h:=tkG 5 uu (h:=tkG 6 uu (h:=tkG 7 uu (h:=tkG 8 uu (h:=tkG 9 uu (h:=tkG 10 uu (h:=tkG 11 uu (h:=?_))))))))))));clear uu;simp only [zl];refine tkG 12 ⟨H0,D0,E0,X0⟩ (h:=tkG 13 ⟨H0,D0,E0,X0⟩ (h:=?_));simp only [zl];have nz:=s4.b.frozen 1;refine C5 (by kernel_rfl) ?_;refine oG 14 (fun K hK=> ?_);go_simp;refine hK.out _ _ trivial (fun hZ=> ?_);clear hZ hK K;try simp only [Ae,zl]
        refine oD ?_;go_simp;have s5:=(s4.sq (max (SQ k) (m.o.sq+1))).non (Fr.refl Non _).drew;have a8:=(Own.setFar (i:=1) af s4.b (by decide) (.int .i64 (max (SQ k) (m.o.sq+1)))).drew;clear nz H0 D0 E0 X0 s4 af e0;generalize (w4.setCell ⟨w.heap.size+1,1,none⟩ (.int .i64 (max (SQ k) (m.o.sq+1)))).drew=w5 at*;go_wp2_with fail;go_roundw
        case rel=>exact ⟨k+1,by go_num,by omega,by rw [dk.out];exact s5,a8⟩
        case measure=>simp [intOf];omega
      · rw [if_neg hby] at dk
        have t1:(m.o.by_==x.by_)=false:=beq_eq_false_iff_ne.2 hby;clear cq hm;go_wp2_with fail;go_roundw
        case rel=>exact ⟨k+1,by go_num,by omega,by rw [dk.out];exact s4,af⟩
        case measure=>simp [intOf];omega
    · obtain rfl:k=M:=by omega
      have t0:decide ((k:Int)<k)=false:=decide_eq_false (by omega);have en:decide (k<k)=false:=decide_eq_false (by omega)
      have ef:Hid (SQ k=Bc r.l (An r.l (hs.map (nmP r.l))) x.by_ r.l.length+1):=by
        show _=_;rw [<- hSQ,<- hM.out];exact Ar5 h.rows (by rw [hN.out];omega) cc.out (by intro p hp;rw [hN.out];exact hlt.out p hp) _
      have eu:=b3.out k;obtain ⟨S,hS⟩:=Aa (SQ k);rw [hS.out] at ef eu s3;clear ar b3 cv hSQ;clear hS;have bj:Hid (late r.l ((hs.take 0).map (nmP r.l))=0):=rfl
      have bf:Hid (∀k p m,hs[k]? =some p->r.l[p]? =some m->late r.l ((hs.take (k+1)).map (nmP r.l))=max (late r.l ((hs.take k).map (nmP r.l))) m.o.at_):=by
        intro k p m hp hm;have h1:(hs.map (nmP r.l))[k]? =some (nmP r.l p):=by rw [A13,hp];rfl
        have h2:=Rl r.l (hs.map (nmP r.l)) k h1;rw [List.map_take,List.map_take];rw [h2,Cv hm,Gs (h.rows.ok p m hm).plc hm]
      have bl:Hid (∀k p m,hs[k]? =some p->r.l[p]? =some m->(hs.take (k+1)).map (nmP r.l)=(hs.take k).map (nmP r.l)++[m.id]):=fun k p m hp hm=>by rw [Dm hp,A16,List.map_cons,List.map_nil,Cv hm]
      have az:Hid (∀k,0<=late r.l ((hs.take k).map (nmP r.l))/\late r.l ((hs.take k).map (nmP r.l))<=42):=fun k=>⟨Tp _ _,Rm r.l 42 (by omega) bt.out _⟩;have bk:Hid ((hs.take 0).map (nmP r.l)=[]):=rfl;have ax:Hid (late r.l ((hs.take n).map (nmP r.l))=late r.l (hs.map (nmP r.l))):=by show _=_;rw [<- hn.out,A19]
      have bb:Hid ((hs.take n).map (nmP r.l)=hs.map (nmP r.l)):=by show _=_;rw [<- hn.out,A19]
      have eg:Hid (∀k,((hs.take k).map (nmP r.l)).length<=k):=fun k=>by rw [A11,List.length_take];omega
      obtain ⟨LT,cf⟩:∃LT:Nat->Int,Hid (∀k,LT k=late r.l ((hs.take k).map (nmP r.l))):=⟨_,fun _=>rfl⟩;obtain ⟨NM,cw⟩:∃NM:Nat->List Id,Hid (∀k,NM k=(hs.take k).map (nmP r.l)):=⟨_,fun _=>rfl⟩;replace az:Hid (∀k,0<=LT k/\LT k<=42):=fun k=>by rw [cf.out];exact az.out k
      replace bf:Hid (∀k p m,hs[k]? =some p->r.l[p]? =some m->LT (k+1)=max (LT k) m.o.at_):=fun k p m h1 h2=>by rw [cf.out,cf.out];exact bf.out k p m h1 h2
      replace bl:Hid (∀k p m,hs[k]? =some p->r.l[p]? =some m->NM (k+1)=NM k++[m.id]):=fun k p m h1 h2=>by rw [cw.out,cw.out];exact bl.out k p m h1 h2
      replace bk:Hid (NM 0=[]):=(cw.out 0).trans bk.out;replace bj:Hid (LT 0=0):=(cf.out 0).trans bj.out;replace ax:Hid (LT n=late r.l (hs.map (nmP r.l))):=(cf.out n).trans ax.out;replace bb:Hid (NM n=hs.map (nmP r.l)):=(cw.out n).trans bb.out;clear cf cw eg;generalize wr=wb at*;go_wp2_with fail
      go_loopw [9,10] (fun t v wr=>∃(j:Nat) (Ap:Option Addr) (cp:Nat),v=.int .i64 (j:Int)/\t=.int .i64 (LT j)/\j<=n/\Bz w wr r.cells x S x.at_ Ap j cp (NM j)/\Own wr (w.heap.size+3) 3 1 A7 k c7 (ys.map Qv)) (fun _ v _=>n-(intOf v).toNat)
      case atStart=>exact ⟨0,none,0,rfl,by rw [bj.out],A17 _,by rw [bk.out];exact s3,a4⟩
      case round=>
        obtain ⟨j,Ap,cp,rfl,rfl,hj,s4,af⟩:=hrel;clear s3 a4
        by_cases hjn:j<n
        · obtain ⟨p,cd⟩:∃p,hs[j]? =some p:=⟨_,A06 (by rw [hn.out];exact hjn)⟩
          have dl:=hlt.out p (A08 cd);obtain ⟨m,b,ab,hm,rfl,c0,c1,c3⟩:=ag.out p dl;obtain ⟨m',bi,oi,dh,rfl,d0,d1,d2⟩:=aj.out p dl;obtain rfl:m'=m:=by rw [hm] at dh;injection dh with dh;exact dh.symm
          obtain ⟨b4,o4,u4,rfl,_,db,cx⟩:=hr.at hjn;rw [A13,cd] at db;injection db with db
          subst db;replace cx:cI w b4 (o4+j) (p:Int):=cx;have d7:=s4.f.cell cx zq;have fu:=lh (bf.out j p m' cd hm);have fa:=lh (bl.out j p m' cd hm);have dq:=az.out j;have fo:=bt.out m' (A08 hm);obtain ⟨i1,i2,i3⟩:=ix j n
          obtain ⟨p1,p2,p3⟩:=ix p N
          have t0:decide ((j:Int)<n)=true:=decide_eq_true i2;have en:decide (j<n)=true:=decide_eq_true hjn;have e1:=iw ((j:Int)+1);have f4:=s4.f;have co:=s4.past.row;have fe:=s4.sz;have ds:=lh cd;clear cd hm c0 c1;go_upto_region 12 with (fail)
          have F0:Fr Non wr wr.drew:=(Fr.refl Non wr).drew;have Hb:cS wr w.heap.size 2 (some ⟨bi,oi,none⟩) N IC:=(s4.g.cell 2).trans g2.out;have Db:cI wr b4 (o4+j) (p:Int):=d7;obtain ⟨Ib,Jb,Kb⟩:=zk3 f4 d0 d1 d2;have Pb:wr.cell? ⟨w.heap.size+1,4,none⟩=some (.slice Ap j cp):=by have h9:=s4.b.cell 4;have h8:=s4.len;rw [<- h8];exact h9
          have H0:cS wr.drew w.heap.size 2 (some ⟨bi,oi,none⟩) N IC:=Hb;have D0:cI wr.drew b4 (o4+j) (p:Int):=Db;have I0:cI wr.drew bi (oi+p*3) m'.id.b:=Ib;have J0:cI wr.drew bi (oi+p*3+1) m'.id.s:=Jb;have K0:cU wr.drew bi (oi+p*3+2) m'.id.u:=Kb;have P0:cS wr.drew (w.heap.size+1) 4 Ap j cp:=Pb;clear d7 aj ag;refine C9 (S:=fun w'=>cS w' w.heap.size 2 (some ⟨bi,oi,none⟩) N IC/\cI w' b4 (o4+j) (p:Int)/\cI w' bi (oi+p*3) m'.id.b/\cI w' bi (oi+p*3+1) m'.id.s/\cU w' bi (oi+p*3+2) m'.id.u/\cS w' (w.heap.size+1) 4 Ap j cp) 13 (by kernel_rfl) ?_;have uu:=aI H0 (aI D0 (aI I0 (aI J0 (aI K0 P0))));refine tkG 0 uu (h:=tkG 1 uu (h:=tkG 2 uu (h:=tkG 3 uu (h:=tkG 4 uu (h:=tkG 5 uu (h:=tkG 6 uu (h:=tkG 7 uu (h:=tkG 8 uu (h:=tkG 9 uu (h:=?_))))))))));clear uu;simp only [zl];refine Cc 10 (by kernel_rfl) rfl (fun K hK=> ?_);go_simp;have a5:=(Blk.new wr 48 m'.id.V).drew;have F1:Fr Non wr (wr.alloc (.cells m'.id.V 48)).drew:=((Fr.refl _ _).alloc _).drew;generalize (wr.alloc (.cells m'.id.V 48)).drew=v1 at*;obtain ⟨H1,D1,I1,J1,K1,P1⟩:=zk6 F1 Hb Db Ib Jb Kb Pb;refine hK.out _ _ ⟨H1,D1,I1,J1,K1,P1⟩ (fun hZ=> ?_);clear hZ hK K;try simp only [Ae,zl]
          have s5:=s4.non F1;refine Cc 11 (by kernel_rfl) rfl (fun K hK=> ?_);refine E1 (base:=w.heap.size+3) (.tmp 55) (.tmp 64) 25 rfl rfl rfl Dr s5.past (Rd.blk (n:=1) (size:=3) a5 rfl) (by simp [Value.oneCell']) (by omega) (by omega) (A01 fe F1.size) ?_;intro A8 c8 v2 av bo dy;have fS:∀q,Ac Ap=some q->w.heap.size+3<=q:=fun q e=>(co q e).1;have f8:Fr Non w v2:=s5.f.trans bo (fun q hq e=>by have h9:=fS q e;omega);have H2:=(s5.g.fr bo (fun e=>by have h9:=fS _ e;omega)).cell 2|>.trans g2.out;obtain ⟨D2,I2,J2,K2⟩:=zk4 f8 cx d0 d1 d2;have P2:v2.cell? ⟨w.heap.size+1,4,none⟩=some (.slice Ap j cp):=by have h9:=(s5.b.fr bo (fun e=>by have h9:=fS _ e;omega)).cell 4;have h8:=s5.len;rw [<- h8];exact h9
          refine hK.out _ _ ⟨H2,D2,I2,J2,K2,P2⟩ (fun hZ=> ?_);clear hZ hK K;try simp only [Ae,zl]
          refine tkG 12 ⟨H2,D2,I2,J2,K2,P2⟩ (h:=?_);simp only [zl];have nz:=(s5.b.fr bo (fun e=>by have h9:=fS _ e;omega)).frozen 4;refine C5 (by kernel_rfl) ?_;refine oG 13 (fun K hK=> ?_);go_simp;refine hK.out _ _ trivial (fun hZ=> ?_);clear hZ hK K;try simp only [Ae,zl]
          refine oD ?_;go_simp
          have ci:Own v2 (w.heap.size+3) 48 3 A8 (j+1) c8 ((NM (j+1)).flatMap Id.cells):=by
            rw [fa.out,List.flatMap_append];exact av
          have s6:=s5.past! bo fS ci (by rw [fa.out,A09,s5.len];rfl);have a3:=Own.setFar (i:=4) (Own.grow2 (af.fr F1 zr) s5.past (by decide) bo) (s5.b.fr bo (fun e=>by have h9:=fS _ e;omega)) (by decide) (.slice A8 (j+1) c8);clear s5 s4 af av ci bo dy a5 F0 F1 f8 f4 fS co nz Hb Db Ib Jb Kb Pb H0 D0 I0 J0 K0 P0 H1 D1 I1 J1 K1 P1 H2 D2 I2 J2 K2 P2 d0 d1 d2 cx fe;generalize v2.setCell ⟨w.heap.size+1,4,none⟩ (.slice A8 (j+1) c8)=v6 at*;go_upto_region 13 with (fail)
          have F0:Fr Non v6 v6.drew:=(Fr.refl Non v6).drew;have f6:=s6.f;obtain ⟨b8,o8,u8,e8,_,df,d7⟩:=(hr.fr f6 zr).at hjn;injection e8 with e8
          injection e8 with e8 e9
          subst e8;subst e9;rw [A13,ds.out] at df;injection df with df
          subst df;have H0:cS v6.drew w.heap.size 1 (some ⟨b,ab,none⟩) N LC:=(s6.g.cell 1).trans g1.out;have D0:cI v6.drew b4 (o4+j) (p:Int):=d7;have E0:cI v6.drew b (ab+p*27+3) m'.o.at_:=f6.cell c3 zq;refine wp_region_held_drew (S:=fun w'=>cS w' w.heap.size 1 (some ⟨b,ab,none⟩) N LC/\cI w' b4 (o4+j) (p:Int)/\cI w' b (ab+p*27+3) m'.o.at_) (by kernel_rfl) ⟨H0,D0,E0⟩ (fun hHeld=> ?_);clear hHeld;have uu:=aI H0 (aI D0 E0);refine tkH 0 uu (h:=tkH 1 uu (h:=tkH 2 uu (h:=tkH 3 uu (h:=tkH 4 uu (h:=tkH 5 uu (h:=tkH 6 uu (h:=tkH 7 uu (h:=tkH 8 uu (h:=tkH 9 uu (h:=tkH 10 uu (h:=tkH 11 uu (h:=?_))))))))))));clear uu;simp only [zl];refine oD ?_;go_simp;have s7:=s6.non F0;have ac:=a3.drew;clear s6 a3 F0 f6 H0 D0 E0 c3 d7;generalize v6.drew=v7 at*;go_wp2_with fail;go_roundw
          case rel=>exact ⟨j+1,A8,c8,by go_num,by rw [fu.out],by omega,s7,ac⟩
          case measure=>simp [intOf];omega
        · obtain rfl:j=n:=by omega
          have t0:decide ((j:Int)<j)=false:=decide_eq_false (by omega);have en:decide (j<j)=false:=decide_eq_false (by omega);clear bf bl bk bj ag aj;have dq:=az.out j;obtain ⟨T,hT⟩:=Aa (LT j);rw [hT.out] at ax dq ⊢;rw [bb.out] at s4;have e1:=iw (x.at_+T);have z3:cI wr (w.heap.size+1) 3 x.at_:=s4.b.cell 3;have zf:=s4.b.frozen 3;go_upto_region 15 with (fail)
          have s5:=s4.at_ (x.at_+T);have a8:=Own.setFar (i:=3) af s4.b (by decide) (.int .i64 (x.at_+T));clear s4 af z3 zf az bb hT;generalize wr.setCell ⟨w.heap.size+1,3,none⟩ (.int .i64 (x.at_+T))=v1 at*;have bd:Hid ((hs.map (nmP r.l)).length=j):=by show _=_;rw [A11,hn.out]
          have ks:=lh (Yt v1.heap.size j cp Ap (hs.map (nmP r.l)) v1 bd.out s5.past.rd (by omega));have z4:v1.cell? ⟨w.heap.size+1,4,none⟩=some (.slice Ap j cp):=by have h9:=s5.b.cell 4;have h8:=s5.len;rw [<- h8];exact h9
          have b1:=s5.b;have dg:=s5.sz;go_upto_region 16 with (go_at_call 16;(with_reducible refine (ks.out).mono ?_);rintro _ v2 ⟨A9,c9,rfl,o9,f9⟩;(have z5:=f9.cell z4 zq);(have zf:=(b1.fr f9 zq).frozen 4))
          have s6:=s5.past! f9 (fun _ e=>e.elim) (Gw o9 dg) (by rw [Fc];exact bd.out);have a3:=Own.setFar (i:=4) (a8.fr f9 zr) (b1.fr f9 zq) (by decide) (.slice A9 j c9);clear s5 a8 ks z4 b1 dg z5 zf o9 f9;generalize v2.setCell ⟨w.heap.size+1,4,none⟩ (.slice A9 j c9)=v3 at*
          have cy:Hid ((x.put S (x.at_+T) A9 c9 (Ak (hs.map (nmP r.l)))).op=Bs r.l x.op hs):=by
            show _=_;unfold Bs;show _=({x.op with sq:=Bc r.l (An r.l (hs.map (nmP r.l))) x.by_ r.l.length+1,at_:=x.at_+late r.l (hs.map (nmP r.l)),past:=Ak (hs.map (nmP r.l))}:Op);rw [<- ef.out,<- ax.out];rfl
          have be:Hid ((x.put S (x.at_+T) A9 c9 (Ak (hs.map (nmP r.l)))).op.ok):={hok with sq:=(show I64 S from ⟨by omega,by omega⟩),at_:=(show I64 (x.at_+T) from ⟨by omega,by omega⟩),past:=⟨by
              show (Ak (hs.map (nmP r.l))).length<=1000;rw [Fc,bd.out];omega,fun y hy=>by
              obtain ⟨p,hp,rfl⟩:=List.mem_map.1 ((Cf _).mem_iff.1 hy);have fc:p<r.l.length:=by rw [hN.out];exact hlt.out p hp
              rw [Cv (A06 fc)];exact (h.ok _ (A20 fc)).2⟩}
          generalize hPS:hs.map (nmP r.l)=PS at*;have a9:Hid (∀(v:World) (CS:Array Value),Bz w v CS x S (x.at_+T) A9 j c9 (Ak PS)->(x.put S (x.at_+T) A9 c9 (Ak PS)).lies v base):=fun v _ s=>(hx.non s.f).put (by have h8:=s.len;have h9:=(RowAt.of_own s.past).lies.lower (base':=base) (by omega);rw [h8];exact h9);generalize hY:x.put S (x.at_+T) A9 c9 (Ak PS)=Y at*;obtain ⟨aa,al⟩:=Aa (Bs r.l x.op hs).name;have ee:Y.op.name=aa:=by rw [cy.out,al.out]
          have fd:=lh (Ap0 Y aa ee v3 ((a9.out v3 _ s6).at) be.out);have b9:(zp.info? 55).map (·.size)=some Y.cells.size:=by rw [show Y.cells.size=27 from rfl];kernel_rfl
          have e5:=Ci (P:=zp) (w.heap.size+1) 55 underlying55 rfl (cs:=Y.cells) b9;have bx:Blk v3 (w.heap.size+1) 55 Y.cells:=hY▸s6.b;go_upto_region 17 with (go_at_call 102;(with_reducible refine (fd.out).mono ?_);rintro _ v4 ⟨rfl,f4⟩;(have ed:=Cy (P:=zp) v4.heap.size 48 (cs:=aa.V) At3 (old:=#[.int .i64 0,.int .i64 0,.int .u64 0]) rfl (one3 _ _ _));(have bn:=Blk.new v4 48 #[.int .i64 0,.int .i64 0,.int .u64 0]))
          have bz:=bn.setRow (cs:=aa.V);have fz:Fr Non v4 ((v4.alloc (.cells #[.int .i64 0,.int .i64 0,.int .u64 0] 48)).setRow v4.heap.size aa.V):=((Fr.refl Non v4).alloc _).setRow (fun hh=>absurd hh (by omega)) _;have s7:=(s6.non f4).non fz;have ac:=(a3.fr f4 zr).fr fz zr;have c4:w.heap.size+3<=v4.heap.size:=A01 s6.sz f4.size;obtain ⟨gi,fp⟩:=Aa v4.heap.size;rw [fp.out] at bz fz s7 ac c4 ⊢;clear ed bn bx fd f4 s6 a3;generalize (v4.alloc (.cells #[.int .i64 0,.int .i64 0,.int .u64 0] 48)).setRow gi aa.V=v5 at*;clear fz;have a0:=bz.cell 0;have a1:=bz.cell 1;have a2:=bz.cell 2;have fk:=(s7.g.cell 2).trans g2.out;have dd:=lh (h.rdIds.fr s7.f zr);rw [hN.out,cu.out] at dd;have bu:=lh (Jt w.heap.size N IC IA r.ids aa v5 (by show _=_;rw [FG.ids_len,hN.out]) dd.out (by omega));have e7:Bd r.ids aa=(plc r.l aa).isSome:=Ar6 r.l aa;rw [e7] at bu;clear e7;unfold Ag at bu
          cases hc:(plc r.l aa).isSome
          case true=>
            rw [hc] at bu
            have ez:Eg r.l x.op hs=r.l:=by
              unfold Eg;rw [al.out,if_pos hc]
            have fs:=Cy (P:=zp) (w.heap.size+2) 28 (cs:=r.cells) Dd (old:=#[.slice none 0 0,.slice none 0 0,.slice none 0 0,.slice none 0 0]) rfl (Gx r);have cz:Hid (∀v',Fr Non w v'->Gy base r x.op hs w (.returned (.agg r.cells)) v'):=fun v' hv=>⟨r,rfl,hv,h.non hv,rfl,ez.symm⟩;clear ez hin hx h e5 b9 cy be a9 ee dd ac
            as_aux_lemma=>
            go_wp2_with (go_at_call 29;(with_reducible refine (bu.out).mono ?_);rintro _ v6 ⟨rfl,f6⟩;(have s8:=s7.non f6);(have bg:=s8.g);(have br:=s8.r));have dw:=br.setRow (cs:=r.cells);have fz:=s8.f.setRow (g:=w.heap.size+2) (fun hh=>absurd hh (by omega)) r.cells;have ek:=lh (cz.out _ fz)
            (try simp only [Exit.inBlock,Exit.then])
            refine Dy (t:=28) rfl rfl dw rfl underlying28 Dd rfl ?_;exact ek.out
          case false=>
            rw [hc] at bu
            have bm:plc r.l (Bs r.l x.op hs).name=none:=by
              rw [al.out]
              cases hq:plc r.l aa with
              |none=>rfl
              |some q=>rw [hq] at hc;cases hc
            obtain ⟨cn,fg⟩:=hin bm;obtain ⟨d,ft,fq⟩:=hdev;have fl:Y.by_=(d:Int):=by rw [<- hY];exact ft
            have kS:=lh (fun (v:World) (hl:Y.lies v base)=>Ar4 Y d base v fl fq hl be.out)
            have ba:Hid (∀(z:OpL) (lA iA pA:Option Addr) (lC iC pC:Nat) (wz:World),Fr Non w wz->z.op=sgn Y.op->z.lies wz base->
                Own wz (w.heap.size+3) 55 27 lA (N+1) lC (r.xs.flatMap (fun x=>x.cells.toList)++z.cells.toList)->
                Own wz (w.heap.size+3) 48 3 iA (N+1) iC (r.ids.flatMap Id.cells++aa.V.toList)->
                Own wz (w.heap.size+3) 22 1 pA (N+1) pC (r.ps.map UpL.cell++[.slice A7 k c7])->
                Own wz (w.heap.size+3) 3 1 A7 k c7 (ys.map Qv)->
                Gy base r x.op hs w (.returned (.agg #[.slice r.cA r.cards.length r.cC,.slice lA (N+1) lC,.slice iA (N+1) iC,.slice pA (N+1) pC])) wz):=by
              intro z lA iA pA lC iC pC wz hf hz dj oL oI oU o7;refine As0 h hb hf (by rw [hz,cy.out]) dj (by rw [<- cy.out];exact be.out) cc.out (by intro p hp;rw [hN.out];exact hlt.out p hp) (by rw [al.out];exact hc) cn fg hN.out hM.out oL (by rw [al.out];exact oI) oU o7
            have dr:=lh (h.ops.sl.rd);rw [hN.out,di.out] at dr;have d5:=lh h.rdIds;rw [hN.out,cu.out] at d5;have em:=lh (h.pasts.sl.rd);rw [hN.out] at em;have c6:=lh (T4 r.xs);have ca:=lh (Id.cells_one r.ids);have du:=lh (Ar9 r.ps);have g0:Hid (r.cells[0]? =some (.slice r.cA r.cards.length r.cC)):=rfl
            have e6:Hid (r.cells=#[.slice r.cA r.cards.length r.cC,.slice LA N LC,.slice IA N IC,.slice r.pA N r.pC]):=by
              show _=_;unfold FG.cells;rw [hN.out,di.out,dt.out,cu.out,dp.out]
            clear cn fg hin hx h b9 cy bm al ee dd di dt cu dp ef dq ax bd hPS hlt cc ce b0 bt hn hr hp hM hok eu;rw [e6.out] at s7 hl g1 g2 g3 g0;obtain ⟨CA,eb⟩:=Aa r.cA;obtain ⟨nc,ei⟩:=Aa r.cards.length;obtain ⟨CC,dm⟩:=Aa r.cC;obtain ⟨PA,d4⟩:=Aa r.pA;obtain ⟨PC,es⟩:=Aa r.pC;rw [eb.out,ei.out,dm.out,d4.out,es.out] at s7 hl g1 g2 g3 g0;rw [eb.out,ei.out,dm.out] at ba;rw [d4.out] at em;clear e6 eb ei dm d4 es;generalize Gy base r x.op hs w=POST at*;generalize r.xs.flatMap (fun x=>x.cells.toList)=LL at*;generalize r.ids.flatMap Id.cells=IL at*;generalize r.ps.map UpL.cell=UL at*;go_upto_region 19 with (go_at_call 29;(with_reducible refine (bu.out).mono ?_);rintro _ v6 ⟨rfl,f6⟩)
            have s8:=s7.non f6;have av:=ac.fr f6 zr;have ff:=bz.fr f6 zq;clear s7 ac bz a0 a1 a2 fk f6 bu;have F0:Fr Non v6 v6.drew:=(Fr.refl Non v6).drew;have dv:=s8.sz;have X0:Blk v6 (w.heap.size+1) 55 Y.cells:=hY▸s8.b;have G0:cS v6 w.heap.size 1 LA N LC:=(s8.g.cell 1).trans g1.out;have fh:=lh (dr.out.fr s8.f zr);refine C9 (S:=fun w'=>Blk w' (w.heap.size+1) 55 Y.cells/\cS w' w.heap.size 1 LA N LC) 8 (by kernel_rfl) ?_;refine tkG 0 ⟨X0,G0⟩ (h:=tkG 1 ⟨X0,G0⟩ (h:=tkG 3 ⟨X0,G0⟩ (h:=?_)));simp only [zl];refine Cc 2 (by kernel_rfl) rfl (fun K hK=> ?_);refine E1 (base:=w.heap.size+3) (.const (.slice none 0 0)) (.tmp 95) 24 rfl rfl rfl slOp (Own.nil _ _ _ _) (fh.out.fr F0 zr) c6.out (by omega) (by omega) dv ?_;intro lA lC v1 oL fL ae;rw [A02,A14] at oL;have F1:Fr Non v6 v1:=F0.trans (Is fL) zr;have a7:∀k,Ac lA=some k->v6.heap.size<=k:=fun k hk=>by rcases ae with e|e;(rw [e] at hk;cases hk);(rw [e] at hk;injection hk with hk;have fn:v6.heap.size=k:=hk;omega)
            have X1:=X0.fr F1 zq;have G1:=F1.cell G0 zq;refine hK.out _ _ ⟨X1,G1⟩ (fun hZ=> ?_);clear hZ hK K;try simp only [A02,Ae,zl]
            refine Cc 4 (by kernel_rfl) rfl (fun K hK=> ?_);go_simp;go_wp2_with (go_at_call 103;(with_reducible refine (kS.out _ (a9.out _ _ (s8.non F1))).mono ?_);rintro _ v2 ⟨z,rfl,ew,dj,f2⟩;have F2:=F1.trans f2 zr;have ey:=oL.fr f2 zr);have X2:=X0.fr F2 zq;have G2:=F2.cell G0 zq;refine hK.out _ _ ⟨X2,G2⟩ (fun hZ=> ?_);clear hZ hK K;try simp only [Ae,zl]
            have fi:=T3 z;refine Cc 5 (by kernel_rfl) rfl (fun K hK=> ?_);go_simp;have a5:=Blk.new v2 55 z.cells;have dx:=ey.alloc (.cells z.cells 55);have F3:Fr Non v6 (v2.alloc (.cells z.cells 55)):=F2.alloc _;have cl:=dj.non ((Fr.refl Non v2).alloc (.cells z.cells 55));obtain ⟨ga,cb⟩:=Aa v2.heap.size;rw [cb.out] at a5 ⊢;generalize v2.alloc (.cells z.cells 55)=v3 at*;have X3:=X0.fr F3 zq;have G3:=F3.cell G0 zq;refine hK.out _ _ ⟨X3,G3⟩ (fun hZ=> ?_);clear hZ hK K;try simp only [Ae,zl]
            refine Cc 6 (by kernel_rfl) rfl (fun K hK=> ?_);refine E1 (base:=w.heap.size+3) (.tmp 96) (.tmp 99) 24 rfl rfl rfl slOp dx (Rd.blk (n:=1) (size:=27) a5 rfl) (N9 z) (by omega) (by omega) (A01 dv F3.size) ?_;intro ai ah v4 er eh ea;have F4:Fr Non v6 v4:=F3.trans eh (fun k hk e=>by have h9:=a7 k e;omega);have cm:=cl.keepP eh (Types.row dx) (by decide) (by decide) (by decide) (by decide) (by decide) (by decide) (by decide);have X4:=X0.fr F4 zq;have G4:=F4.cell G0 zq;refine hK.out _ _ ⟨X4,G4⟩ (fun hZ=> ?_);clear hZ hK K;try simp only [Ae,zl]
            refine tkG 7 ⟨X4,G4⟩ (h:=?_);simp only [zl];have s9:=s8.non F4;have nz:=s9.g.frozen 1;refine C5 (by kernel_rfl) ?_;refine oG 8 (fun K hK=> ?_);go_simp;refine hK.out _ _ trivial (fun hZ=> ?_);clear hZ hK K;try simp only [Ae,zl]
            refine oD ?_;go_simp;have t9:=s9.setG 1 (.slice ai (N+1) ah);have eo:=Own.setFar (i:=1) er s9.g (by decide) (.slice ai (N+1) ah);have ej:=Own.setFar (i:=1) (av.fr F4 zr) s9.g (by decide) (.slice ai (N+1) ah);have de:=(ff.fr F4 zq).far (p:=⟨w.heap.size,1,none⟩) (by have h9:=c4;show gi≠w.heap.size;omega) (.slice ai (N+1) ah);have d6:=cm.setG s9.g 1 (.slice ai (N+1) ah);generalize v4.setCell ⟨w.heap.size,1,none⟩ (.slice ai (N+1) ah)=w9 at*;change Bz w w9 #[.slice CA nc CC,.slice ai (N+1) ah,.slice IA N IC,.slice PA N PC] x S (x.at_+T) A9 j c9 (Ak PS) at t9;clear s9 s8 oL ey dx er fL eh ae ea a7 F0 F1 F2 F3 F4 X0 X1 X2 X3 X4 G0 G1 G2 G3 G4 f2 a5 cb nz fh c6 dr dj cl cm fi kS e5 av ff hl a9 dv;go_upto_region 20 with (fail)
            have cj:=t9.sz;have el:=lh (d5.out.fr t9.f zr)
            go_cut [7] from 102 to 108 (fun s wc=>s=.slice A7 k c7/\∃iA iC,Bz w wc #[.slice CA nc CC,.slice ai (N+1) ah,.slice iA (N+1) iC,.slice PA N PC] x S (x.at_+T) A9 j c9 (Ak PS)/\Own wc (w.heap.size+3) 48 3 iA (N+1) iC (IL++aa.V.toList)/\Own wc (w.heap.size+3) 55 27 ai (N+1) ah (LL++z.cells.toList)/\Own wc (w.heap.size+3) 3 1 A7 k c7 (ys.map Qv)/\z.lies wc base)
            case first=>
              clear ba
              as_aux_lemma=>
              have F0:Fr Non w9 w9.drew:=(Fr.refl Non w9).drew;have G0:cS w9 w.heap.size 2 IA N IC:=t9.g.cell 2;have I0:cI w9 gi 0 aa.b:=de.cell 0;have J0:cI w9 gi 1 aa.s:=de.cell 1;have K0:cU w9 gi 2 aa.u:=de.cell 2;refine C9 (S:=fun w'=>cS w' w.heap.size 2 IA N IC/\cI w' gi 0 aa.b/\cI w' gi 1 aa.s/\cU w' gi 2 aa.u) 7 (by kernel_rfl) ?_;refine tkG 0 ⟨G0,I0,J0,K0⟩ (h:=tkG 1 ⟨G0,I0,J0,K0⟩ (h:=tkG 3 ⟨G0,I0,J0,K0⟩ (h:=?_)));simp only [zl];refine Ar8 2 4 (by kernel_rfl) rfl rfl (fun K hK=> ?_) (fun K hK=> ?_)
              · skip
                refine E1 (base:=w.heap.size+3) (.const (.slice none 0 0)) (.tmp 103) 25 rfl rfl rfl Dr (Own.nil _ _ _ _) (el.out.fr F0 zr) ca.out (by omega) (by omega) cj ?_;intro iA iC v1 oI fI ae;rw [A02,A14] at oI;have F1:Fr Non w9 v1:=F0.trans (Is fI) zr;have a7:∀k,Ac iA=some k->w9.heap.size<=k:=fun k hk=>by rcases ae with e|e;(rw [e] at hk;cases hk);(rw [e] at hk;injection hk with hk;have fn:w9.heap.size=k:=hk;omega)
                obtain ⟨G1,I1,J1,K1⟩:=zk4 F1 G0 I0 J0 K0;refine hK.out _ _ ⟨G1,I1,J1,K1⟩ (fun hZ=> ?_);clear hZ hK K;try simp only [A02,Ae,zl]
                refine Cc 4 (by kernel_rfl) rfl (fun K hK=> ?_);go_simp;have a5:=Blk.new v1 48 aa.V;have fm:=oI.alloc (.cells aa.V 48);have F2:Fr Non w9 (v1.alloc (.cells aa.V 48)):=F1.alloc _;obtain ⟨ga,cb⟩:=Aa v1.heap.size;rw [cb.out] at a5 ⊢;generalize v1.alloc (.cells aa.V 48)=v2 at*;obtain ⟨G2,I2,J2,K2⟩:=zk4 F2 G0 I0 J0 K0;refine hK.out _ _ ⟨G2,I2,J2,K2⟩ (fun hZ=> ?_);clear hZ hK K;try simp only [Ae,zl]
                refine Cc 5 (by kernel_rfl) rfl (fun K hK=> ?_);refine E1 (base:=w.heap.size+3) (.tmp 104) (.tmp 106) 25 rfl rfl rfl Dr fm (Rd.blk (n:=1) (size:=3) a5 rfl) (by simp [Value.oneCell']) (by omega) (by omega) (A01 cj F2.size) ?_;intro ao ak v3 dz d9 b6;have F3:Fr Non w9 v3:=F2.trans d9 (fun k hk e=>by have h9:=a7 k e;omega);obtain ⟨G3,I3,J3,K3⟩:=zk4 F3 G0 I0 J0 K0;refine hK.out _ _ ⟨G3,I3,J3,K3⟩ (fun hZ=> ?_);clear hZ hK K;try simp only [Ae,zl]
                refine tkG 6 ⟨G3,I3,J3,K3⟩ (h:=?_);simp only [zl];have ad:=t9.non F3;have nz:=ad.g.frozen 2;refine C5 (by kernel_rfl) ?_;refine oG 7 (fun K hK=> ?_);go_simp;have dn:=ad.setG 2 (.slice ao (N+1) ak);have bv:=Own.setFar (i:=2) dz ad.g (by decide) (.slice ao (N+1) ak);have bs:=Own.setFar (i:=2) (eo.fr F3 zr) ad.g (by decide) (.slice ao (N+1) ak);have b5:=Own.setFar (i:=2) (ej.fr F3 zr) ad.g (by decide) (.slice ao (N+1) ak);have bw:=(d6.non F3).setG ad.g 2 (.slice ao (N+1) ak);refine hK.out _ _ trivial (fun hZ=> ?_);clear hZ hK K;try simp only [Ae,zl]
                refine oD ?_;go_simp;go_wp2_with fail;go_meet;exact ⟨rfl,ao,ak,dn,bv,bs,b5,bw⟩
              · skip
                go_simp;have a6:=(Blk.new w9 48 aa.V).drew;have F1:Fr Non w9 (w9.alloc (.cells aa.V 48)).drew:=((Fr.refl Non w9).alloc _).drew;have dg:=F1.size;obtain ⟨ga,cb⟩:=Aa w9.heap.size;have fw:w9.heap.size<=w9.heap.size:=A10 _;rw [cb.out] at a6 ⊢;generalize (w9.alloc (.cells aa.V 48)).drew=v1 at*;obtain ⟨G1,I1,J1,K1⟩:=zk4 F1 G0 I0 J0 K0;refine hK.out _ _ ⟨G1,I1,J1,K1⟩ (fun hZ=> ?_);clear hZ hK K;try simp only [Ae,zl]
                refine Cc 2 (by kernel_rfl) rfl (fun K hK=> ?_);refine E1 (base:=w.heap.size+3) (.const (.slice none 0 0)) (.tmp 103) 25 rfl rfl rfl Dr (Own.nil _ _ _ _) (el.out.fr F1 zr) ca.out (by omega) (by omega) (A01 cj dg) ?_;intro iA iC v2 oI fI ae;rw [A02,A14] at oI;have F2:Fr Non w9 v2:=F1.trans (Is fI) zr;have a5:=a6.fr (Is fI) zq;have a7:∀k,Ac iA=some k->w9.heap.size<=k:=fun k hk=>by rcases ae with e|e;(rw [e] at hk;cases hk);(rw [e] at hk;injection hk with hk;omega)
                obtain ⟨G2,I2,J2,K2⟩:=zk4 F2 G0 I0 J0 K0;refine hK.out _ _ ⟨G2,I2,J2,K2⟩ (fun hZ=> ?_);clear hZ hK K;try simp only [A02,Ae,zl]
                refine Cc 5 (by kernel_rfl) rfl (fun K hK=> ?_);refine E1 (base:=w.heap.size+3) (.tmp 104) (.tmp 106) 25 rfl rfl rfl Dr oI (Rd.blk (n:=1) (size:=3) a5 rfl) (by simp [Value.oneCell']) (by omega) (by omega) (A01 cj F2.size) ?_;intro ao ak v3 dz d9 b6;have F3:Fr Non w9 v3:=F2.trans d9 (fun k hk e=>by have h9:=a7 k e;omega);obtain ⟨G3,I3,J3,K3⟩:=zk4 F3 G0 I0 J0 K0;refine hK.out _ _ ⟨G3,I3,J3,K3⟩ (fun hZ=> ?_);clear hZ hK K;try simp only [Ae,zl]
                refine tkG 6 ⟨G3,I3,J3,K3⟩ (h:=?_);simp only [zl];have ad:=t9.non F3;have nz:=ad.g.frozen 2;refine C5 (by kernel_rfl) ?_;refine oG 7 (fun K hK=> ?_);go_simp;have dn:=ad.setG 2 (.slice ao (N+1) ak);have bv:=Own.setFar (i:=2) dz ad.g (by decide) (.slice ao (N+1) ak);have bs:=Own.setFar (i:=2) (eo.fr F3 zr) ad.g (by decide) (.slice ao (N+1) ak);have b5:=Own.setFar (i:=2) (ej.fr F3 zr) ad.g (by decide) (.slice ao (N+1) ak);have bw:=(d6.non F3).setG ad.g 2 (.slice ao (N+1) ak);refine hK.out _ _ trivial (fun hZ=> ?_);clear hZ hK K;try simp only [Ae,zl]
                refine oD ?_;go_simp;go_wp2_with fail;go_meet;exact ⟨rfl,ao,ak,dn,bv,bs,b5,bw⟩
            case rest=>
            obtain ⟨rfl,iA,iC,ad,oI,oL,o7,zl⟩:=hcut;generalize wc=wd at*;clear t9 eo ej d6 de el cj d5 ca;have bq:=ad.sz;have ch:=lh (em.out.fr ad.f zr);have d3:=ad.g.cell 3;replace d3:cS wd w.heap.size 3 PA N PC:=d3
            go_upto_region 22 with (first
              |(at_builtin;go_loud (refine Ba (base:=w.heap.size+3) (.const (.slice none 0 0)) (.tmp 110) 26 rfl rfl rfl rfl slIi (Own.nil _ _ _ _) ch.out du.out (by omega) (by omega) bq ?_);intro pA pC v1 oU fU ae;rw [A02,A14] at oU;have F1:Fr Non wd v1:=Is fU;have a7:∀k,Ac pA=some k->wd.heap.size<=k:=(fun k hk=>by rcases ae with e|e;(rw [e] at hk;cases hk);(rw [e] at hk;injection hk with hk;omega));have a6:=Blk.new v1 22 #[.slice A7 k c7];have e3:=oU.alloc (.cells #[.slice A7 k c7] 22);have F2:Fr Non wd (v1.alloc (.cells #[.slice A7 k c7] 22)):=F1.alloc _;clear ae fU)
              |(at_builtin;go_loud (refine Ba (base:=w.heap.size+3) (.tmp 111) (.tmp 113) 26 rfl rfl rfl rfl slIi e3 (Rd.blk (n:=1) (size:=1) a6 rfl) (by simp [Value.oneCell']) (by omega) (by omega) (A01 bq F2.size) ?_);intro ap aq v2 ev fb b6;have F3:Fr Non wd v2:=F2.trans fb (fun k hk e=>by have h9:=a7 k e;omega);have bc:=ad.non F3;have z3:=bc.g.frozen 3;have n3:cS v2 w.heap.size 3 PA N PC:=bc.g.cell 3))
            have cg:=bc.setG 3 (.slice ap (N+1) aq);have ct:=Own.setFar (i:=3) ev bc.g (by decide) (.slice ap (N+1) aq);have c5:=Own.setFar (i:=3) (oI.fr F3 zr) bc.g (by decide) (.slice ap (N+1) aq);have da:=Own.setFar (i:=3) (oL.fr F3 zr) bc.g (by decide) (.slice ap (N+1) aq);have c2:=Own.setFar (i:=3) (o7.fr F3 zr) bc.g (by decide) (.slice ap (N+1) aq);have cr:=(zl.non F3).setG bc.g 3 (.slice ap (N+1) aq);generalize v2.setCell ⟨w.heap.size,3,none⟩ (.slice ap (N+1) aq)=v13 at*;change Bz w v13 #[.slice CA nc CC,.slice ai (N+1) ah,.slice iA (N+1) iC,.slice ap (N+1) aq] x S (x.at_+T) A9 j c9 (Ak PS) at cg;clear ad bc oI oL o7 zl oU e3 ev fb b6 F1 F2 F3 a6 a7 d3 n3 z3 ch bq;have bh:(zp.info? 28).map (·.size)=some (#[.slice CA nc CC,.slice ai (N+1) ah,.slice iA (N+1) iC,.slice ap (N+1) aq]:Array Value).size:=Dd;have ay:(#[.slice CA nc CC,.slice ai (N+1) ah,.slice iA (N+1) iC,.slice ap (N+1) aq]:Array Value).all (·.oneCell')=true:=by simp [Value.oneCell']
            have aw:=lh (ba.out z ai iA ap ah iC aq);obtain ⟨CZ,ep⟩:=Aa (#[.slice CA nc CC,.slice ai (N+1) ah,.slice iA (N+1) iC,.slice ap (N+1) aq]:Array Value);rw [ep.out] at bh ay aw cg;have fx:=Ci (P:=zp) w.heap.size 28 underlying28 rfl (cs:=CZ) bh;have fv:=Cy (P:=zp) (w.heap.size+2) 28 (cs:=CZ) bh (old:=#[.slice none 0 0,.slice none 0 0,.slice none 0 0,.slice none 0 0]) (by rw [<- ep.out];rfl) ay;have bg:=cg.g;have br:=cg.r;clear ep ba g0 g1 g2 g3 ay;have dw:=br.setRow (cs:=CZ);have fz:=cg.f.setRow (g:=w.heap.size+2) (fun hh=>absurd hh (by omega)) CZ;have fr:=Tz (w:=v13) (g:=w.heap.size+2) CZ;have au:∀{t size n c:Nat} {A:Option Addr} {xs:List Value},Own v13 (w.heap.size+3) t size A n c xs->Own (v13.setRow (w.heap.size+2) CZ) (w.heap.size+3) t size A n c xs:=fun h=>h.fr fr (fun q hq e=>by have h9:=(h.row q hq).1;have h8:q=w.heap.size+2:=e;omega);have ek:=lh (aw.out _ fz ew (cr.keepP fr (Types.one br) (by decide) (by decide) (by decide) (by decide) (by decide) (by decide) (by decide)) (au da) (au c5) (au ct) (au c2));clear aw fz fr au da c5 ct c2 cr cg ew
            as_aux_lemma=>
            go_wp2_with fail
            (try simp only [Exit.inBlock,Exit.then])
            refine Dy (t:=28) rfl rfl dw rfl underlying28 bh rfl ?_;exact ek.out
end Oq
namespace Oq
theorem Ui {cards:List Cd} (hc:cards=Bb 0 [1,2,2,3]) {d:Int} (hd:1<=d/\d<=4):∃c,Fa cards d=some c/\c.s=Sg.pub (sec Bw d.toNat):=by
 subst hc;have h4:d=1\/d=2\/d=3\/d=4:=by omega
 show ∃c,List.find? _ [Cr 0 1,Cr 1 2,Cr 2 2,Cr 3 3]=some c/\_
 rcases h4 with rfl|rfl|rfl|rfl
 · exact ⟨Cr 0 1,by rw [A15 (by rw [Ed];decide)],Ir _ _⟩
 · exact ⟨Cr 1 2,by rw [A07 (by rw [Ed];decide),A15 (by rw [Ed];decide)],Ir _ _⟩
 · exact ⟨Cr 2 2,by rw [A07 (by rw [Ed];decide),A07 (by rw [Ed];decide),A15 (by rw [Ed];decide)],Ir _ _⟩
 · exact ⟨Cr 3 3,by rw [A07 (by rw [Ed];decide),A07 (by rw [Ed];decide),A07 (by rw [Ed];decide),A15 (by rw [Ed];decide)],Ir _ _⟩
def E2 (l:List Pn) (a b:Nat):List Nat:=[a/4%l.length]++(if 0<=Ef l ((1:Int)+(a%4:Nat)) l.length/\0<a/64%5 then [(Ef l ((1:Int)+(a%4:Nat)) l.length).toNat] else [])++(if b%3=0 then [b/3%l.length] else [])
def Fu (l:List Pn) (a b:Nat):Op:=Dc (if b%2=0 then 7 else 4) ((1:Int)+(a%4:Nat)) 0 ((b/6%4:Nat):Int) [] (nmP l 0) [UInt8.ofNat (65+b/2%3)]
def Of (l:List Pn) (a b:Nat):List Pn:=Eg l (Fu l a b) (Di l (E2 l a b))
def Fv (k0:List Int):Nat->List Pn
 |0=>Eg [] (Fh 1) []
 |j+1=>Of (Fv k0 j) (Da k0 (2*j)) (Da k0 (2*j+1))
def K9 (k0:List Int):List Pn:=Fv k0 (min 13 (k0.length/2))
theorem Uj {l:List Pn} (hne:l≠[]) (a b:Nat):∀p∈E2 l a b,p<l.length:=by
 have h0:0<l.length:=List.length_pos_iff.2 hne;intro p hp;unfold E2 at hp
 rcases List.mem_append.1 hp with hp|hp
 ·
  rcases List.mem_append.1 hp with hp|hp
  ·
   rw [List.mem_singleton.1 hp];exact Nat.mod_lt _ h0
  ·
   split at hp
   ·
    rename_i hc;rw [List.mem_singleton.1 hp];have:=(Nv l ((1:Int)+(a%4:Nat)) l.length).2;omega
   · cases hp
 ·
  split at hp
  ·
   rw [List.mem_singleton.1 hp];exact Nat.mod_lt _ h0
  · cases hp
theorem Uk (l:List Pn) (a b:Nat):(E2 l a b).length<=3:=by
 unfold E2;rw [A09,A09]
 split<;>split<;>simp
theorem At4 (l:List Pn) (a b:Nat):E2 l a b≠[]:=by
 unfold E2;simp
theorem At5 (l:List Pn) (k b dt:Int) (hs:List Nat) (e:Id) (y:List UInt8):Bs l (Dc k b 0 dt [] e y) hs=Iy l k b dt hs e y:=by
 unfold Bs Iy;rw [Ix,Nt];unfold Dc
 by_cases hk:k=7
 ·
  rw [if_pos hk,if_pos hk];rfl
 ·
  rw [if_neg hk,if_neg hk];rfl
theorem Ul {l:List Pn} (hB:FkB l) (h13:l.length<=13) {o:Op} {hs:List Nat} (hb:1<=o.by_/\o.by_<=12) (ha:o.at_<=3):FkB (l++[Aw l (sgn (Bs l o hs))]):=by
 have hlen:(l++[Aw l (sgn (Bs l o hs))]).length=l.length+1:=by rw [A09];rfl
 have hsq:(sgn (Bs l o hs)).sq=Bc l (An l (hs.map (nmP l))) o.by_ l.length+1:=by rw [An0];rfl
 have hat:(sgn (Bs l o hs)).at_=o.at_+late l (hs.map (nmP l)):=by rw [An1];rfl
 have hby:(sgn (Bs l o hs)).by_=o.by_:=by rw [S7];rfl
 have h1:Bc l (An l (hs.map (nmP l))) o.by_ l.length<=l.length:=Ns (by omega) hB.sq _;have h2:=K4 l (An l (hs.map (nmP l))) o.by_ l.length;have h3:late l (hs.map (nmP l))<=3*l.length:=Rm l _ (by omega) hB.at_ _;refine ⟨fun n hn=> ?_,fun n hn=> ?_,fun n hn=> ?_,fun n hn=> ?_,by rw [hlen];omega⟩<;>rw [List.mem_append,List.mem_singleton] at hn<;>rcases hn with hn|rfl
 · have:=hB.sq n hn;rw [hlen];omega
 · rw [hlen,It,hsq];omega
 · have:=hB.at_ n hn;rw [hlen];omega
 · rw [hlen,It,hat];omega
 · exact hB.by_ n hn
 · rw [It,hby];exact hb
 · exact hB.s1 n hn
 · rw [It,hsq];omega
theorem At6 {cards:List Cd} {l:List Pn} (h:Rows cards l) (hB:FkB l) {n:Pn} (hn:n∈l):n.id.named=true:=by
 obtain ⟨i,hi⟩:=List.getElem?_of_mem hn;rw [(h.ok i n hi).id];refine Ta (hB.by_ n hn) ⟨hB.s1 n hn,?_⟩;have:=hB.sq n hn;have:=hB.few;omega
theorem fk_in {cards:List Cd} {l:List Pn} (h:Rows cards l) (hB:FkB l) (hc:cards=Bb 0 [1,2,2,3]) (hne:l≠[]) (h13:l.length<=13) (a b:Nat):
  plc l (Bs l (Fu l a b) (Di l (E2 l a b))).name=none->Au cards l (sgn (Bs l (Fu l a b) (Di l (E2 l a b))))=0/\FkB (l++[Aw l (sgn (Bs l (Fu l a b) (Di l (E2 l a b))))]):=by
 intro hnew;have hlt:=Uj hne a b;have h0:0<l.length:=List.length_pos_iff.2 hne;refine ⟨?_,Ul hB h13 (by unfold Fu;rw [Ix];omega) (by unfold Fu;rw [Nt];omega)⟩;unfold Fu at hnew ⊢;rw [At5] at hnew ⊢;refine Aq4 h hB (fun b h1 h2=>Ui hc ⟨h1,h2⟩) (Aq0 h (At4 l a b) hlt) (Tm _ _ _) (A01 (Kz _ _ _) (Uk l a b)) (fun p hp=>hlt p (Iw _ hp).1) (fun p hp q hq=>(Iw _ hp).2 q (Iw _ hq).1) ⟨by omega,by omega⟩ ⟨by omega,by omega⟩ ?_ ⟨by simp,by simp⟩ hnew;have hn:l[0]? =some l[0]:=A06 h0;rw [Cv hn];exact At6 h hB (A20 h0)
theorem At7:Bs [] (Fh 1) []=Fh 1:=rfl
theorem At8 {cards:List Cd} (hc:cards=Bb 0 [1,2,2,3]):plc [] (Bs [] (Fh 1) []).name=none->Au cards [] (sgn (Bs [] (Fh 1) []))=0/\FkB ([]++[Aw [] (sgn (Bs [] (Fh 1) []))]):=by
 intro _;obtain ⟨c,h1,h2⟩:=Ui hc (d:=1) ⟨by decide,by decide⟩;refine ⟨?_,Ul ⟨fun _ hn=>absurd hn A05,fun _ hn=>absurd hn A05,fun _ hn=>absurd hn A05,fun _ hn=>absurd hn A05,by decide⟩ (by decide) (by decide) (by decide)⟩;rw [At7];exact S9 (c:=c) (An2 (by decide)) rfl (by simp) h1 h2 (.inr rfl) rfl (by show clash [] []=false;unfold clash C4;simp) (Int.le_refl _) rfl
theorem Um (l:List Pn) (o:Op) (hs:List Nat):(Eg l o hs).length<=l.length+1:=by
 unfold Eg
 split
 · omega
 ·
  rw [A09];exact A10 _
theorem At9 {l:List Pn} (h:l≠[]) (o:Op) (hs:List Nat):Eg l o hs≠[]:=by
 unfold Eg
 split
 · exact h
 · simp
theorem La (k0:List Int):∀j,Fv k0 j≠[]
 |0=>by
  show Eg [] (Fh 1) []≠[];unfold Eg;rw [show plc [] (Bs [] (Fh 1) []).name=none from rfl,if_neg (by simp)];simp
 |j+1=>At9 (La k0 j) _ _
theorem Un (k0:List Int):∀j,(Fv k0 j).length<=j+1
 |0=>Um _ _ _
 |j+1=>A01 (Um _ _ _) (by have:=Un k0 j;omega)
end Oq
end Go.Proofs.YtgbdljlapmjmnaaGreatDoor
