/-
  Contracts of the functions that the claim's statement reaches, walked one by one (part 16).
  Conditions: as each theorem says.
-/
import Derived.WideKeyEntry
import Derived.Test.YtgbdljlapmjmnaaGreatDoorRlA15
set_option maxRecDepth 100000
set_option maxHeartbeats 16000000
open Bool renaming not_false->Ao4,not_true->Ao5
open List renaming not_mem_nil->Ao6,getElem?_eq_getElem->Ao7,find?_cons_of_neg->Ao8,mem_of_getElem?->Ao9,length_append->Ap0,length_map->Ap2,getElem?_map->Ap4,nil_append->Ap5,find?_cons_of_pos->Ap6,map_append->Ap7,getElem?_toArray->Ap9,take_length->Aq0,getElem_mem->Aq1
open Nat renaming le_trans->Ao2,zero_add->Ao3,le_refl->Ap1,zero_le->Ap8
open Go.World renaming size_alloc->Ap3
open Go.Proofs.Tryz
open Go.Proofs.Tryz renaming prog->zp
open Go.Lib renaming hid->lh
open List renaming set->zl
open Go.Ending renaming returned->ze
namespace Go.Proofs.YtgbdljlapmjmnaaGreatDoor
open Go.RowKit
attribute [local go_sem ↓] Go.wp_at_zero Go.wp_at_succ
namespace Oq
attribute [local go_sem] Ao4 Ao5
theorem Am1 {P:Program} {Q:Exit->Act->World->Prop} {l:List Oper} {md:Region.Mode} {S:World->Prop} {fuel:Nat} {listed:Array Bool} {a:Act} {w:World} (i j:Nat) {d:Option Tmp} {op:Go.Op} {ty:TypeId} {pos:String} {after:Array Edge} {g:Option (Nat × Bool)} {d':Option Tmp} {op':Go.Op} {ty':TypeId} {pos':String} {after':Array Edge} {g':Option (Nat × Bool)}
  (hr:Region.ready md l.toArray listed=[i,j]) (ho:l[i]? =some ⟨d,op,ty,pos,after,g⟩) (ho':l[j]? =some ⟨d',op',ty',pos',after',g'⟩)
  (hw:Region.wanted ⟨d,op,ty,pos,after,g⟩ (yielded l.toArray a.tmps)=true) (hw':Region.wanted ⟨d',op',ty',pos',after',g'⟩ (yielded l.toArray a.tmps)=true)
  (h:∀K':Act->World->Prop,Shut (∀a w,S w->(S w->wpAnyH P md l.toArray Q S fuel (listed.setIfInBounds i true) a w)->K' a w)->Oper.wp P ⟨d,op,ty,pos,after,g⟩ a w K' Q)
  (h':∀K':Act->World->Prop,Shut (∀a w,S w->(S w->wpAnyH P md l.toArray Q S fuel (listed.setIfInBounds j true) a w)->K' a w)->Oper.wp P ⟨d',op',ty',pos',after',g'⟩ a w K' Q):
  wpAnyH P md l.toArray Q S (fuel+1) listed a w:=
 wpAnyH_ready hr (by simp) (AllReadyH.cons (by rw [Ap9];exact ho) (fun K' hK=>by rw [if_pos hw];exact h K' hK) (AllReadyH.cons (by rw [Ap9];exact ho') (fun K' hK=>by rw [if_pos hw'];exact h' K' hK) AllReadyH.nil))
end Oq
namespace Oq
attribute [local go_sem] Ao4 Ao5
attribute [local go_sem ↓] Bi Dl Sf
theorem Sr {cards:List Cd} {m:List Pn} {ws:List Op} {o:Op} (h:(plc m o.name).isSome=true\/ws.any (fun x=>Id.eq x.name o.name)=true):Bd cards (m,ws) o=(5,(m,ws)):=by unfold Bd;rw [if_pos h]
theorem Am2 {cards:List Cd} {m:List Pn} {ws:List Op} {o:Op} (h1:(plc m o.name).isSome=false) (h2:ws.any (fun x=>Id.eq x.name o.name)=false):
  Bd cards (m,ws) o=if ready m o=false then if 200<=ws.length then (3,(m,ws)) else (0,(m,ws++[o])) else if Aj cards m o≠0 then (Aj cards m o,(m,ws)) else (0,Bt cards ws.length (m++[Ak m o]) ws):=by
 unfold Bd;rw [if_neg (by rw [h1,h2];simp)]
def TakeRPost (base:Nat) (r:Ae) (o:Op) (w:World) (e:Ending) (w':World):Prop:=
 e=.returned (.int .i64 (Bd r.g.cards r.st o).1)/\∃r':Ae,Hid (Ae.Step base r r' w w')/\Hid (r'.st=(Bd r.g.cards r.st o).2)
theorem TakeRPost.mk {base:Nat} {r r':Ae} {o:Op} {w w':World} {a:Int} {s:List Pn × List Op} (h:Bd r.g.cards r.st o=(a,s)) (hs:Ae.Step base r r' w w') (he:r'.st=s):TakeRPost base r o w (.returned (.int .i64 a)) w':=by
 unfold TakeRPost;rw [h];exact ⟨rfl,r',hs,he⟩
theorem Mp (base B n c:Nat) (A:Option Addr) (r:Ae) (o:Op) (w:World) (h:r.okAt w base) (hk:KindsAt w) (hn:Hid (o.put.length=n)) (hr:Rd w B 1 A n (o.put.map Bv)) (hl:n<=1099511627776) (hok:o.ok):
  Calls zp 22 #[.pointer (some ⟨r.rb,0,none⟩),.slice A n c] w (TakeRPost base r o w):=by
 have aa:(zp.info? 55).map (·.size)=some 27:=by kernel_rfl
 have kg:Hid (Calls zp 27 #[.slice A n c] w (fun e w'=>∃x:OpL,x.op=o/\e=.returned (.tuple #[.agg x.cells,.int .i64 0])/\x.own w' w.heap.size/\Fr Non w w')):=by
  have:=Wr B n c A o.put w hn hr hl;unfold Fz at this;rw [T3 hok.okR] at this;exact this
 have bz:base<=w.heap.size:=Ao2 h.rbase (Nat.le_of_lt h.blk.lt);have ab:Hid (∀(a:Int) (s:List Pn × List Op) (r':Ae) (w':World),Bd r.g.cards r.st o=(a,s)->Ae.Step base r r' w w'->r'.st=s->TakeRPost base r o w (.returned (.int .i64 a)) w'):=fun a s r' w' h1 h2 h3=>TakeRPost.mk h1 h2 h3;generalize TakeRPost base r o w=POST at*;obtain ⟨nm,au⟩:∃nm,o.name=nm:=⟨_,rfl⟩;have a7:nm.ok:=by rw [<- au];exact Jn hok
 obtain ⟨rb,ak⟩:=Aa r.rb;obtain ⟨gb,bk⟩:=Aa r.g.gb;obtain ⟨N,hN⟩:=Aa r.ws.length;rw [ak.out];replace h:=lh h;replace hk:=lh hk;clear hn hr hl;go_enter func22,ntmps22;go_upto_region 2 with (go_at_call 27;(with_reducible refine (kg.out).mono ?_);rintro _ w1 ⟨x,a0,rfl,xo,f1⟩;have bn:=Blk.new w1 55 zO;have bq:=Cm (P:=zp) w1.heap.size 55 (cs:=x.cells) aa (old:=zO) rfl (Ej x))
 have bx:Blk ((w1.alloc (.cells zO 55)).setRow w1.heap.size x.cells) w1.heap.size 55 x.cells:=bn.setRow;have fx:Fr Non w1 ((w1.alloc (.cells zO 55)).setRow w1.heap.size x.cells):=((Fr.refl Non w1).alloc _).setRow (fun hh=>absurd hh (by omega)) _;have f2:=f1.trans fx zr;have aq:=(xo.lower bz).non fx;have a4:x.op.ok:=by rw [a0];exact hok
 obtain ⟨ob,bv⟩:=Aa w1.heap.size;have aj:w.heap.size<=w1.heap.size:=f1.size;rw [bv.out] at bx f2 aq aj ⊢;replace aj:=lh aj;clear kg xo bq bn f1 fx bv bz;generalize (w1.alloc (.cells zO 55)).setRow ob x.cells=w2 at*;have ce:=Ce (P:=zp) ob 55 underlying55 rfl (cs:=x.cells) aa;have br:=lh (fun (w':World) (h:Fr Non w2 w')=>Sm x nm (by rw [a0];exact au) w' (aq.non h).at a4);have kO:=lh (fun (w':World) (hf:Fr Non w w')=>Am0 (l:=r.g.pns) nm (h.out.graph.fr hf) bk.out rfl a7);unfold Mo at kO;have kL:=lh (fun (w':World) (hf:Fr Non w2 w')=>Iz base r.g x w' Jc (h.out.graph.fr (f2.trans hf zr)) (aq.non hf).at a4.past.2 (by have:=a4.past.1;show x.op.past.length<=_;omega));unfold Gg at kL;have kA:=lh (fun (w':World) (hf:Fr Non w2 w')=>Sp base r x w' (h.out.non (f2.trans hf zr)) (aq.non hf).at a4 (hk.out.fr (f2.trans hf zr)));unfold Mn at kA;rw [a0] at kA;have kC:=lh (fun (iv:Nat) (w':World) (hf:Fr Non w w') (hi:Blk w' iv 48 nm.V)=>Al4 w'.heap.size N r.c iv r.A r.ws (fun y=>Id.eq y.op.name nm) w' hN (by have:=(h.out.non hf).row.rd;rwa [hN.out] at this) (by have:=h.out.few;rw [hN.out] at this;omega) (fun y hy w'' hg=>Al2 y nm iv w'' ((h.out.ops y hy).1.non (hf.trans hg zr)).at (h.out.ops y hy).2 (hi.fr hg zq)));unfold Af at kC;have ap:=lh (Sk (g:=r.g) rfl x);rw [a0] at ap;rw [bk.out] at kL kA;obtain ⟨LL,b5⟩:=Aa (x.past.filter (fun id=> !(place r.g.nodes id).isSome));rw [b5.out] at kL ap;obtain ⟨LN,ci⟩:=Aa LL.length;rw [ci.out] at kL ap;have b3:Hid (Own w2 base 55 27 r.A N r.c (r.ws.flatMap (fun x=>x.cells.toList))/\x.own w2 base/\x.op=o/\o.ok):=⟨by have:=(h.out.non f2).row;rwa [hN.out] at this,aq,a0,hok⟩;have bb:=Sh x;have aw:=Mk x;have a8:x.cells.size=27:=rfl;obtain ⟨XC,b0⟩:=Aa x.cells;rw [b0.out] at bx ce br kL kA bb aw a8;have bg:r.okAt w2 base:=h.out.non f2;have P2:w2.cell? ⟨rb,0,none⟩=some (.pointer (some ⟨gb,0,none⟩)):=by have:=bg.blk.cell 0;rwa [ak.out,bk.out] at this
 have V2:w2.cell? ⟨rb,1,none⟩=some (.slice r.A N r.c):=by have:=bg.blk.cell 1;rwa [ak.out,hN.out] at this
 have b7:N<=200:=by have:=bg.few;rwa [hN.out] at this
 have ai:Hid ((r.ws.map OpL.op).any (fun y=>Id.eq y.name nm)=r.ws.any (fun y=>Id.eq y.op.name nm)):=by show _=_;rw [List.any_map];rfl
 obtain ⟨WB,cb⟩:=Aa (r.ws.any (fun y=>Id.eq y.op.name nm));rw [cb.out] at kC ai;clear aq a4 b5 bg a7 aa hok;go_upto_region 4 with (fail)
 go_upto_region 5 with (go_at_call 40;(with_reducible refine (br.out _ (Fr.refl _ _)).mono ?_);rintro _ w3 ⟨rfl,f3⟩)
 have bi:=Blk.new w3 48 nm.V;have av:Fr Non w2 (w3.alloc (.cells nm.V 48)):=f3.alloc _;have bu:w.heap.size<=w3.heap.size:=(f2.trans f3 zr).size;obtain ⟨ib,b8⟩:=Aa w3.heap.size;rw [b8.out] at bi ⊢;generalize w3.alloc (.cells nm.V 48)=w4 at*;have af:=f2.trans av zr;have bw:=bx.fr av zq;obtain ⟨P4,V4⟩:=zk2 av P2 V2;have i0:cI w4 ib 0 nm.b:=bi.cell 0;have i1:cI w4 ib 1 nm.s:=bi.cell 1;have i2:cU w4 ib 2 nm.u:=bi.cell 2;clear br f3 P2 V2 b8 bu
 go_cut [8,9] from 21 to 29 (fun s1 s2 wc=>∃(qb:Nat) (is:Bool),s1=.pointer (some ⟨qb,0,none⟩)/\s2=.bool is/\Hid ((plc r.g.pns nm).isSome=is)/\Fr Non w4 wc)
 case first=>
  have aa:(zp.info? 55).map (·.size)=some 27:=by kernel_rfl
  have P0:=P4;have I0:=i0;have J0:=i1;have K0:=i2;have F0:Fr Non w4 w4.drew:=(Fr.refl Non w4).drew;have G0:Fr Non w w4.drew:=af.drew;refine wp_region_held_drew (S:=fun w'=>w'.cell? ⟨rb,0,none⟩=some (.pointer (some ⟨gb,0,none⟩))/\cI w' ib 0 nm.b/\cI w' ib 1 nm.s/\cU w' ib 2 nm.u) (by kernel_rfl) ⟨P0,I0,J0,K0⟩ (fun hHeld=> ?_);clear hHeld;have uu:=aI P0 (aI I0 (aI J0 K0));refine tkH 0 uu (h:=tkH 1 uu (h:=tkH 2 uu (h:=tkH 3 uu (h:=tkH 4 uu (h:=?_)))));clear uu;simp only [zl];refine Am1 5 9 (by kernel_rfl) rfl rfl (by kernel_rfl) (by kernel_rfl) (fun K hK=> ?_) (fun K hK=> ?_)
  ·
   skip
   go_simp;go_wp2_with (go_at_call 41;(with_reducible refine (kO.out _ G0).mono ?_);rintro _ v1 ⟨y2,is,rfl,ah,_,_,ar⟩;have F1:=F0.trans ar zr;obtain ⟨P1,I1,J1,K1⟩:=zk4 F1 P0 I0 J0 K0;have G1:=af.trans F1 zr);refine hK.out _ _ ⟨P1,I1,J1,K1⟩ (fun hZ=> ?_);clear hZ hK K;try simp only [Ai,zl]
   refine tkH 6 ⟨P1,I1,J1,K1⟩ (h:=tkH 7 ⟨P1,I1,J1,K1⟩ (h:=tkH 8 ⟨P1,I1,J1,K1⟩ (h:=?_)));simp only [zl];refine oG 9 (fun K hK=> ?_);go_simp;have bf:Fr Non v1 (v1.alloc (.cells zO 55)):=(Fr.refl _ _).alloc _;have a3:=Blk.new v1 55 zO;have F2:=F1.trans bf zr;obtain ⟨P2,I2,J2,K2⟩:=zk4 F2 P0 I0 J0 K0;have G2:=af.trans F2 zr;obtain ⟨qb,a1⟩:=Aa v1.heap.size;rw [a1.out] at a3 ⊢;have cf:w4.heap.size<=qb:=by rw [<- a1.out];exact F1.size
   refine hK.out _ _ ⟨P2,I2,J2,K2⟩ (fun hZ=> ?_);clear hZ hK K;try simp only [Ai,zl]
   generalize v1.alloc (.cells zO 55)=v2 at*;have bq:=Cm (P:=zp) qb 55 (cs:=y2.cells) aa (old:=zO) rfl (Ej y2);refine oG 10 (fun K hK=> ?_);go_simp;have F3:Fr Non w4 (v2.setRow qb y2.cells):=F2.setRow (fun hh=>absurd hh (by omega)) _;obtain ⟨P3,I3,J3,K3⟩:=zk4 F3 P0 I0 J0 K0;have G3:=af.trans F3 zr;refine hK.out _ _ ⟨P3,I3,J3,K3⟩ (fun hZ=> ?_);clear hZ hK K;try simp only [Ai,zl]
   refine tkH 11 ⟨P3,I3,J3,K3⟩ (h:=?_);simp only [zl];refine oD ?_;go_simp;go_wp2_with fail;go_meet;exact ⟨qb,is,rfl,rfl,ah,F3⟩
  ·
   have F0:Fr Non w4 w4:=Fr.refl Non w4;have G0:=af;go_simp;have ar:Fr Non w4 ((w4.alloc (.cells zO 55)).drew):=(((Fr.refl Non w4).alloc (.cells zO 55)).drew:Fr Non w4 _);have a2:=(Blk.new w4 55 zO).drew;have F1:=F0.trans ar zr;obtain ⟨P1,I1,J1,K1⟩:=zk4 F1 P0 I0 J0 K0;have G1:=af.trans F1 zr;obtain ⟨qb,a1⟩:=Aa w4.heap.size;rw [a1.out] at a2 ⊢;have cf:w4.heap.size<=qb:=by rw [<- a1.out];exact Ap1 _
   refine hK.out _ _ ⟨P1,I1,J1,K1⟩ (fun hZ=> ?_);clear hZ hK K;try simp only [Ai,zl]
   generalize (w4.alloc (.cells zO 55)).drew=v1 at*;refine oG 5 (fun K hK=> ?_);go_simp;go_wp2_with (go_at_call 41;(with_reducible refine (kO.out _ G1).mono ?_);rintro _ v2 ⟨y2,is,rfl,ah,_,_,bf⟩;have F2:=F1.trans bf zr;obtain ⟨P2,I2,J2,K2⟩:=zk4 F2 P0 I0 J0 K0;have G2:=af.trans F2 zr;have a3:=a2.fr bf zq);refine hK.out _ _ ⟨P2,I2,J2,K2⟩ (fun hZ=> ?_);clear hZ hK K;try simp only [Ai,zl]
   refine tkH 6 ⟨P2,I2,J2,K2⟩ (h:=tkH 7 ⟨P2,I2,J2,K2⟩ (h:=tkH 8 ⟨P2,I2,J2,K2⟩ (h:=?_)));simp only [zl];have bq:=Cm (P:=zp) qb 55 (cs:=y2.cells) aa (old:=zO) rfl (Ej y2);refine oG 10 (fun K hK=> ?_);go_simp;have F3:Fr Non w4 (v2.setRow qb y2.cells):=F2.setRow (fun hh=>absurd hh (by omega)) _;obtain ⟨P3,I3,J3,K3⟩:=zk4 F3 P0 I0 J0 K0;have G3:=af.trans F3 zr;refine hK.out _ _ ⟨P3,I3,J3,K3⟩ (fun hZ=> ?_);clear hZ hK K;try simp only [Ai,zl]
   refine tkH 11 ⟨P3,I3,J3,K3⟩ (h:=?_);simp only [zl];refine oD ?_;go_simp;go_wp2_with fail;go_meet;exact ⟨qb,is,rfl,rfl,ah,F3⟩
 case rest=>
 obtain ⟨qb,is,rfl,rfl,ah,fc⟩:=hcut;generalize wc=w5 at*;have ch:=av.trans fc zr;have bd:=af.trans fc zr;have bh:=lh (kC.out ib w5 bd (bi.fr fc zq));obtain ⟨V5,P5⟩:=zk2 fc V4 P4;have b4:=bw.fr fc zq;clear kO kC bi i0 i1 i2 P4 V4 bw bx fc
 cases is
 case true=>
  have hd:=lh (ab.out 5 r.st r w5 (Sr (.inl (by rw [au];exact ah.out))) (h.out.still bd) rfl);clear ab ah kL kA bh;go_wp2_with fail;exact hd.out
 case false=>
 cases WB
 case true=>
  have hd:=lh (fun (w':World) (hf:Fr Non w w')=>ab.out 5 r.st r w' (Sr (.inr (by rw [au];exact ai.out))) (h.out.still hf) rfl);clear ab ah kL kA;go_wp2_with (go_at_call 53;(with_reducible refine (bh.out).mono ?_);rintro _ w6 ⟨rfl,f6⟩);exact hd.out _ (bd.trans f6 zr)
 case false=>
 have ag:=lh (Am2 (cards:=r.g.cards) (m:=r.g.pns) (ws:=r.ws.map OpL.op) (o:=o) (by rw [au];exact ah.out) (by rw [au];exact ai.out));go_upto_region 8 with (go_at_call 53;(with_reducible refine (bh.out).mono ?_);rintro _ w6 ⟨rfl,f6⟩)
 have b1:=ch.trans f6 zr;have ck:=bd.trans f6 zr;have P0:=f6.cell P5 zq;have X0:=b4.fr f6 zq;have V0:=f6.cell V5 zq;have F0:Fr Non w6 w6.drew:=(Fr.refl Non w6).drew;have G0:Fr Non w2 w6.drew:=b1.drew;clear bh ah ai P5 V5 b4;refine wp_region_held_drew (S:=fun w'=>w'.cell? ⟨rb,0,none⟩=some (.pointer (some ⟨gb,0,none⟩))/\Blk w' ob 55 XC/\cS w' rb 1 r.A N r.c) (by kernel_rfl) ⟨P0,X0,V0⟩ (fun hHeld=> ?_);clear hHeld;have uu:=aI P0 (aI X0 V0);refine tkH 0 uu (h:=tkH 1 uu (h:=tkH 2 uu (h:=tkH 3 uu (h:=tkH 4 uu (h:=?_)))));clear uu;simp only [zl];refine oG 5 (fun K hK=> ?_);go_simp;go_wp2_with (go_at_call 31;(with_reducible refine (kL.out _ G0).mono ?_);rintro _ v1 ⟨AL,cL,rfl,_,ar⟩;have F1:=F0.trans ar zr;have P1:=F1.cell P0 zq;have X1:=X0.fr F1 zq;have V1:=F1.cell V0 zq;have G1:=b1.trans F1 zr);refine hK.out _ _ ⟨P1,X1,V1⟩ (fun hZ=> ?_);clear hZ hK K;try simp only [Ai,zl]
 refine tkH 6 ⟨P1,X1,V1⟩ (h:=tkH 7 ⟨P1,X1,V1⟩ (h:=?_));simp only [zl];refine oD ?_;go_simp;have H1:=ck.trans F1 zr;generalize v1=w7 at*;clear P0 X0 V0 F0 G0 F1 ar kL
 by_cases hL0:LN=0
 case neg=>
  have t0:decide ((LN:Int)>0)=true:=decide_eq_true (by omega);have cm:decide (0<LN)=true:=decide_eq_true (by omega);have hr:ready r.g.pns o=false:=by rw [ap.out];exact decide_eq_false hL0
  have ae:Hid (Bd r.g.cards r.st o=if 200<=N then (3,r.st) else (0,(r.g.pns,r.ws.map OpL.op++[o]))):=by
   show _=_;rw [<- hN.out];have:=ag.out;rw [if_pos hr,Ap2] at this;exact this
  clear ag kA ap
  by_cases hfull:200<=N
  case pos=>
   have t1:decide ((N:Int)>=200)=true:=decide_eq_true (by omega);have cd:decide (200<=N)=true:=decide_eq_true hfull;have hd:=lh (ab.out 3 r.st r w7 (by rw [ae.out,if_pos hfull]) (h.out.still H1) rfl);clear ab ae;go_wp2_with fail;exact hd.out
  case neg=>
  have t1:decide ((N:Int)>=200)=false:=decide_eq_false (by omega);have cd:decide (200<=N)=false:=decide_eq_false hfull;have cl:decide ((200:Int)<=(N:Int))=false:=decide_eq_false (by omega);have a5:=lh (fun (w':World) (hf:Fr Non w w')=>h.out.non hf);have al:Ab r.A≠some rb:=by rw [<- ak.out];exact h.out.row.ne h.out.blk (by decide)
  have bj:=b3.out;have cj:Own w7 base 55 27 r.A N r.c (r.ws.flatMap (fun x=>x.cells.toList)):=bj.1.fr G1 zr
  have a6:Ab r.A≠some ob:=fun e=>by
   have h9:=(h.out.row.row ob e).2;have h7:=aj.out;omega
  have cc:x.own w7 base:=bj.2.1.non G1;have bc:Hid (x.op=o):=bj.2.2.1;have bs:Hid o.ok:=bj.2.2.2;go_upto_region 11 with (fail)
  have X0:=X1;have V0:=V1;have F0:Fr Non w7 w7.drew:=(Fr.refl Non w7).drew;clear P1 X1 V1;refine Dd (S:=fun w'=>cS w' rb 1 r.A N r.c/\Blk w' ob 55 XC) 10 (by kernel_rfl) ?_;have uu:=aI V0 X0;refine tkG 0 uu (h:=tkG 1 uu (h:=tkG 2 uu (h:=tkG 3 uu (h:=tkG 4 uu (h:=tkG 5 uu (h:=?_))))));clear uu;simp only [zl];refine Bn 6 (by kernel_rfl) rfl (fun K hK=> ?_);go_simp;have b9:=(Blk.new w7 55 XC).drew;have F1:Fr Non w7 (w7.alloc (.cells XC 55)).drew:=((Fr.refl Non w7).alloc _).drew;obtain ⟨nb,bo⟩:=Aa w7.heap.size;rw [bo.out] at b9 ⊢;generalize (w7.alloc (.cells XC 55)).drew=v1 at*;have V1:=F1.cell V0 zq;have X1:=X0.fr F1 zq;refine hK.out _ _ ⟨V1,X1⟩ (fun hZ=> ?_);clear hZ hK K;try simp only [Ai,zl]
  have ac:=a5.out v1 (H1.trans F1 zr);have bp:Rd v1 v1.heap.size 27 (some ⟨nb,0,none⟩) 1 XC.toList:=Rd.blk (by simpa using b9) (by simp [a8]);have ca:base<=v1.heap.size:=by have h9:=ac.rbase;have h8:=ac.blk.lt;omega
  refine Bn 7 (by kernel_rfl) rfl (fun K hK=> ?_);refine Em (base:=base) (.tmp 57) (.tmp 59) 24 rfl rfl rfl slOp (cj.fr F1 zr) bp aw (by omega) (by omega) ca ?_;intro A9 c9 v2 ao a9 ay;have V2:=a9.cell V1 al;have X2:=X1.fr a9 a6;have b2:=ac.blk.fr a9 (by rw [ak.out];exact al);rw [ak.out] at b2;have z2:=b2.frozen 1;refine hK.out _ _ ⟨V2,X2⟩ (fun hZ=> ?_);clear hZ hK K;try simp only [Ai,zl]
  refine Bn 8 (by kernel_rfl) rfl (fun K hK=> ?_);go_simp;refine hK.out _ _ ⟨V2,X2⟩ (fun hZ=> ?_);clear hZ hK K;try simp only [Ai,zl]
  refine tkG 9 ⟨V2,X2⟩ (h:=?_);simp only [zl];refine Cz (by kernel_rfl) ?_;refine oG 10 (fun K hK=> ?_);go_simp;refine hK.out _ _ trivial (fun hZ=> ?_);clear hZ hK K;try simp only [Ai,zl]
  refine oD ?_;go_simp;rw [<- b0.out] at ao;have bl:=ac.longer hN (by omega) (cc.non F1) (by rw [bc.out];exact bs.out) ao a9 ay;rw [ak.out] at bl;have hd:=lh (ab.out 0 _ _ _ (by rw [ae.out,if_neg hfull]) ((h.out.still (H1.trans F1 zr)).trans bl) (by show (r.g.pns,(r.ws++[x]).map OpL.op)=_;rw [Ap7,List.map_cons,List.map_nil,bc.out]));clear ab ae bl ao a9 ay a5 ac;go_wp2_with fail;exact hd.out
 case pos=>
  subst hL0;have hr:ready r.g.pns o=true:=by rw [ap.out];rfl
  have ae:Hid (Bd r.g.cards r.st o=if Aj r.g.cards r.g.pns o≠0 then (Aj r.g.cards r.g.pns o,r.st) else (0,Bt r.g.cards r.ws.length (r.g.pns++[Ak r.g.pns o]) (r.ws.map OpL.op))):=by
   show _=_;have:=ag.out;rw [hr,if_neg (by decide),Ap2] at this;exact this
  have ax:Hid (r.okAt w7 base):=h.out.non H1;have b6:Hid (KindsAt w7):=hk.out.fr H1;obtain ⟨E,hE⟩:=Aa (Aj r.g.cards r.g.pns o);rw [hE.out] at kA ae;clear ag ap b3 hE;go_upto_region 13 with (fail)
  have X0:=X1;have P0:=P1;have F0:Fr Non w7 w7.drew:=(Fr.refl Non w7).drew;have cg:Hid (Ae.Step base r r w w7.drew):=h.out.still (H1.trans F0 zr);clear P1 X1 V1;refine wp_region_held_drew (S:=fun w'=>w'.cell? ⟨rb,0,none⟩=some (.pointer (some ⟨gb,0,none⟩))/\Blk w' ob 55 XC) (by kernel_rfl) ⟨P0,X0⟩ (fun hHeld=> ?_);clear hHeld;have uu:=aI P0 X0;refine tkH 0 uu (h:=tkH 1 uu (h:=tkH 2 uu (h:=tkH 3 uu (h:=tkH 4 uu (h:=?_)))));clear uu;simp only [zl];refine oG 5 (fun K hK=> ?_);go_simp;go_wp2_with (go_at_call 24;(with_reducible refine (kA.out _ (G1.trans F0 zr)).mono ?_);rintro _ v1 ⟨rfl,r3,ad,az,ba,bt⟩);have P1:v1.cell? ⟨rb,0,none⟩=some (.pointer (some ⟨gb,0,none⟩)):=by have h9:=ad.out.ok.blk.cell 0;rwa [ad.out.rb,ad.out.gb,ak.out,bk.out] at h9
  have X1:=bt ob XC X0;refine hK.out _ _ ⟨P1,X1⟩ (fun hZ=> ?_);clear hZ hK K;try simp only [Ai,zl]
  refine tkH 6 ⟨P1,X1⟩ (h:=?_);simp only [zl];refine oD ?_;go_simp;have be:Hid (Ae.Step base r r3 w v1):=cg.out.trans ad.out;have bm:Hid (r3.rb=rb):=ad.out.rb.trans ak.out
  by_cases e0:E=0
  case neg=>
   have t1:(E !=0)=true:=by simp [e0]
   have hd:=lh (ab.out E r.st r3 v1 (by rw [ae.out,if_pos e0]) be.out (by show (r3.g.pns,r3.ws.map OpL.op)=_;rw [ba.out,if_neg e0,az.out];rfl));clear ab ae kA ad be bt;go_wp2_with fail;exact hd.out
  case pos=>
  subst e0;have kg:=lh (Al9 base r3 v1 ad.out.ok (KindsAt.rel (b6.out.fr F0) (ax.out.non F0) ad.out.fr));unfold Jv at kg;rw [bm.out] at kg;have hd:=lh (fun (w':World) (r4:Ae) (h4:Ae.Step base r3 r4 v1 w') (e4:r4.st=Bt r3.g.cards r3.ws.length r3.g.pns (r3.ws.map OpL.op))=>ab.out 0 _ r4 w' (by rw [ae.out,if_neg (by simp)]) (be.out.trans h4) (by rw [e4,ad.out.cards,ba.out,if_pos rfl,az.out]));clear ab ae kA ad be bt ax b6;go_wp2_with (go_at_call 55;(with_reducible refine (kg.out).mono ?_);rintro _ w9 ⟨rfl,r4,h4,e4⟩);exact hd.out w9 r4 h4.out e4.out
end Oq
namespace Oq
attribute [local go_sem] Ao4 Ao5
def Fp (cs:List Cd) (w:World) (e:Ending) (w':World):Prop:=
 ∃r:Ae,e=.returned (.pointer (some ⟨r.rb,0,none⟩))/\Hid (r.okAt w' w.heap.size)/\Hid (r.st=([],[]))/\Hid (r.g.cards=cs)/\Fr Non w w'
theorem Ss (B n c:Nat) (A:Option Addr) (l:List Int) (w:World) (hn:Hid (l.length=n)) (hnm:n<=1000) (hr:Rd w B 5 A n ((An 0 l).flatMap Cd.cells)) (hpos:0<w.heap.size):
  Calls zp 19 #[.slice A n c] w (Fp (An 0 l) w):=by
 have kn:=lh (Ag9 B n c A l w hn hnm hr hpos);unfold Hi at kn
 have hfin:Hid (∀(w1:World) (g:Gph),GAt w1 w.heap.size g->g.nodes=[]->g.cards=An 0 l->Fr Non w w1->Fp (An 0 l) w (.returned (.pointer (some ⟨w1.heap.size,0,none⟩))) (w1.alloc (.cells #[.pointer (some ⟨g.gb,0,none⟩),.slice none 0 0] 92))):=by
  intro w1 g hg hgn hgc hf;have f1:Fr Non w1 (w1.alloc (.cells #[.pointer (some ⟨g.gb,0,none⟩),.slice none 0 0] 92)):=(Fr.refl Non w1).alloc _;refine ⟨⟨w1.heap.size,g,none,0,[]⟩,rfl,⟨Blk.new w1 _ _,hf.size,hg.fr f1,Own.nil _ _ _ _,fun x hx=>absurd hx Ao6,Ap8 _⟩,?_,hgc,hf.trans f1 zr⟩;show (g.pns,_)=_;unfold Gph.pns;rw [hgn];rfl
 generalize Fp (An 0 l) w=POST at*;clear hr hn hnm hpos;go_enter func19,ntmps19;go_wp2_with (go_at_call 20;(with_reducible refine (kn.out).mono ?_);rintro _ w1 ⟨g,rfl,hg,hgn,hgc,f1⟩;(have hd:=lh (hfin.out w1 g hg hgn hgc f1)));exact hd.out
theorem Jw (base:Nat) (r:Ae) (w:World) (h:r.okAt w base):
  Calls zp 13 #[.pointer (some ⟨r.rb,0,none⟩)] w (fun e w'=>e=.returned (.int .i64 (r.ws.length:Int))/\Fr Non w w'):=by
 have c1:cS w r.rb 1 r.A r.ws.length r.c:=h.blk.cell 1;clear h;generalize r.ws.length=n at*;generalize r.rb=rb at*;go_enter func13,ntmps13;go_wp2
 go_ret
 exact ⟨rfl,Fr.refl _ _⟩
theorem Mq (base:Nat) (r:Ae) (w:World) (h:r.okAt w base):
  Calls zp 15 #[.pointer (some ⟨r.rb,0,none⟩)] w (Ev (Ar (r.g.pns.map Pn.id)) w):=by
 have c0:w.cell? ⟨r.rb,0,none⟩=some (.pointer (some ⟨r.g.gb,0,none⟩)):=h.blk.cell 0
 have ka:Hid (Calls zp 25 #[.pointer (some ⟨r.g.gb,0,none⟩)] w (Ev (Ar (r.g.pns.map Pn.id)) w)):=by
  refine (Ad1 base r.g w Ad6 h.graph).mono ?_;rintro e w'' ⟨A5,c5,out,rfl,hp,hs,o5,f5⟩;obtain rfl:=Og hs (Ah2 rfl hp);exact ⟨A5,c5,rfl,o5,f5⟩
 generalize Ar (r.g.pns.map Pn.id)=IS at*;have hfin:Hid (∀A c w',Own w' w.heap.size 48 3 A IS.length c (IS.flatMap Id.cells)->Fr Non w w'->Ev IS w (.returned (.slice A IS.length c)) w'):=fun A c w' h1 h2=>⟨A,c,rfl,h1,h2⟩;unfold Ev at ka;clear h;generalize Ev IS w=POST at*;generalize r.g.gb=gb at*;generalize r.rb=rb at*;go_enter func15,ntmps15;go_wp2_with (go_at_call 25;(with_reducible refine (ka.out).mono ?_);rintro _ w1 ⟨A5,c5,rfl,o5,f5⟩;(have hd:=lh (hfin.out A5 c5 w1 o5 f5)));exact hd.out
end Oq
section
open Go.RowKit Go.Maps Go.WideElems
open Go.ChangeMaps (modify_eq_set)
namespace Oq
abbrev FkG (f:Int × Int):Value:=.agg #[.int .i64 f.1,.int .i64 f.2]
def LeastAt (w:World) (b m:Nat) (f:Int->Option Int):Prop:=
 ∃(n:Nat) (D:DataW Nat),w.ownsMap zp 3 (plainElem zp 3) b n D/\n<=m/\IsMap D/\∀x,has D (.int .i64 x)=(f x).isSome/\∀i,f x=some i->∀z,D.atKey (.int .i64 x) z=.lit (.int .i64 i)
theorem LeastAt.made (w:World):LeastAt (w.alloc (.map #[] 0)) w.heap.size 0 (fun _=>none):=
 ⟨0,.map [],World.ownsMap_made w _ _ _,Ap1 _,isMap_empty,fun x=>⟨rfl,fun i h=>by cases h⟩⟩
theorem LeastAt.fr {S:Nat->Prop} {w w':World} {b m:Nat} {f:Int->Option Int} (h:LeastAt w b m f) (hf:Fr S w w') (hb:¬S b):LeastAt w' b m f:=by
 obtain ⟨n,D,ho,hn,rest⟩:=h;obtain ⟨es,clock,hbl,r2⟩:=ho;exact ⟨n,D,⟨es,clock,(hf.block b (Array.getElem?_eq_some_iff.1 hbl).1 hb).trans hbl,r2⟩,hn,rest⟩
theorem LeastAt.lt {w:World} {b m:Nat} {f:Int->Option Int} (h:LeastAt w b m f):b<w.heap.size:=by
 obtain ⟨n,D,ho,_⟩:=h;exact ho.lt
theorem LeastAt.congr {w:World} {b m:Nat} {f g:Int->Option Int} (h:LeastAt w b m f) (hg:∀x,g x=f x):LeastAt w b m g:=by
 obtain ⟨n,D,ho,hn,hm,hs⟩:=h;exact ⟨n,D,ho,hn,hm,fun x=>by rw [hg x];exact hs x⟩
end Oq
end
namespace Oq
attribute [local go_sem] Ao4 Ao5
end Oq
end Go.Proofs.YtgbdljlapmjmnaaGreatDoor
namespace Go.Proofs
open Go.Shelf Go.RowKit Go.Lib Go.Sort
end Go.Proofs
namespace Go.Proofs.YtgbdljlapmjmnaaGreatDoor
open Go.RowKit
attribute [local go_sem ↓] Go.wp_at_zero Go.wp_at_succ
section
open Go.RowKit Go.Sort Go.Shelf
namespace Oq
end Oq
end
section
open Go.RowKit Go.Maps
namespace Oq
attribute [local go_sem] Ao4 Ao5
theorem St (p v:Value):Instr.storeAt 48 p v=stS 48 p v:=rfl
attribute [local go_sem ↓] St
theorem Am3:(zp.info? 48).map (·.size)=some 3:=by kernel_rfl
theorem one3 (a b:Int) (u:Nat):(#[.int .i64 a,.int .i64 b,.int .u64 (u:Int)]:Array Value).all (·.oneCell')=true:=by simp [Value.oneCell']
def RF (f:Int->Option Int) (left:Lit->Bool) (xs:List (Int × Int)):Prop:=(xs.map Prod.fst).Nodup/\∀d i,(d,i)∈xs<->(f d=some i/\left (.int .i64 d)=false)
theorem RF.start {f:Int->Option Int} {left:Lit->Bool} (h:∀d,(f d).isSome=left (.int .i64 d)):RF f left []:=
 ⟨List.nodup_nil,fun d i=>⟨fun h=>absurd h Ao6,fun ⟨h1,h2⟩=>by rw [<- h d,h1] at h2;cases h2⟩⟩
theorem RF.step {f:Int->Option Int} {left:Lit->Bool} {xs:List (Int × Int)} (h:RF f left xs) {x c:Int} (hx:f x=some c) (hl:left (.int .i64 x)=true):RF f (fun z=>left z&& !z.sameKey (.int .i64 x)) (xs++[(x,c)]):=by
 have hs:∀d:Int,(Lit.int .i64 d).sameKey (.int .i64 x)=decide (d=x):=by
  intro d
  by_cases e:d=x
  ·
   subst e;rw [decide_eq_true rfl];exact WideAt.sameKey_self (by simp [WideAt.IsKeyLit])
  ·
   rw [decide_eq_false e];exact sameKey_ne (fun e2=>e (by injection e2))
 refine ⟨?_,fun d i=> ?_⟩
 ·
  rw [Ap7];refine List.nodup_append.2 ⟨h.1,by simp,fun a ha b hb=> ?_⟩;obtain rfl:=List.mem_singleton.1 (show b∈[x] from hb);rintro rfl;obtain ⟨⟨d,i⟩,h1,rfl⟩:=List.mem_map.1 ha;have:=((h.2 d i).1 h1).2;rw [hl] at this
  cases this
 ·
  rw [List.mem_append,h.2 d i];dsimp only;rw [hs d]
  by_cases e:d=x
  ·
   subst e;rw [hl,decide_eq_true rfl];constructor
   ·
    rintro (⟨_,h2⟩|h2)
    · cases h2
    ·
     have:=List.mem_singleton.1 h2;injection this with _ e2
     subst e2;exact ⟨hx,rfl⟩
   ·
    rintro ⟨h1,_⟩;rw [hx] at h1;injection h1 with h1
    subst h1;exact .inr (List.mem_singleton.2 rfl)
  ·
   rw [decide_eq_false e];constructor
   ·
    rintro (⟨h1,h2⟩|h2)
    · exact ⟨h1,by rw [h2];rfl⟩
    ·
     have:=List.mem_singleton.1 h2;injection this with e2 _
     exact absurd e2 e
   ·
    rintro ⟨h1,h2⟩;exact .inl ⟨h1,by simpa using h2⟩
theorem RF.done {f:Int->Option Int} {left:Lit->Bool} {xs:List (Int × Int)} (h:RF f left xs) (hl:∀kl,left kl=false):∀d i,(d,i)∈xs<->f d=some i:=fun d i=>by
 rw [h.2 d i,hl];exact ⟨fun h=>h.1,fun h=>⟨h,rfl⟩⟩
theorem RF.few {f:Int->Option Int} {left:Lit->Bool} {xs:List (Int × Int)} (h:RF f left xs) (hd:∀d i,f d=some i->1<=d/\d<=12):xs.length<=12:=by
 have hs:∀d∈xs.map Prod.fst,d∈(List.range 12).map (fun (i:Nat)=>(i:Int)+1):=by
  intro d hm;obtain ⟨⟨d',i⟩,h1,rfl⟩:=List.mem_map.1 hm;have h2:=hd d' i ((h.2 d' i).1 h1).1;exact List.mem_map.2 ⟨(d'-1).toNat,List.mem_range.2 (by omega),by omega⟩
 have:=Gk h.1 hs;simpa using this
end Oq
end
namespace Oq
attribute [local go_sem] Ao4 Ao5
attribute [local go_sem ↓] Gm Bi Jt St Sf
theorem Su (base B n c:Nat) (A:Option Addr) (r:FG) (x:OpL) (hs:List Nat) (w:World) (h:r.own w base) (hx:x.lies w base) (hb:base<=w.heap.size) (hok:x.op.ok) (hp:x.pastA=none/\x.pastC=0/\x.past=[]) (hdev:∃d:Nat,x.by_=(d:Int)/\d<=1000) (hat:0<=x.at_/\x.at_<=3)
    (hn:Hid (hs.length=n)) (hr:Rd w B 1 A n (hs.map Qv)) (hn3:n<=3) (hlt:∀p∈hs,p<r.l.length) (hin:plc r.l (Be r.l x.op hs).name=none->Aj r.cards r.l (sgn (Be r.l x.op hs))=0/\FkB (r.l++[Ak r.l (sgn (Be r.l x.op hs))])):
    Calls zp 45 #[.agg r.cells,.agg x.cells,.slice A n c] w (Fo base r x.op hs w):=by
  have ef:=h.num.few;have hl:=Ce (P:=zp) w.heap.size 28 underlying28 rfl (cs:=r.cells) Cu
  have s0:Bl w (((w.alloc (.cells r.cells 28)).alloc (.cells x.cells 55)).alloc (.cells #[.slice none 0 0,.slice none 0 0,.slice none 0 0,.slice none 0 0] 28)) r.cells x x.sq x.at_ none 0 0 []:=by
    have f0:Fr Non w (((w.alloc (.cells r.cells 28)).alloc (.cells x.cells 55)).alloc (.cells #[.slice none 0 0,.slice none 0 0,.slice none 0 0,.slice none 0 0] 28)):=(((Fr.refl Non w).alloc _).alloc _).alloc _;have b1:=(Blk.new (w.alloc (.cells r.cells 28)) 55 x.cells).alloc (.cells #[.slice none 0 0,.slice none 0 0,.slice none 0 0,.slice none 0 0] 28);have b2:=Blk.new ((w.alloc (.cells r.cells 28)).alloc (.cells x.cells 55)) 28 #[.slice none 0 0,.slice none 0 0,.slice none 0 0,.slice none 0 0];rw [Ap3] at b1;rw [Ap3,Ap3] at b2
    have ex:x.put x.sq x.at_ none 0 []=x:=by
      obtain ⟨h1,h2,h3⟩:=hp;unfold OpL.put;rw [<- h1,<- h2,<- h3]
    refine ⟨((Blk.new w 28 r.cells).alloc _).alloc _,by rw [ex];exact b1,b2,f0,by simp only [Ap3];omega,Own.nil _ _ _ _,rfl⟩
  have kb:=lh (fun (v:World) (hf:Fr Non w v)=>Aj7 base B n c r A hs v (h.non hf) hn (hr.fr hf zr) (by omega) hlt)
  have ag:Hid (∀p,p<r.l.length->∃(m:Pn) (b ac:Nat),r.l[p]? =some m/\r.lA=some ⟨b,ac,none⟩/\cI w b (ac+p*27) m.o.by_/\cI w b (ac+p*27+1) m.o.sq/\cI w b (ac+p*27+3) m.o.at_):=by
    intro i hi;obtain ⟨y,b,ac,_,h1,_,h3,_,h4⟩:=h.xAt (Ao7 hi);exact ⟨_,b,ac,Ao7 hi,h3,by rw [<- h1];exact h4 0 (by omega) _ rfl,by rw [<- h1];exact h4 1 (by omega) _ rfl,by rw [<- h1];exact h4 3 (by omega) _ rfl⟩
  have ao:Hid (∀p,p<r.l.length->∃(m:Pn) (b ac:Nat),r.l[p]? =some m/\r.iA=some ⟨b,ac,none⟩/\cI w b (ac+p*3) m.id.b/\cI w b (ac+p*3+1) m.id.s/\cU w b (ac+p*3+2) m.id.u):=fun p hp=>h.idAt hp;have b5:Hid (∀m∈r.l,1<=m.o.sq/\m.o.sq<=14):=fun m hm=>⟨h.num.s1 m hm,by have:=h.num.sq m hm;omega⟩;have b0:Hid (∀m∈r.l,m.o.at_<=42):=fun m hm=>by have:=h.num.at_ m hm;omega
  have bo:Hid (∀ys k p m,ys[k]? =some p->r.l[p]? =some m->Cc r.l x.by_ ys (k+1)=if m.o.by_=x.by_ then max (Cc r.l x.by_ ys k) (m.o.sq+1) else Cc r.l x.by_ ys k):=fun ys k p m h1 h2=>R9 h1 h2;have e6:Hid (∀ys k,1<=Cc r.l x.by_ ys k/\Cc r.l x.by_ ys k<=15):=fun ys k=>⟨Mj _ _ _ _,Mi (by omega) (fun p hp m hm _=>by have:=(b5.out m (Ao9 hm)).2;omega) k⟩;have ew:Hid (∀ys,Cc r.l x.by_ ys 0=1):=fun _=>rfl;replace hlt:=lh hlt;go_enter func45,ntmps45;go_upto_region 1 with (fail)
  generalize ((w.alloc (.cells r.cells 28)).alloc (.cells x.cells 55)).alloc (.cells #[.slice none 0 0,.slice none 0 0,.slice none 0 0,.slice none 0 0] 28)=w0 at*;have z1:cI w0 (w.heap.size+1) 1 x.sq:=s0.b.cell 1;have z2:=s0.b.frozen 1;go_upto_region 2 with (fail)
  have s1:=s0.sq 1;generalize w0.setCell ⟨w.heap.size+1,1,none⟩ (.int .i64 1)=w1 at*;clear s0 z1 z2;have bg:=s1.g;have cq:=s1.sz;go_upto_region 3 with (go_at_call 89;(with_reducible refine (kb.out _ s1.f).mono ?_);rintro _ w2 ⟨ys,A7,c7,rfl,cf,cb,ab,f2⟩)
  replace ab:=Hr ab cq;have s2:=s1.non f2;clear s1 bg kb f2 cq;replace cf:=lh cf;replace cb:=lh cb;have g1:Hid (r.cells[1]? =some (.slice r.lA r.l.length r.lC)):=rfl;have g2:Hid (r.cells[2]? =some (.slice r.iA r.l.length r.iC)):=rfl;have g3:Hid (r.cells[3]? =some (.slice r.pA r.l.length r.pC)):=rfl;have ax:=lh (bo.out ys);have bw:=lh (e6.out ys);have cy:=lh (ew.out ys)
  have dz:ys.length<=14:=by
    have:=Gk cf.out.1 (ys:=List.range r.l.length) (fun q hq=>List.mem_range.2 (cb.out q hq));simp at this;omega
  clear bo e6 ew;generalize hSQ:Cc r.l x.by_ ys=SQ at*;obtain ⟨M,hM⟩:=Aa ys.length;rw [hM.out] at ab dz ⊢;obtain ⟨N,hN⟩:=Aa r.l.length;rw [hN.out] at g1 g2 g3 ag ao ef hlt cb;obtain ⟨LA,de⟩:=Aa r.lA;rw [de.out] at g1 ag;obtain ⟨IA,ck⟩:=Aa r.iA;rw [ck.out] at g2 ao;obtain ⟨LC,dw⟩:=Aa r.lC;rw [dw.out] at g1;obtain ⟨IC,eo⟩:=Aa r.iC;rw [eo.out] at g2;go_wp2_with fail
  go_loopw [8] (fun v wr=>∃k:Nat,v=.int .i64 (k:Int)/\k<=M/\Bl w wr r.cells x (SQ k) x.at_ none 0 0 []/\Own wr (w.heap.size+3) 3 1 A7 M c7 (ys.map Qv)) (fun v _=>M-(intOf v).toNat)
  case atStart=>exact ⟨0,rfl,Ap8 _,by rw [cy.out];exact s2,ab⟩
  case round=>
    obtain ⟨k,rfl,hk,s3,az⟩:=hrel;clear s2 ab
    by_cases hkM:k<M
    · obtain ⟨p,cu⟩:∃p,ys[k]? =some p:=⟨_,Ao7 (by rw [hM.out];exact hkM)⟩
      have dl:=cb.out p (Ao9 cu);obtain ⟨m,b,ac,hm,rfl,c0,c1,c3⟩:=ag.out p dl;obtain ⟨b7,o7,u7,rfl,_,di,d7⟩:=az.rd.at hkM;rw [Ap4,cu] at di;injection di with di
      subst di;replace d7:cI wr b7 (o7+k) (p:Int):=d7;have dj:=lh (ax.out k p m cu hm);have fm:=bw.out k;have ft:=b5.out m (Ao9 hm);obtain ⟨i1,i2,i3⟩:=ix k M
      obtain ⟨p1,p2,p3⟩:=ix p N
      have t0:decide ((k:Int)<M)=true:=decide_eq_true i2;have ej:decide (k<M)=true:=decide_eq_true hkM;have e1:=iw ((k:Int)+1);have e2:=iw (m.o.sq+1);go_upto_region 6 with (fail)
      have F0:Fr Non wr wr.drew:=(Fr.refl Non wr).drew;have f3:Fr Non w wr.drew:=s3.f.trans F0 zr;have H0:cS wr.drew w.heap.size 1 (some ⟨b,ac,none⟩) N LC:=(s3.g.cell 1).trans g1.out;have D0:cI wr.drew b7 (o7+k) (p:Int):=d7;have E0:cI wr.drew b (ac+p*27) m.o.by_:=f3.cell c0 zq;have X0:cI wr.drew (w.heap.size+1) 0 x.by_:=s3.b.cell 0;refine wp_region_held_drew (S:=fun w'=>cS w' w.heap.size 1 (some ⟨b,ac,none⟩) N LC/\cI w' b7 (o7+k) (p:Int)/\cI w' b (ac+p*27) m.o.by_/\cI w' (w.heap.size+1) 0 x.by_) (by kernel_rfl) ⟨H0,D0,E0,X0⟩ (fun hHeld=> ?_);clear hHeld;have uu:=aI H0 (aI D0 (aI E0 X0));refine tkH 0 uu (h:=tkH 1 uu (h:=tkH 2 uu (h:=tkH 3 uu (h:=tkH 4 uu (h:=tkH 5 uu (h:=tkH 6 uu (h:=tkH 7 uu (h:=tkH 8 uu (h:=tkH 9 uu (h:=tkH 10 uu (h:=tkH 11 uu (h:=?_))))))))))));clear uu;simp only [zl];refine oD ?_;go_simp;have s4:=s3.non F0;have af:=az.drew;have ev:=f3.cell c1 zq;generalize wr.drew=w4 at*;clear H0 E0 X0 c0 c3 s3 az f3 d7 ag ao
      by_cases hby:m.o.by_=x.by_
      · rw [if_pos hby] at dj
        have t1:(m.o.by_==x.by_)=true:=beq_iff_eq.2 hby;clear cu hm;go_upto_region 7 with (fail)
        have H0:cS w4.drew w.heap.size 1 (some ⟨b,ac,none⟩) N LC:=(s4.g.cell 1).trans g1.out;replace D0:cI w4.drew b7 (o7+k) (p:Int):=D0;have E0:cI w4.drew b (ac+p*27+1) m.o.sq:=ev;have X0:cI w4.drew (w.heap.size+1) 1 (SQ k):=s4.b.cell 1;refine Dd (S:=fun w'=>cS w' w.heap.size 1 (some ⟨b,ac,none⟩) N LC/\cI w' b7 (o7+k) (p:Int)/\cI w' b (ac+p*27+1) m.o.sq/\cI w' (w.heap.size+1) 1 (SQ k)) 14 (by kernel_rfl) ?_;have uu:=aI H0 (aI D0 (aI E0 X0));refine tkG 0 uu (h:=tkG 1 uu (h:=tkG 2 uu (h:=tkG 3 uu (h:=tkG 4 uu (h:=tkG 5 uu (h:=tkG 6 uu (h:=tkG 7 uu (h:=tkG 8 uu (h:=tkG 9 uu (h:=tkG 10 uu (h:=tkG 11 uu (h:=?_))))))))))));clear uu;simp only [zl];refine tkG 12 ⟨H0,D0,E0,X0⟩ (h:=tkG 13 ⟨H0,D0,E0,X0⟩ (h:=?_));simp only [zl];have nz:=s4.b.frozen 1;refine Cz (by kernel_rfl) ?_;refine oG 14 (fun K hK=> ?_);go_simp;refine hK.out _ _ trivial (fun hZ=> ?_);clear hZ hK K;try simp only [Ai,zl]
        refine oD ?_;go_simp;have s5:=(s4.sq (max (SQ k) (m.o.sq+1))).non (Fr.refl Non _).drew;have be:=(Own.setFar (i:=1) af s4.b (by decide) (.int .i64 (max (SQ k) (m.o.sq+1)))).drew;clear nz H0 D0 E0 X0 s4 af ev;generalize (w4.setCell ⟨w.heap.size+1,1,none⟩ (.int .i64 (max (SQ k) (m.o.sq+1)))).drew=w5 at*;go_wp2_with fail;go_roundw
        case rel=>exact ⟨k+1,by go_num,by omega,by rw [dj.out];exact s5,be⟩
        case measure=>simp [intOf];omega
      · rw [if_neg hby] at dj
        have t1:(m.o.by_==x.by_)=false:=beq_eq_false_iff_ne.2 hby;clear cu hm;go_wp2_with fail;go_roundw
        case rel=>exact ⟨k+1,by go_num,by omega,by rw [dj.out];exact s4,af⟩
        case measure=>simp [intOf];omega
    · obtain rfl:k=M:=by omega
      have t0:decide ((k:Int)<k)=false:=decide_eq_false (by omega);have ej:decide (k<k)=false:=decide_eq_false (by omega)
      have ei:Hid (SQ k=Ao r.l (Ah r.l (hs.map (nmP r.l))) x.by_ r.l.length+1):=by
        show _=_;rw [<- hSQ,<- hM.out];exact Ak3 h.rows (by rw [hN.out];omega) cf.out (by intro p hp;rw [hN.out];exact hlt.out p hp) _
      have eu:=bw.out k;obtain ⟨S,hS⟩:=Aa (SQ k);rw [hS.out] at ei eu s3;clear ax bw cy hSQ;clear hS;have bc:Hid (late r.l ((hs.take 0).map (nmP r.l))=0):=rfl
      have a8:Hid (∀k p m,hs[k]? =some p->r.l[p]? =some m->late r.l ((hs.take (k+1)).map (nmP r.l))=max (late r.l ((hs.take k).map (nmP r.l))) m.o.at_):=by
        intro k p m hp hm;have h1:(hs.map (nmP r.l))[k]? =some (nmP r.l p):=by rw [Ap4,hp];rfl
        have h2:=Pq r.l (hs.map (nmP r.l)) k h1;rw [List.map_take,List.map_take];rw [h2,Fb hm,Hd (h.rows.ok p m hm).plc hm]
      have bh:Hid (∀k p m,hs[k]? =some p->r.l[p]? =some m->(hs.take (k+1)).map (nmP r.l)=(hs.take k).map (nmP r.l)++[m.id]):=fun k p m hp hm=>by rw [Dp hp,Ap7,List.map_cons,List.map_nil,Fb hm]
      have a3:Hid (∀k,0<=late r.l ((hs.take k).map (nmP r.l))/\late r.l ((hs.take k).map (nmP r.l))<=42):=fun k=>⟨R4 _ _,Pr r.l 42 (by omega) b0.out _⟩;have bb:Hid ((hs.take 0).map (nmP r.l)=[]):=rfl;have aw:Hid (late r.l ((hs.take n).map (nmP r.l))=late r.l (hs.map (nmP r.l))):=by show _=_;rw [<- hn.out,Aq0]
      have a7:Hid ((hs.take n).map (nmP r.l)=hs.map (nmP r.l)):=by show _=_;rw [<- hn.out,Aq0]
      have dp:Hid (∀k,((hs.take k).map (nmP r.l)).length<=k):=fun k=>by rw [Ap2,List.length_take];omega
      obtain ⟨LT,cg⟩:∃LT:Nat->Int,Hid (∀k,LT k=late r.l ((hs.take k).map (nmP r.l))):=⟨_,fun _=>rfl⟩;obtain ⟨NM,cv⟩:∃NM:Nat->List Id,Hid (∀k,NM k=(hs.take k).map (nmP r.l)):=⟨_,fun _=>rfl⟩;replace a3:Hid (∀k,0<=LT k/\LT k<=42):=fun k=>by rw [cg.out];exact a3.out k
      replace a8:Hid (∀k p m,hs[k]? =some p->r.l[p]? =some m->LT (k+1)=max (LT k) m.o.at_):=fun k p m h1 h2=>by rw [cg.out,cg.out];exact a8.out k p m h1 h2
      replace bh:Hid (∀k p m,hs[k]? =some p->r.l[p]? =some m->NM (k+1)=NM k++[m.id]):=fun k p m h1 h2=>by rw [cv.out,cv.out];exact bh.out k p m h1 h2
      replace bb:Hid (NM 0=[]):=(cv.out 0).trans bb.out;replace bc:Hid (LT 0=0):=(cg.out 0).trans bc.out;replace aw:Hid (LT n=late r.l (hs.map (nmP r.l))):=(cg.out n).trans aw.out;replace a7:Hid (NM n=hs.map (nmP r.l)):=(cv.out n).trans a7.out;clear cg cv dp;generalize wr=wb at*;go_wp2_with fail
      go_loopw [9,10] (fun t v wr=>∃(j:Nat) (Ap:Option Addr) (cp:Nat),v=.int .i64 (j:Int)/\t=.int .i64 (LT j)/\j<=n/\Bl w wr r.cells x S x.at_ Ap j cp (NM j)/\Own wr (w.heap.size+3) 3 1 A7 k c7 (ys.map Qv)) (fun _ v _=>n-(intOf v).toNat)
      case atStart=>exact ⟨0,none,0,rfl,by rw [bc.out],Ap8 _,by rw [bb.out];exact s3,az⟩
      case round=>
        obtain ⟨j,Ap,cp,rfl,rfl,hj,s4,af⟩:=hrel;clear s3 az
        by_cases hjn:j<n
        · obtain ⟨p,cc⟩:∃p,hs[j]? =some p:=⟨_,Ao7 (by rw [hn.out];exact hjn)⟩
          have dl:=hlt.out p (Ao9 cc);obtain ⟨m,b,ac,hm,rfl,c0,c1,c3⟩:=ag.out p dl;obtain ⟨m',bi,oi,dh,rfl,d0,d1,d2⟩:=ao.out p dl;obtain rfl:m'=m:=by rw [hm] at dh;injection dh with dh;exact dh.symm
          obtain ⟨b4,o4,u4,rfl,_,dd,cr⟩:=hr.at hjn;rw [Ap4,cc] at dd;injection dd with dd
          subst dd;replace cr:cI w b4 (o4+j) (p:Int):=cr;have d7:=s4.f.cell cr zq;have fp:=lh (a8.out j p m' cc hm);have e5:=lh (bh.out j p m' cc hm);have dn:=a3.out j;have ft:=b0.out m' (Ao9 hm);obtain ⟨i1,i2,i3⟩:=ix j n
          obtain ⟨p1,p2,p3⟩:=ix p N
          have t0:decide ((j:Int)<n)=true:=decide_eq_true i2;have ej:decide (j<n)=true:=decide_eq_true hjn;have e1:=iw ((j:Int)+1);have f4:=s4.f;have cz:=s4.past.row;have ey:=s4.sz;have d8:=lh cc;clear cc hm c0 c1;go_upto_region 12 with (fail)
          have F0:Fr Non wr wr.drew:=(Fr.refl Non wr).drew;have Hb:cS wr w.heap.size 2 (some ⟨bi,oi,none⟩) N IC:=(s4.g.cell 2).trans g2.out;have Db:cI wr b4 (o4+j) (p:Int):=d7;obtain ⟨Ib,Jb,Kb⟩:=zk3 f4 d0 d1 d2;have Pb:wr.cell? ⟨w.heap.size+1,4,none⟩=some (.slice Ap j cp):=by have h9:=s4.b.cell 4;have h8:=s4.len;rw [<- h8];exact h9
          have H0:cS wr.drew w.heap.size 2 (some ⟨bi,oi,none⟩) N IC:=Hb;have D0:cI wr.drew b4 (o4+j) (p:Int):=Db;have I0:cI wr.drew bi (oi+p*3) m'.id.b:=Ib;have J0:cI wr.drew bi (oi+p*3+1) m'.id.s:=Jb;have K0:cU wr.drew bi (oi+p*3+2) m'.id.u:=Kb;have P0:cS wr.drew (w.heap.size+1) 4 Ap j cp:=Pb;clear d7 ao ag;refine Dd (S:=fun w'=>cS w' w.heap.size 2 (some ⟨bi,oi,none⟩) N IC/\cI w' b4 (o4+j) (p:Int)/\cI w' bi (oi+p*3) m'.id.b/\cI w' bi (oi+p*3+1) m'.id.s/\cU w' bi (oi+p*3+2) m'.id.u/\cS w' (w.heap.size+1) 4 Ap j cp) 13 (by kernel_rfl) ?_;have uu:=aI H0 (aI D0 (aI I0 (aI J0 (aI K0 P0))));refine tkG 0 uu (h:=tkG 1 uu (h:=tkG 2 uu (h:=tkG 3 uu (h:=tkG 4 uu (h:=tkG 5 uu (h:=tkG 6 uu (h:=tkG 7 uu (h:=tkG 8 uu (h:=tkG 9 uu (h:=?_))))))))));clear uu;simp only [zl];refine Bn 10 (by kernel_rfl) rfl (fun K hK=> ?_);go_simp;have a5:=(Blk.new wr 48 m'.id.V).drew;have F1:Fr Non wr (wr.alloc (.cells m'.id.V 48)).drew:=((Fr.refl _ _).alloc _).drew;generalize (wr.alloc (.cells m'.id.V 48)).drew=v1 at*;obtain ⟨H1,D1,I1,J1,K1,P1⟩:=zk6 F1 Hb Db Ib Jb Kb Pb;refine hK.out _ _ ⟨H1,D1,I1,J1,K1,P1⟩ (fun hZ=> ?_);clear hZ hK K;try simp only [Ai,zl]
          have s5:=s4.non F1;refine Bn 11 (by kernel_rfl) rfl (fun K hK=> ?_);refine Em (base:=w.heap.size+3) (.tmp 55) (.tmp 64) 25 rfl rfl rfl C8 s5.past (Rd.blk (n:=1) (size:=3) a5 rfl) (by simp [Value.oneCell']) (by omega) (by omega) (Ao2 ey F1.size) ?_;intro A8 c8 v2 a4 bm ep;have fS:∀q,Ab Ap=some q->w.heap.size+3<=q:=fun q e=>(cz q e).1;have f8:Fr Non w v2:=s5.f.trans bm (fun q hq e=>by have h9:=fS q e;omega);have H2:=(s5.g.fr bm (fun e=>by have h9:=fS _ e;omega)).cell 2|>.trans g2.out;obtain ⟨D2,I2,J2,K2⟩:=zk4 f8 cr d0 d1 d2;have P2:v2.cell? ⟨w.heap.size+1,4,none⟩=some (.slice Ap j cp):=by have h9:=(s5.b.fr bm (fun e=>by have h9:=fS _ e;omega)).cell 4;have h8:=s5.len;rw [<- h8];exact h9
          refine hK.out _ _ ⟨H2,D2,I2,J2,K2,P2⟩ (fun hZ=> ?_);clear hZ hK K;try simp only [Ai,zl]
          refine tkG 12 ⟨H2,D2,I2,J2,K2,P2⟩ (h:=?_);simp only [zl];have nz:=(s5.b.fr bm (fun e=>by have h9:=fS _ e;omega)).frozen 4;refine Cz (by kernel_rfl) ?_;refine oG 13 (fun K hK=> ?_);go_simp;refine hK.out _ _ trivial (fun hZ=> ?_);clear hZ hK K;try simp only [Ai,zl]
          refine oD ?_;go_simp
          have cj:Own v2 (w.heap.size+3) 48 3 A8 (j+1) c8 ((NM (j+1)).flatMap Id.cells):=by
            rw [e5.out,List.flatMap_append];exact a4
          have s6:=s5.past! bm fS cj (by rw [e5.out,Ap0,s5.len];rfl);have ar:=Own.setFar (i:=4) (Own.grow2 (af.fr F1 zr) s5.past (by decide) bm) (s5.b.fr bm (fun e=>by have h9:=fS _ e;omega)) (by decide) (.slice A8 (j+1) c8);clear s5 s4 af a4 cj bm ep a5 F0 F1 f8 f4 fS cz nz Hb Db Ib Jb Kb Pb H0 D0 I0 J0 K0 P0 H1 D1 I1 J1 K1 P1 H2 D2 I2 J2 K2 P2 d0 d1 d2 cr ey;generalize v2.setCell ⟨w.heap.size+1,4,none⟩ (.slice A8 (j+1) c8)=v6 at*;go_upto_region 13 with (fail)
          have F0:Fr Non v6 v6.drew:=(Fr.refl Non v6).drew;have f6:=s6.f;obtain ⟨b8,o8,u8,e8,_,dk,d7⟩:=(hr.fr f6 zr).at hjn;injection e8 with e8
          injection e8 with e8 e9
          subst e8;subst e9;rw [Ap4,d8.out] at dk;injection dk with dk
          subst dk;have H0:cS v6.drew w.heap.size 1 (some ⟨b,ac,none⟩) N LC:=(s6.g.cell 1).trans g1.out;have D0:cI v6.drew b4 (o4+j) (p:Int):=d7;have E0:cI v6.drew b (ac+p*27+3) m'.o.at_:=f6.cell c3 zq;refine wp_region_held_drew (S:=fun w'=>cS w' w.heap.size 1 (some ⟨b,ac,none⟩) N LC/\cI w' b4 (o4+j) (p:Int)/\cI w' b (ac+p*27+3) m'.o.at_) (by kernel_rfl) ⟨H0,D0,E0⟩ (fun hHeld=> ?_);clear hHeld;have uu:=aI H0 (aI D0 E0);refine tkH 0 uu (h:=tkH 1 uu (h:=tkH 2 uu (h:=tkH 3 uu (h:=tkH 4 uu (h:=tkH 5 uu (h:=tkH 6 uu (h:=tkH 7 uu (h:=tkH 8 uu (h:=tkH 9 uu (h:=tkH 10 uu (h:=tkH 11 uu (h:=?_))))))))))));clear uu;simp only [zl];refine oD ?_;go_simp;have s7:=s6.non F0;have ab:=ar.drew;clear s6 ar F0 f6 H0 D0 E0 c3 d7;generalize v6.drew=v7 at*;go_wp2_with fail;go_roundw
          case rel=>exact ⟨j+1,A8,c8,by go_num,by rw [fp.out],by omega,s7,ab⟩
          case measure=>simp [intOf];omega
        · obtain rfl:j=n:=by omega
          have t0:decide ((j:Int)<j)=false:=decide_eq_false (by omega);have ej:decide (j<j)=false:=decide_eq_false (by omega);clear a8 bh bb bc ag ao;have dn:=a3.out j;obtain ⟨T,hT⟩:=Aa (LT j);rw [hT.out] at aw dn ⊢;rw [a7.out] at s4;have e1:=iw (x.at_+T);have z3:cI wr (w.heap.size+1) 3 x.at_:=s4.b.cell 3;have zf:=s4.b.frozen 3;go_upto_region 15 with (fail)
          have s5:=s4.at_ (x.at_+T);have be:=Own.setFar (i:=3) af s4.b (by decide) (.int .i64 (x.at_+T));clear s4 af z3 zf a3 a7 hT;generalize wr.setCell ⟨w.heap.size+1,3,none⟩ (.int .i64 (x.at_+T))=v1 at*;have ba:Hid ((hs.map (nmP r.l)).length=j):=by show _=_;rw [Ap2,hn.out]
          have ks:=lh (Oc v1.heap.size j cp Ap (hs.map (nmP r.l)) v1 ba.out s5.past.rd (by omega));have z4:v1.cell? ⟨w.heap.size+1,4,none⟩=some (.slice Ap j cp):=by have h9:=s5.b.cell 4;have h8:=s5.len;rw [<- h8];exact h9
          have b1:=s5.b;have dg:=s5.sz;go_upto_region 16 with (go_at_call 16;(with_reducible refine (ks.out).mono ?_);rintro _ v2 ⟨A9,c9,rfl,o9,f9⟩;(have z5:=f9.cell z4 zq);(have zf:=(b1.fr f9 zq).frozen 4))
          have s6:=s5.past! f9 (fun _ e=>e.elim) (Hr o9 dg) (by rw [Hk];exact ba.out);have ar:=Own.setFar (i:=4) (be.fr f9 zr) (b1.fr f9 zq) (by decide) (.slice A9 j c9);clear s5 be ks z4 b1 dg z5 zf o9 f9;generalize v2.setCell ⟨w.heap.size+1,4,none⟩ (.slice A9 j c9)=v3 at*
          have co:Hid ((x.put S (x.at_+T) A9 c9 (Ar (hs.map (nmP r.l)))).op=Be r.l x.op hs):=by
            show _=_;unfold Be;show _=({x.op with sq:=Ao r.l (Ah r.l (hs.map (nmP r.l))) x.by_ r.l.length+1,at_:=x.at_+late r.l (hs.map (nmP r.l)),past:=Ar (hs.map (nmP r.l))}:Op);rw [<- ei.out,<- aw.out];rfl
          have bj:Hid ((x.put S (x.at_+T) A9 c9 (Ar (hs.map (nmP r.l)))).op.ok):={hok with sq:=(show I64 S from ⟨by omega,by omega⟩),at_:=(show I64 (x.at_+T) from ⟨by omega,by omega⟩),past:=⟨by
              show (Ar (hs.map (nmP r.l))).length<=1000;rw [Hk,ba.out];omega,fun y hy=>by
              obtain ⟨p,hp,rfl⟩:=List.mem_map.1 ((Ef _).mem_iff.1 hy);have ez:p<r.l.length:=by rw [hN.out];exact hlt.out p hp
              rw [Fb (Ao7 ez)];exact (h.ok _ (Aq1 ez)).2⟩}
          generalize hPS:hs.map (nmP r.l)=PS at*;have bk:Hid (∀(v:World) (CS:Array Value),Bl w v CS x S (x.at_+T) A9 j c9 (Ar PS)->(x.put S (x.at_+T) A9 c9 (Ar PS)).lies v base):=fun v _ s=>(hx.non s.f).put (by have h8:=s.len;have h9:=(RowAt.of_own s.past).lies.lower (base':=base) (by omega);rw [h8];exact h9);generalize hY:x.put S (x.at_+T) A9 c9 (Ar PS)=Y at*;obtain ⟨aa,ak⟩:=Aa (Be r.l x.op hs).name;have eb:Y.op.name=aa:=by rw [co.out,ak.out]
          have e4:=lh (Ah6 Y aa eb v3 ((bk.out v3 _ s6).at) bj.out);have b3:(zp.info? 55).map (·.size)=some Y.cells.size:=by rw [show Y.cells.size=27 from rfl];kernel_rfl
          have fd:=Ce (P:=zp) (w.heap.size+1) 55 underlying55 rfl (cs:=Y.cells) b3;have bx:Blk v3 (w.heap.size+1) 55 Y.cells:=hY▸s6.b;go_upto_region 17 with (go_at_call 102;(with_reducible refine (e4.out).mono ?_);rintro _ v4 ⟨rfl,f4⟩;(have eh:=Cm (P:=zp) v4.heap.size 48 (cs:=aa.V) Am3 (old:=#[.int .i64 0,.int .i64 0,.int .u64 0]) rfl (one3 _ _ _));(have bn:=Blk.new v4 48 #[.int .i64 0,.int .i64 0,.int .u64 0]))
          have bz:=bn.setRow (cs:=aa.V);have fz:Fr Non v4 ((v4.alloc (.cells #[.int .i64 0,.int .i64 0,.int .u64 0] 48)).setRow v4.heap.size aa.V):=((Fr.refl Non v4).alloc _).setRow (fun hh=>absurd hh (by omega)) _;have s7:=(s6.non f4).non fz;have ab:=(ar.fr f4 zr).fr fz zr;have da:w.heap.size+3<=v4.heap.size:=Ao2 s6.sz f4.size;obtain ⟨gi,fw⟩:=Aa v4.heap.size;rw [fw.out] at bz fz s7 ab da ⊢;clear eh bn bx e4 f4 s6 ar;generalize (v4.alloc (.cells #[.int .i64 0,.int .i64 0,.int .u64 0] 48)).setRow gi aa.V=v5 at*;clear fz;have a0:=bz.cell 0;have a1:=bz.cell 1;have a2:=bz.cell 2;have fk:=(s7.g.cell 2).trans g2.out;have db:=lh (h.rdIds.fr s7.f zr);rw [hN.out,ck.out] at db;have b9:=lh (V8 w.heap.size N IC IA r.ids aa v5 (by show _=_;rw [FG.ids_len,hN.out]) db.out (by omega));have fc:Cw r.ids aa=(plc r.l aa).isSome:=Ak4 r.l aa;rw [fc] at b9;clear fc;unfold Af at b9
          cases hc:(plc r.l aa).isSome
          case true=>
            rw [hc] at b9
            have et:Dh r.l x.op hs=r.l:=by
              unfold Dh;rw [ak.out,if_pos hc]
            have fn:=Cm (P:=zp) (w.heap.size+2) 28 (cs:=r.cells) Cu (old:=#[.slice none 0 0,.slice none 0 0,.slice none 0 0,.slice none 0 0]) rfl (Gn r);have cn:Hid (∀v',Fr Non w v'->Fo base r x.op hs w (.returned (.agg r.cells)) v'):=fun v' hv=>⟨r,rfl,hv,h.non hv,rfl,et.symm⟩;clear et hin hx h fd b3 co bj bk eb db ab
            as_aux_lemma=>
            go_wp2_with (go_at_call 29;(with_reducible refine (b9.out).mono ?_);rintro _ v6 ⟨rfl,f6⟩;(have s8:=s7.non f6);(have bg:=s8.g);(have br:=s8.r));have dy:=br.setRow (cs:=r.cells);have fz:=s8.f.setRow (g:=w.heap.size+2) (fun hh=>absurd hh (by omega)) r.cells;have ed:=lh (cn.out _ fz)
            (try simp only [Exit.inBlock,Exit.then])
            refine C6 (t:=28) rfl rfl dy rfl underlying28 Cu rfl ?_;exact ed.out
          case false=>
            rw [hc] at b9
            have bp:plc r.l (Be r.l x.op hs).name=none:=by
              rw [ak.out]
              cases hq:plc r.l aa with
              |none=>rfl
              |some q=>rw [hq] at hc;cases hc
            obtain ⟨c6,es⟩:=hin bp;obtain ⟨d,fi,fs⟩:=hdev;have fv:Y.by_=(d:Int):=by rw [<- hY];exact fi
            have kS:=lh (fun (v:World) (hl:Y.lies v base)=>Ak2 Y d base v fv fs hl bj.out)
            have bf:Hid (∀(z:OpL) (lA iA pA:Option Addr) (lC iC pC:Nat) (wz:World),Fr Non w wz->z.op=sgn Y.op->z.lies wz base->
                Own wz (w.heap.size+3) 55 27 lA (N+1) lC (r.xs.flatMap (fun x=>x.cells.toList)++z.cells.toList)->
                Own wz (w.heap.size+3) 48 3 iA (N+1) iC (r.ids.flatMap Id.cells++aa.V.toList)->
                Own wz (w.heap.size+3) 22 1 pA (N+1) pC (r.ps.map UpL.cell++[.slice A7 k c7])->
                Own wz (w.heap.size+3) 3 1 A7 k c7 (ys.map Qv)->
                Fo base r x.op hs w (.returned (.agg #[.slice r.cA r.cards.length r.cC,.slice lA (N+1) lC,.slice iA (N+1) iC,.slice pA (N+1) pC])) wz):=by
              intro z lA iA pA lC iC pC wz hf hz df oL oI oU o7;refine Ak8 h hb hf (by rw [hz,co.out]) df (by rw [<- co.out];exact bj.out) cf.out (by intro p hp;rw [hN.out];exact hlt.out p hp) (by rw [ak.out];exact hc) c6 es hN.out hM.out oL (by rw [ak.out];exact oI) oU o7
            have d4:=lh (h.ops.sl.rd);rw [hN.out,de.out] at d4;have en:=lh h.rdIds;rw [hN.out,ck.out] at en;have dt:=lh (h.pasts.sl.rd);rw [hN.out] at dt;have cl:=lh (Si r.xs);have bv:=lh (Id.cells_one r.ids);have ea:=lh (Ak7 r.ps);have g0:Hid (r.cells[0]? =some (.slice r.cA r.cards.length r.cC)):=rfl
            have fa:Hid (r.cells=#[.slice r.cA r.cards.length r.cC,.slice LA N LC,.slice IA N IC,.slice r.pA N r.pC]):=by
              show _=_;unfold FG.cells;rw [hN.out,de.out,dw.out,ck.out,eo.out]
            clear c6 es hin hx h b3 co bp ak eb db de dw ck eo ei dn aw ba hPS hlt cf cb b5 b0 hn hr hp hM hok eu;rw [fa.out] at s7 hl g1 g2 g3 g0;obtain ⟨CA,du⟩:=Aa r.cA;obtain ⟨nc,d6⟩:=Aa r.cards.length;obtain ⟨CC,ds⟩:=Aa r.cC;obtain ⟨PA,d9⟩:=Aa r.pA;obtain ⟨PC,fg⟩:=Aa r.pC;rw [du.out,d6.out,ds.out,d9.out,fg.out] at s7 hl g1 g2 g3 g0;rw [du.out,d6.out,ds.out] at bf;rw [d9.out] at dt;clear fa du d6 ds d9 fg;generalize Fo base r x.op hs w=POST at*;generalize r.xs.flatMap (fun x=>x.cells.toList)=LL at*;generalize r.ids.flatMap Id.cells=IL at*;generalize r.ps.map UpL.cell=UL at*;go_upto_region 19 with (go_at_call 29;(with_reducible refine (b9.out).mono ?_);rintro _ v6 ⟨rfl,f6⟩)
            have s8:=s7.non f6;have a4:=ab.fr f6 zr;have fb:=bz.fr f6 zq;clear s7 ab bz a0 a1 a2 fk f6 b9;have F0:Fr Non v6 v6.drew:=(Fr.refl Non v6).drew;have dm:=s8.sz;have X0:Blk v6 (w.heap.size+1) 55 Y.cells:=hY▸s8.b;have G0:cS v6 w.heap.size 1 LA N LC:=(s8.g.cell 1).trans g1.out;have e0:=lh (d4.out.fr s8.f zr);refine Dd (S:=fun w'=>Blk w' (w.heap.size+1) 55 Y.cells/\cS w' w.heap.size 1 LA N LC) 8 (by kernel_rfl) ?_;refine tkG 0 ⟨X0,G0⟩ (h:=tkG 1 ⟨X0,G0⟩ (h:=tkG 3 ⟨X0,G0⟩ (h:=?_)));simp only [zl];refine Bn 2 (by kernel_rfl) rfl (fun K hK=> ?_);refine Em (base:=w.heap.size+3) (.const (.slice none 0 0)) (.tmp 95) 24 rfl rfl rfl slOp (Own.nil _ _ _ _) (e0.out.fr F0 zr) cl.out (by omega) (by omega) dm ?_;intro lA lC v1 oL fL ae;rw [Ao3,Ap5] at oL;have F1:Fr Non v6 v1:=F0.trans (Hl fL) zr;have a9:∀k,Ab lA=some k->v6.heap.size<=k:=fun k hk=>by rcases ae with e|e;(rw [e] at hk;cases hk);(rw [e] at hk;injection hk with hk;have fj:v6.heap.size=k:=hk;omega)
            have X1:=X0.fr F1 zq;have G1:=F1.cell G0 zq;refine hK.out _ _ ⟨X1,G1⟩ (fun hZ=> ?_);clear hZ hK K;try simp only [Ao3,Ai,zl]
            refine Bn 4 (by kernel_rfl) rfl (fun K hK=> ?_);go_simp;go_wp2_with (go_at_call 103;(with_reducible refine (kS.out _ (bk.out _ _ (s8.non F1))).mono ?_);rintro _ v2 ⟨z,rfl,e3,df,f2⟩;have F2:=F1.trans f2 zr;have er:=oL.fr f2 zr);have X2:=X0.fr F2 zq;have G2:=F2.cell G0 zq;refine hK.out _ _ ⟨X2,G2⟩ (fun hZ=> ?_);clear hZ hK K;try simp only [Ai,zl]
            have fq:=Sh z;refine Bn 5 (by kernel_rfl) rfl (fun K hK=> ?_);go_simp;have a5:=Blk.new v2 55 z.cells;have eg:=er.alloc (.cells z.cells 55);have F3:Fr Non v6 (v2.alloc (.cells z.cells 55)):=F2.alloc _;have ci:=df.non ((Fr.refl Non v2).alloc (.cells z.cells 55));obtain ⟨ga,cd⟩:=Aa v2.heap.size;rw [cd.out] at a5 ⊢;generalize v2.alloc (.cells z.cells 55)=v3 at*;have X3:=X0.fr F3 zq;have G3:=F3.cell G0 zq;refine hK.out _ _ ⟨X3,G3⟩ (fun hZ=> ?_);clear hZ hK K;try simp only [Ai,zl]
            refine Bn 6 (by kernel_rfl) rfl (fun K hK=> ?_);refine Em (base:=w.heap.size+3) (.tmp 96) (.tmp 99) 24 rfl rfl rfl slOp eg (Rd.blk (n:=1) (size:=27) a5 rfl) (Mk z) (by omega) (by omega) (Ao2 dm F3.size) ?_;intro ah ai v4 e7 ek el;have F4:Fr Non v6 v4:=F3.trans ek (fun k hk e=>by have h9:=a9 k e;omega);have cm:=ci.keepP ek (Types.row eg) (by decide) (by decide) (by decide) (by decide) (by decide) (by decide) (by decide);have X4:=X0.fr F4 zq;have G4:=F4.cell G0 zq;refine hK.out _ _ ⟨X4,G4⟩ (fun hZ=> ?_);clear hZ hK K;try simp only [Ai,zl]
            refine tkG 7 ⟨X4,G4⟩ (h:=?_);simp only [zl];have s9:=s8.non F4;have nz:=s9.g.frozen 1;refine Cz (by kernel_rfl) ?_;refine oG 8 (fun K hK=> ?_);go_simp;refine hK.out _ _ trivial (fun hZ=> ?_);clear hZ hK K;try simp only [Ai,zl]
            refine oD ?_;go_simp;have t9:=s9.setG 1 (.slice ah (N+1) ai);have dq:=Own.setFar (i:=1) e7 s9.g (by decide) (.slice ah (N+1) ai);have dr:=Own.setFar (i:=1) (a4.fr F4 zr) s9.g (by decide) (.slice ah (N+1) ai);have dc:=(fb.fr F4 zq).far (p:=⟨w.heap.size,1,none⟩) (by have h9:=da;show gi≠w.heap.size;omega) (.slice ah (N+1) ai);have d5:=cm.setG s9.g 1 (.slice ah (N+1) ai);generalize v4.setCell ⟨w.heap.size,1,none⟩ (.slice ah (N+1) ai)=w9 at*;change Bl w w9 #[.slice CA nc CC,.slice ah (N+1) ai,.slice IA N IC,.slice PA N PC] x S (x.at_+T) A9 j c9 (Ar PS) at t9;clear s9 s8 oL er eg e7 fL ek ae el a9 F0 F1 F2 F3 F4 X0 X1 X2 X3 X4 G0 G1 G2 G3 G4 f2 a5 cd nz e0 cl d4 df ci cm fq kS fd a4 fb hl bk dm;go_upto_region 20 with (fail)
            have c4:=t9.sz;have dv:=lh (en.out.fr t9.f zr)
            go_cut [7] from 102 to 108 (fun s wc=>s=.slice A7 k c7/\∃iA iC,Bl w wc #[.slice CA nc CC,.slice ah (N+1) ai,.slice iA (N+1) iC,.slice PA N PC] x S (x.at_+T) A9 j c9 (Ar PS)/\Own wc (w.heap.size+3) 48 3 iA (N+1) iC (IL++aa.V.toList)/\Own wc (w.heap.size+3) 55 27 ah (N+1) ai (LL++z.cells.toList)/\Own wc (w.heap.size+3) 3 1 A7 k c7 (ys.map Qv)/\z.lies wc base)
            case first=>
              clear bf
              as_aux_lemma=>
              have F0:Fr Non w9 w9.drew:=(Fr.refl Non w9).drew;have G0:cS w9 w.heap.size 2 IA N IC:=t9.g.cell 2;have I0:cI w9 gi 0 aa.b:=dc.cell 0;have J0:cI w9 gi 1 aa.s:=dc.cell 1;have K0:cU w9 gi 2 aa.u:=dc.cell 2;refine Dd (S:=fun w'=>cS w' w.heap.size 2 IA N IC/\cI w' gi 0 aa.b/\cI w' gi 1 aa.s/\cU w' gi 2 aa.u) 7 (by kernel_rfl) ?_;refine tkG 0 ⟨G0,I0,J0,K0⟩ (h:=tkG 1 ⟨G0,I0,J0,K0⟩ (h:=tkG 3 ⟨G0,I0,J0,K0⟩ (h:=?_)));simp only [zl];refine Ak6 2 4 (by kernel_rfl) rfl rfl (fun K hK=> ?_) (fun K hK=> ?_)
              · skip
                refine Em (base:=w.heap.size+3) (.const (.slice none 0 0)) (.tmp 103) 25 rfl rfl rfl C8 (Own.nil _ _ _ _) (dv.out.fr F0 zr) bv.out (by omega) (by omega) c4 ?_;intro iA iC v1 oI fI ae;rw [Ao3,Ap5] at oI;have F1:Fr Non w9 v1:=F0.trans (Hl fI) zr;have a9:∀k,Ab iA=some k->w9.heap.size<=k:=fun k hk=>by rcases ae with e|e;(rw [e] at hk;cases hk);(rw [e] at hk;injection hk with hk;have fj:w9.heap.size=k:=hk;omega)
                obtain ⟨G1,I1,J1,K1⟩:=zk4 F1 G0 I0 J0 K0;refine hK.out _ _ ⟨G1,I1,J1,K1⟩ (fun hZ=> ?_);clear hZ hK K;try simp only [Ao3,Ai,zl]
                refine Bn 4 (by kernel_rfl) rfl (fun K hK=> ?_);go_simp;have a5:=Blk.new v1 48 aa.V;have fl:=oI.alloc (.cells aa.V 48);have F2:Fr Non w9 (v1.alloc (.cells aa.V 48)):=F1.alloc _;obtain ⟨ga,cd⟩:=Aa v1.heap.size;rw [cd.out] at a5 ⊢;generalize v1.alloc (.cells aa.V 48)=v2 at*;obtain ⟨G2,I2,J2,K2⟩:=zk4 F2 G0 I0 J0 K0;refine hK.out _ _ ⟨G2,I2,J2,K2⟩ (fun hZ=> ?_);clear hZ hK K;try simp only [Ai,zl]
                refine Bn 5 (by kernel_rfl) rfl (fun K hK=> ?_);refine Em (base:=w.heap.size+3) (.tmp 104) (.tmp 106) 25 rfl rfl rfl C8 fl (Rd.blk (n:=1) (size:=3) a5 rfl) (by simp [Value.oneCell']) (by omega) (by omega) (Ao2 c4 F2.size) ?_;intro aj al v3 ee dx bs;have F3:Fr Non w9 v3:=F2.trans dx (fun k hk e=>by have h9:=a9 k e;omega);obtain ⟨G3,I3,J3,K3⟩:=zk4 F3 G0 I0 J0 K0;refine hK.out _ _ ⟨G3,I3,J3,K3⟩ (fun hZ=> ?_);clear hZ hK K;try simp only [Ai,zl]
                refine tkG 6 ⟨G3,I3,J3,K3⟩ (h:=?_);simp only [zl];have ad:=t9.non F3;have nz:=ad.g.frozen 2;refine Cz (by kernel_rfl) ?_;refine oG 7 (fun K hK=> ?_);go_simp;have ec:=ad.setG 2 (.slice aj (N+1) al);have bq:=Own.setFar (i:=2) ee ad.g (by decide) (.slice aj (N+1) al);have b6:=Own.setFar (i:=2) (dq.fr F3 zr) ad.g (by decide) (.slice aj (N+1) al);have ca:=Own.setFar (i:=2) (dr.fr F3 zr) ad.g (by decide) (.slice aj (N+1) al);have bu:=(d5.non F3).setG ad.g 2 (.slice aj (N+1) al);refine hK.out _ _ trivial (fun hZ=> ?_);clear hZ hK K;try simp only [Ai,zl]
                refine oD ?_;go_simp;go_wp2_with fail;go_meet;exact ⟨rfl,aj,al,ec,bq,b6,ca,bu⟩
              · skip
                go_simp;have au:=(Blk.new w9 48 aa.V).drew;have F1:Fr Non w9 (w9.alloc (.cells aa.V 48)).drew:=((Fr.refl Non w9).alloc _).drew;have dg:=F1.size;obtain ⟨ga,cd⟩:=Aa w9.heap.size;have fo:w9.heap.size<=w9.heap.size:=Ap1 _;rw [cd.out] at au ⊢;generalize (w9.alloc (.cells aa.V 48)).drew=v1 at*;obtain ⟨G1,I1,J1,K1⟩:=zk4 F1 G0 I0 J0 K0;refine hK.out _ _ ⟨G1,I1,J1,K1⟩ (fun hZ=> ?_);clear hZ hK K;try simp only [Ai,zl]
                refine Bn 2 (by kernel_rfl) rfl (fun K hK=> ?_);refine Em (base:=w.heap.size+3) (.const (.slice none 0 0)) (.tmp 103) 25 rfl rfl rfl C8 (Own.nil _ _ _ _) (dv.out.fr F1 zr) bv.out (by omega) (by omega) (Ao2 c4 dg) ?_;intro iA iC v2 oI fI ae;rw [Ao3,Ap5] at oI;have F2:Fr Non w9 v2:=F1.trans (Hl fI) zr;have a5:=au.fr (Hl fI) zq;have a9:∀k,Ab iA=some k->w9.heap.size<=k:=fun k hk=>by rcases ae with e|e;(rw [e] at hk;cases hk);(rw [e] at hk;injection hk with hk;omega)
                obtain ⟨G2,I2,J2,K2⟩:=zk4 F2 G0 I0 J0 K0;refine hK.out _ _ ⟨G2,I2,J2,K2⟩ (fun hZ=> ?_);clear hZ hK K;try simp only [Ao3,Ai,zl]
                refine Bn 5 (by kernel_rfl) rfl (fun K hK=> ?_);refine Em (base:=w.heap.size+3) (.tmp 104) (.tmp 106) 25 rfl rfl rfl C8 oI (Rd.blk (n:=1) (size:=3) a5 rfl) (by simp [Value.oneCell']) (by omega) (by omega) (Ao2 c4 F2.size) ?_;intro aj al v3 ee dx bs;have F3:Fr Non w9 v3:=F2.trans dx (fun k hk e=>by have h9:=a9 k e;omega);obtain ⟨G3,I3,J3,K3⟩:=zk4 F3 G0 I0 J0 K0;refine hK.out _ _ ⟨G3,I3,J3,K3⟩ (fun hZ=> ?_);clear hZ hK K;try simp only [Ai,zl]
                refine tkG 6 ⟨G3,I3,J3,K3⟩ (h:=?_);simp only [zl];have ad:=t9.non F3;have nz:=ad.g.frozen 2;refine Cz (by kernel_rfl) ?_;refine oG 7 (fun K hK=> ?_);go_simp;have ec:=ad.setG 2 (.slice aj (N+1) al);have bq:=Own.setFar (i:=2) ee ad.g (by decide) (.slice aj (N+1) al);have b6:=Own.setFar (i:=2) (dq.fr F3 zr) ad.g (by decide) (.slice aj (N+1) al);have ca:=Own.setFar (i:=2) (dr.fr F3 zr) ad.g (by decide) (.slice aj (N+1) al);have bu:=(d5.non F3).setG ad.g 2 (.slice aj (N+1) al);refine hK.out _ _ trivial (fun hZ=> ?_);clear hZ hK K;try simp only [Ai,zl]
                refine oD ?_;go_simp;go_wp2_with fail;go_meet;exact ⟨rfl,aj,al,ec,bq,b6,ca,bu⟩
            case rest=>
            obtain ⟨rfl,iA,iC,ad,oI,oL,o7,zl⟩:=hcut;generalize wc=wd at*;clear t9 dq dr d5 dc dv c4 en bv;have bt:=ad.sz;have c2:=lh (dt.out.fr ad.f zr);have d3:=ad.g.cell 3;replace d3:cS wd w.heap.size 3 PA N PC:=d3
            go_upto_region 22 with (first
              |(at_builtin;go_loud (refine As (base:=w.heap.size+3) (.const (.slice none 0 0)) (.tmp 110) 26 rfl rfl rfl rfl slIi (Own.nil _ _ _ _) c2.out ea.out (by omega) (by omega) bt ?_);intro pA pC v1 oU fU ae;rw [Ao3,Ap5] at oU;have F1:Fr Non wd v1:=Hl fU;have a9:∀k,Ab pA=some k->wd.heap.size<=k:=(fun k hk=>by rcases ae with e|e;(rw [e] at hk;cases hk);(rw [e] at hk;injection hk with hk;omega));have au:=Blk.new v1 22 #[.slice A7 k c7];have ff:=oU.alloc (.cells #[.slice A7 k c7] 22);have F2:Fr Non wd (v1.alloc (.cells #[.slice A7 k c7] 22)):=F1.alloc _;clear ae fU)
              |(at_builtin;go_loud (refine As (base:=w.heap.size+3) (.tmp 111) (.tmp 113) 26 rfl rfl rfl rfl slIi ff (Rd.blk (n:=1) (size:=1) au rfl) (by simp [Value.oneCell']) (by omega) (by omega) (Ao2 bt F2.size) ?_);intro ap aq v2 fh fe bs;have F3:Fr Non wd v2:=F2.trans fe (fun k hk e=>by have h9:=a9 k e;omega);have bd:=ad.non F3;have z3:=bd.g.frozen 3;have n3:cS v2 w.heap.size 3 PA N PC:=bd.g.cell 3))
            have ce:=bd.setG 3 (.slice ap (N+1) aq);have ch:=Own.setFar (i:=3) fh bd.g (by decide) (.slice ap (N+1) aq);have cx:=Own.setFar (i:=3) (oI.fr F3 zr) bd.g (by decide) (.slice ap (N+1) aq);have cw:=Own.setFar (i:=3) (oL.fr F3 zr) bd.g (by decide) (.slice ap (N+1) aq);have c5:=Own.setFar (i:=3) (o7.fr F3 zr) bd.g (by decide) (.slice ap (N+1) aq);have ct:=(zl.non F3).setG bd.g 3 (.slice ap (N+1) aq);generalize v2.setCell ⟨w.heap.size,3,none⟩ (.slice ap (N+1) aq)=v13 at*;change Bl w v13 #[.slice CA nc CC,.slice ah (N+1) ai,.slice iA (N+1) iC,.slice ap (N+1) aq] x S (x.at_+T) A9 j c9 (Ar PS) at ce;clear ad bd oI oL o7 zl oU ff fh fe bs F1 F2 F3 au a9 d3 n3 z3 c2 bt;have bl:(zp.info? 28).map (·.size)=some (#[.slice CA nc CC,.slice ah (N+1) ai,.slice iA (N+1) iC,.slice ap (N+1) aq]:Array Value).size:=Cu;have av:(#[.slice CA nc CC,.slice ah (N+1) ai,.slice iA (N+1) iC,.slice ap (N+1) aq]:Array Value).all (·.oneCell')=true:=by simp [Value.oneCell']
            have ay:=lh (bf.out z ah iA ap ai iC aq);obtain ⟨CZ,em⟩:=Aa (#[.slice CA nc CC,.slice ah (N+1) ai,.slice iA (N+1) iC,.slice ap (N+1) aq]:Array Value);rw [em.out] at bl av ay ce;have fx:=Ce (P:=zp) w.heap.size 28 underlying28 rfl (cs:=CZ) bl;have fu:=Cm (P:=zp) (w.heap.size+2) 28 (cs:=CZ) bl (old:=#[.slice none 0 0,.slice none 0 0,.slice none 0 0,.slice none 0 0]) (by rw [<- em.out];rfl) av;have bg:=ce.g;have br:=ce.r;clear em bf g0 g1 g2 g3 av;have dy:=br.setRow (cs:=CZ);have fz:=ce.f.setRow (g:=w.heap.size+2) (fun hh=>absurd hh (by omega)) CZ;have fr:=Sc (w:=v13) (g:=w.heap.size+2) CZ;have a6:∀{t size n c:Nat} {A:Option Addr} {xs:List Value},Own v13 (w.heap.size+3) t size A n c xs->Own (v13.setRow (w.heap.size+2) CZ) (w.heap.size+3) t size A n c xs:=fun h=>h.fr fr (fun q hq e=>by have h9:=(h.row q hq).1;have h8:q=w.heap.size+2:=e;omega);have ed:=lh (ay.out _ fz e3 (ct.keepP fr (Types.one br) (by decide) (by decide) (by decide) (by decide) (by decide) (by decide) (by decide)) (a6 cw) (a6 cx) (a6 ch) (a6 c5));clear ay fz fr a6 cw cx ch c5 ct ce e3
            as_aux_lemma=>
            go_wp2_with fail
            (try simp only [Exit.inBlock,Exit.then])
            refine C6 (t:=28) rfl rfl dy rfl underlying28 bl rfl ?_;exact ed.out
end Oq
namespace Oq
theorem Sv {cards:List Cd} (hc:cards=An 0 [1,2,2,3]) {d:Int} (hd:1<=d/\d<=4):∃c,Eg cards d=some c/\c.s=Sg.pub (sec Bj d.toNat):=by
 subst hc;have h4:d=1\/d=2\/d=3\/d=4:=by omega
 show ∃c,List.find? _ [B0 0 1,B0 1 2,B0 2 2,B0 3 3]=some c/\_
 rcases h4 with rfl|rfl|rfl|rfl
 · exact ⟨B0 0 1,by rw [Ap6 (by rw [De];decide)],Hj _ _⟩
 · exact ⟨B0 1 2,by rw [Ao8 (by rw [De];decide),Ap6 (by rw [De];decide)],Hj _ _⟩
 · exact ⟨B0 2 2,by rw [Ao8 (by rw [De];decide),Ao8 (by rw [De];decide),Ap6 (by rw [De];decide)],Hj _ _⟩
 · exact ⟨B0 3 3,by rw [Ao8 (by rw [De];decide),Ao8 (by rw [De];decide),Ao8 (by rw [De];decide),Ap6 (by rw [De];decide)],Hj _ _⟩
def Ea (l:List Pn) (a b:Nat):List Nat:=[a/4%l.length]++(if 0<=Dg l ((1:Int)+(a%4:Nat)) l.length/\0<a/64%5 then [(Dg l ((1:Int)+(a%4:Nat)) l.length).toNat] else [])++(if b%3=0 then [b/3%l.length] else [])
def Ew (l:List Pn) (a b:Nat):Op:=Cj (if b%2=0 then 7 else 4) ((1:Int)+(a%4:Nat)) 0 ((b/6%4:Nat):Int) [] (nmP l 0) [UInt8.ofNat (65+b/2%3)]
def Mr (l:List Pn) (a b:Nat):List Pn:=Dh l (Ew l a b) (Cn l (Ea l a b))
def Ex (k0:List Int):Nat->List Pn
 |0=>Dh [] (El 1) []
 |j+1=>Mr (Ex k0 j) (Cs k0 (2*j)) (Cs k0 (2*j+1))
def Jx (k0:List Int):List Pn:=Ex k0 (min 13 (k0.length/2))
theorem Sw {l:List Pn} (hne:l≠[]) (a b:Nat):∀p∈Ea l a b,p<l.length:=by
 have h0:0<l.length:=List.length_pos_iff.2 hne;intro p hp;unfold Ea at hp
 rcases List.mem_append.1 hp with hp|hp
 ·
  rcases List.mem_append.1 hp with hp|hp
  ·
   rw [List.mem_singleton.1 hp];exact Nat.mod_lt _ h0
  ·
   split at hp
   ·
    rename_i hc;rw [List.mem_singleton.1 hp];have:=(Mf l ((1:Int)+(a%4:Nat)) l.length).2;omega
   · cases hp
 ·
  split at hp
  ·
   rw [List.mem_singleton.1 hp];exact Nat.mod_lt _ h0
  · cases hp
theorem Sx (l:List Pn) (a b:Nat):(Ea l a b).length<=3:=by
 unfold Ea;rw [Ap0,Ap0]
 split<;>split<;>simp
theorem Am4 (l:List Pn) (a b:Nat):Ea l a b≠[]:=by
 unfold Ea;simp
theorem Am5 (l:List Pn) (k b dt:Int) (hs:List Nat) (e:Id) (y:List UInt8):Be l (Cj k b 0 dt [] e y) hs=Hp l k b dt hs e y:=by
 unfold Be Hp;rw [Ho,Md];unfold Cj
 by_cases hk:k=7
 ·
  rw [if_pos hk,if_pos hk];rfl
 ·
  rw [if_neg hk,if_neg hk];rfl
theorem Sy {l:List Pn} (hB:FkB l) (h13:l.length<=13) {o:Op} {hs:List Nat} (hb:1<=o.by_/\o.by_<=12) (ha:o.at_<=3):FkB (l++[Ak l (sgn (Be l o hs))]):=by
 have hlen:(l++[Ak l (sgn (Be l o hs))]).length=l.length+1:=by rw [Ap0];rfl
 have hsq:(sgn (Be l o hs)).sq=Ao l (Ah l (hs.map (nmP l))) o.by_ l.length+1:=by rw [Af4];rfl
 have hat:(sgn (Be l o hs)).at_=o.at_+late l (hs.map (nmP l)):=by rw [Af5];rfl
 have hby:(sgn (Be l o hs)).by_=o.by_:=by rw [Rj];rfl
 have h1:Ao l (Ah l (hs.map (nmP l))) o.by_ l.length<=l.length:=Mc (by omega) hB.sq _;have h2:=Jr l (Ah l (hs.map (nmP l))) o.by_ l.length;have h3:late l (hs.map (nmP l))<=3*l.length:=Pr l _ (by omega) hB.at_ _;refine ⟨fun n hn=> ?_,fun n hn=> ?_,fun n hn=> ?_,fun n hn=> ?_,by rw [hlen];omega⟩<;>rw [List.mem_append,List.mem_singleton] at hn<;>rcases hn with hn|rfl
 · have:=hB.sq n hn;rw [hlen];omega
 · rw [hlen,Hm,hsq];omega
 · have:=hB.at_ n hn;rw [hlen];omega
 · rw [hlen,Hm,hat];omega
 · exact hB.by_ n hn
 · rw [Hm,hby];exact hb
 · exact hB.s1 n hn
 · rw [Hm,hsq];omega
theorem Am6 {cards:List Cd} {l:List Pn} (h:Rows cards l) (hB:FkB l) {n:Pn} (hn:n∈l):n.id.named=true:=by
 obtain ⟨i,hi⟩:=List.getElem?_of_mem hn;rw [(h.ok i n hi).id];refine Rm (hB.by_ n hn) ⟨hB.s1 n hn,?_⟩;have:=hB.sq n hn;have:=hB.few;omega
theorem fk_in {cards:List Cd} {l:List Pn} (h:Rows cards l) (hB:FkB l) (hc:cards=An 0 [1,2,2,3]) (hne:l≠[]) (h13:l.length<=13) (a b:Nat):
  plc l (Be l (Ew l a b) (Cn l (Ea l a b))).name=none->Aj cards l (sgn (Be l (Ew l a b) (Cn l (Ea l a b))))=0/\FkB (l++[Ak l (sgn (Be l (Ew l a b) (Cn l (Ea l a b))))]):=by
 intro hnew;have hlt:=Sw hne a b;have h0:0<l.length:=List.length_pos_iff.2 hne;refine ⟨?_,Sy hB h13 (by unfold Ew;rw [Ho];omega) (by unfold Ew;rw [Md];omega)⟩;unfold Ew at hnew ⊢;rw [Am5] at hnew ⊢;refine Aj1 h hB (fun b h1 h2=>Sv hc ⟨h1,h2⟩) (Ai7 h (Am4 l a b) hlt) (Ry _ _ _) (Ao2 (Jq _ _ _) (Sx l a b)) (fun p hp=>hlt p (Hn _ hp).1) (fun p hp q hq=>(Hn _ hp).2 q (Hn _ hq).1) ⟨by omega,by omega⟩ ⟨by omega,by omega⟩ ?_ ⟨by simp,by simp⟩ hnew;have hn:l[0]? =some l[0]:=Ao7 h0;rw [Fb hn];exact Am6 h hB (Aq1 h0)
theorem Am7:Be [] (El 1) []=El 1:=rfl
theorem Am8 {cards:List Cd} (hc:cards=An 0 [1,2,2,3]):plc [] (Be [] (El 1) []).name=none->Aj cards [] (sgn (Be [] (El 1) []))=0/\FkB ([]++[Ak [] (sgn (Be [] (El 1) []))]):=by
 intro _;obtain ⟨c,h1,h2⟩:=Sv hc (d:=1) ⟨by decide,by decide⟩;refine ⟨?_,Sy ⟨fun _ hn=>absurd hn Ao6,fun _ hn=>absurd hn Ao6,fun _ hn=>absurd hn Ao6,fun _ hn=>absurd hn Ao6,by decide⟩ (by decide) (by decide) (by decide)⟩;rw [Am7];exact Rl (c:=c) (Af6 (by decide)) rfl (by simp) h1 h2 (.inr rfl) rfl (by show clash [] []=false;unfold clash Cg;simp) (Int.le_refl _) rfl
theorem Sz (l:List Pn) (o:Op) (hs:List Nat):(Dh l o hs).length<=l.length+1:=by
 unfold Dh
 split
 · omega
 ·
  rw [Ap0];exact Ap1 _
theorem Am9 {l:List Pn} (h:l≠[]) (o:Op) (hs:List Nat):Dh l o hs≠[]:=by
 unfold Dh
 split
 · exact h
 · simp
theorem Ms (k0:List Int):∀j,Ex k0 j≠[]
 |0=>by
  show Dh [] (El 1) []≠[];unfold Dh;rw [show plc [] (Be [] (El 1) []).name=none from rfl,if_neg (by simp)];simp
 |j+1=>Am9 (Ms k0 j) _ _
theorem S0 (k0:List Int):∀j,(Ex k0 j).length<=j+1
 |0=>Sz _ _ _
 |j+1=>Ao2 (Sz _ _ _) (by have:=S0 k0 j;omega)
end Oq
end Go.Proofs.YtgbdljlapmjmnaaGreatDoor
