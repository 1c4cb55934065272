/-
  Contracts of the functions that the claim's statement reaches, walked one by one (part 16).
  Conditions: as each theorem says.
-/
import Derived.WideKeyEntry
import Derived.Test.YtmcpnjoomlgmlaaGreatDoorRwM15
set_option maxRecDepth 100000
set_option maxHeartbeats 16000000
open Bool renaming not_false->Ax5,not_true->Ax6
open List renaming not_mem_nil->Ax7,getElem?_eq_getElem->Ax8,find?_cons_of_neg->Ax9,mem_of_getElem?->Ay0,length_append->Ay1,length_map->Ay3,getElem?_map->Ay5,nil_append->Ay6,find?_cons_of_pos->Ay7,map_append->Ay8,getElem?_toArray->Az0,take_length->Az1,getElem_mem->Az2
open Nat renaming le_trans->Ax3,zero_add->Ax4,le_refl->Ay2,zero_le->Ay9
open Go.World renaming size_alloc->Ay4
open Go.Proofs.Tryz
open Go.Proofs.Tryz renaming prog->zp
open Go.Lib renaming hid->lh
open List renaming set->zl
open Go.Ending renaming returned->ze
namespace Go.Proofs.YtmcpnjoomlgmlaaGreatDoor
open Go.RowKit
attribute [local go_sem ↓] Go.wp_at_zero Go.wp_at_succ
namespace Oq
attribute [local go_sem] Ax5 Ax6
theorem Tu {P:Program} {Q:Exit->Act->World->Prop} {l:List Oper} {md:Region.Mode} {S:World->Prop} {fuel:Nat} {listed:Array Bool} {a:Act} {w:World} (i j:Nat) {d:Option Tmp} {op:Go.Op} {ty:TypeId} {pos:String} {after:Array Edge} {g:Option (Nat × Bool)} {d':Option Tmp} {op':Go.Op} {ty':TypeId} {pos':String} {after':Array Edge} {g':Option (Nat × Bool)}
  (hr:Region.ready md l.toArray listed=[i,j]) (ho:l[i]? =some ⟨d,op,ty,pos,after,g⟩) (ho':l[j]? =some ⟨d',op',ty',pos',after',g'⟩)
  (hw:Region.wanted ⟨d,op,ty,pos,after,g⟩ (yielded l.toArray a.tmps)=true) (hw':Region.wanted ⟨d',op',ty',pos',after',g'⟩ (yielded l.toArray a.tmps)=true)
  (h:∀K':Act->World->Prop,Shut (∀a w,S w->(S w->wpAnyH P md l.toArray Q S fuel (listed.setIfInBounds i true) a w)->K' a w)->Oper.wp P ⟨d,op,ty,pos,after,g⟩ a w K' Q)
  (h':∀K':Act->World->Prop,Shut (∀a w,S w->(S w->wpAnyH P md l.toArray Q S fuel (listed.setIfInBounds j true) a w)->K' a w)->Oper.wp P ⟨d',op',ty',pos',after',g'⟩ a w K' Q):
  wpAnyH P md l.toArray Q S (fuel+1) listed a w:=
 wpAnyH_ready hr (by simp) (AllReadyH.cons (by rw [Az0];exact ho) (fun K' hK=>by rw [if_pos hw];exact h K' hK) (AllReadyH.cons (by rw [Az0];exact ho') (fun K' hK=>by rw [if_pos hw'];exact h' K' hK) AllReadyH.nil))
end Oq
namespace Oq
attribute [local go_sem] Ax5 Ax6
attribute [local go_sem ↓] Bo Di Tl
theorem Tv {cards:List Cd} {m:List Pn} {ws:List Op} {o:Op} (h:(plc m o.name).isSome=true\/ws.any (fun x=>Id.eq x.name o.name)=true):Bk cards (m,ws) o=(5,(m,ws)):=by unfold Bk;rw [if_pos h]
theorem Ar5 {cards:List Cd} {m:List Pn} {ws:List Op} {o:Op} (h1:(plc m o.name).isSome=false) (h2:ws.any (fun x=>Id.eq x.name o.name)=false):
  Bk cards (m,ws) o=if ready m o=false then if 200<=ws.length then (3,(m,ws)) else (0,(m,ws++[o])) else if Ao cards m o≠0 then (Ao cards m o,(m,ws)) else (0,Cf cards ws.length (m++[Ar m o]) ws):=by
 unfold Bk;rw [if_neg (by rw [h1,h2];simp)]
def TakeRPost (base:Nat) (r:Ai) (o:Op) (w:World) (e:Ending) (w':World):Prop:=
 e=.returned (.int .i64 (Bk r.g.cards r.st o).1)/\∃r':Ai,Hid (Ai.Step base r r' w w')/\Hid (r'.st=(Bk r.g.cards r.st o).2)
theorem TakeRPost.mk {base:Nat} {r r':Ai} {o:Op} {w w':World} {a:Int} {s:List Pn × List Op} (h:Bk r.g.cards r.st o=(a,s)) (hs:Ai.Step base r r' w w') (he:r'.st=s):TakeRPost base r o w (.returned (.int .i64 a)) w':=by
 unfold TakeRPost;rw [h];exact ⟨rfl,r',hs,he⟩
theorem Nz (base B n c:Nat) (A:Option Addr) (r:Ai) (o:Op) (w:World) (h:r.okAt w base) (hk:KindsAt w) (hn:Hid (o.put.length=n)) (hr:Rd w B 1 A n (o.put.map Bv)) (hl:n<=1099511627776) (hok:o.ok):
  Calls zp 9 #[.pointer (some ⟨r.rb,0,none⟩),.slice A n c] w (TakeRPost base r o w):=by
 have aa:(zp.info? 52).map (·.size)=some 27:=by kernel_rfl
 have kg:Hid (Calls zp 25 #[.slice A n c] w (fun e w'=>∃x:OpL,x.op=o/\e=.returned (.tuple #[.agg x.cells,.int .i64 0])/\x.own w' w.heap.size/\Fr Non w w')):=by
  have:=Qa B n c A o.put w hn hr hl;unfold Gi at this;rw [Oo hok.okR] at this;exact this
 have b1:base<=w.heap.size:=Ax3 h.rbase (Nat.le_of_lt h.blk.lt);have ab:Hid (∀(a:Int) (s:List Pn × List Op) (r':Ai) (w':World),Bk r.g.cards r.st o=(a,s)->Ai.Step base r r' w w'->r'.st=s->TakeRPost base r o w (.returned (.int .i64 a)) w'):=fun a s r' w' h1 h2 h3=>TakeRPost.mk h1 h2 h3;generalize TakeRPost base r o w=POST at*;obtain ⟨nm,aq⟩:∃nm,o.name=nm:=⟨_,rfl⟩;have ay:nm.ok:=by rw [<- aq];exact Kd hok
 obtain ⟨rb,af⟩:=Aa r.rb;obtain ⟨gb,bf⟩:=Aa r.g.gb;obtain ⟨N,hN⟩:=Aa r.ws.length;rw [af.out];replace h:=lh h;replace hk:=lh hk;clear hn hr hl;go_enter func9,ntmps9;go_upto_region 2 with (go_at_call 25;(with_reducible refine (kg.out).mono ?_);rintro _ w1 ⟨x,bb,rfl,xo,f1⟩;have bn:=Blk.new w1 52 zO;have bl:=Ch (P:=zp) w1.heap.size 52 (cs:=x.cells) aa (old:=zO) rfl (Ds x))
 have bx:Blk ((w1.alloc (.cells zO 52)).setRow w1.heap.size x.cells) w1.heap.size 52 x.cells:=bn.setRow;have fx:Fr Non w1 ((w1.alloc (.cells zO 52)).setRow w1.heap.size x.cells):=((Fr.refl Non w1).alloc _).setRow (fun hh=>absurd hh (by omega)) _;have f2:=f1.trans fx zr;have au:=(xo.lower b1).non fx;have aw:x.op.ok:=by rw [bb];exact hok
 obtain ⟨ob,b0⟩:=Aa w1.heap.size;have ah:w.heap.size<=w1.heap.size:=f1.size;rw [b0.out] at bx f2 au ah ⊢;replace ah:=lh ah;clear kg xo bl bn f1 fx b0 b1;generalize (w1.alloc (.cells zO 52)).setRow ob x.cells=w2 at*;have cd:=Bs (P:=zp) ob 52 underlying52 rfl (cs:=x.cells) aa;have bu:=lh (fun (w':World) (h:Fr Non w2 w')=>Nw x nm (by rw [bb];exact aq) w' (au.non h).at aw);have kO:=lh (fun (w':World) (hf:Fr Non w w')=>Ny (l:=r.g.pns) nm (h.out.graph.fr hf) bf.out rfl ay);unfold Io at kO;have kL:=lh (fun (w':World) (hf:Fr Non w2 w')=>Jv base r.g x w' Jx (h.out.graph.fr (f2.trans hf zr)) (au.non hf).at aw.past.2 (by have:=aw.past.1;show x.op.past.length<=_;omega));unfold Hh at kL;have kA:=lh (fun (w':World) (hf:Fr Non w2 w')=>Tr base r x w' (h.out.non (f2.trans hf zr)) (au.non hf).at aw (hk.out.fr (f2.trans hf zr)));unfold Nx at kA;rw [bb] at kA;have kC:=lh (fun (iv:Nat) (w':World) (hf:Fr Non w w') (hi:Blk w' iv 45 nm.V)=>Aq9 w'.heap.size N r.c iv r.A r.ws (fun y=>Id.eq y.op.name nm) w' hN (by have:=(h.out.non hf).row.rd;rwa [hN.out] at this) (by have:=h.out.few;rw [hN.out] at this;omega) (fun y hy w'' hg=>Aq7 y nm iv w'' ((h.out.ops y hy).1.non (hf.trans hg zr)).at (h.out.ops y hy).2 (hi.fr hg zq)));unfold Ag at kC;have ao:=lh (Tp (g:=r.g) rfl x);rw [bb] at ao;rw [bf.out] at kL kA;obtain ⟨LL,bz⟩:=Aa (x.past.filter (fun id=> !(place r.g.nodes id).isSome));rw [bz.out] at kL ao;obtain ⟨LN,cf⟩:=Aa LL.length;rw [cf.out] at kL ao;have b8:Hid (Own w2 base 52 27 r.A N r.c (r.ws.flatMap (fun x=>x.cells.toList))/\x.own w2 base/\x.op=o/\o.ok):=⟨by have:=(h.out.non f2).row;rwa [hN.out] at this,au,bb,hok⟩;have ba:=Tm x;have a2:=Nt x;have a8:x.cells.size=27:=rfl;obtain ⟨XC,b3⟩:=Aa x.cells;rw [b3.out] at bx cd bu kL kA ba a2 a8;have bd:r.okAt w2 base:=h.out.non f2;have P2:w2.cell? ⟨rb,0,none⟩=some (.pointer (some ⟨gb,0,none⟩)):=by have:=bd.blk.cell 0;rwa [af.out,bf.out] at this
 have V2:w2.cell? ⟨rb,1,none⟩=some (.slice r.A N r.c):=by have:=bd.blk.cell 1;rwa [af.out,hN.out] at this
 have b5:N<=200:=by have:=bd.few;rwa [hN.out] at this
 have aj:Hid ((r.ws.map OpL.op).any (fun y=>Id.eq y.name nm)=r.ws.any (fun y=>Id.eq y.op.name nm)):=by show _=_;rw [List.any_map];rfl
 obtain ⟨WB,ci⟩:=Aa (r.ws.any (fun y=>Id.eq y.op.name nm));rw [ci.out] at kC aj;clear au aw bz bd ay aa hok;go_upto_region 4 with (fail)
 go_upto_region 5 with (go_at_call 26;(with_reducible refine (bu.out _ (Fr.refl _ _)).mono ?_);rintro _ w3 ⟨rfl,f3⟩)
 have bi:=Blk.new w3 45 nm.V;have av:Fr Non w2 (w3.alloc (.cells nm.V 45)):=f3.alloc _;have bs:w.heap.size<=w3.heap.size:=(f2.trans f3 zr).size;obtain ⟨ib,bw⟩:=Aa w3.heap.size;rw [bw.out] at bi ⊢;generalize w3.alloc (.cells nm.V 45)=w4 at*;have ak:=f2.trans av zr;have b6:=bx.fr av zq;obtain ⟨P4,V4⟩:=zk2 av P2 V2;have i0:cI w4 ib 0 nm.b:=bi.cell 0;have i1:cI w4 ib 1 nm.s:=bi.cell 1;have i2:cU w4 ib 2 nm.u:=bi.cell 2;clear bu f3 P2 V2 bw bs
 go_cut [8,9] from 21 to 29 (fun s1 s2 wc=>∃(qb:Nat) (is:Bool),s1=.pointer (some ⟨qb,0,none⟩)/\s2=.bool is/\Hid ((plc r.g.pns nm).isSome=is)/\Fr Non w4 wc)
 case first=>
  have aa:(zp.info? 52).map (·.size)=some 27:=by kernel_rfl
  have P0:=P4;have I0:=i0;have J0:=i1;have K0:=i2;have F0:Fr Non w4 w4.drew:=(Fr.refl Non w4).drew;have G0:Fr Non w w4.drew:=ak.drew;refine wp_region_held_drew (S:=fun w'=>w'.cell? ⟨rb,0,none⟩=some (.pointer (some ⟨gb,0,none⟩))/\cI w' ib 0 nm.b/\cI w' ib 1 nm.s/\cU w' ib 2 nm.u) (by kernel_rfl) ⟨P0,I0,J0,K0⟩ (fun hHeld=> ?_);clear hHeld;have uu:=aI P0 (aI I0 (aI J0 K0));refine tkH 0 uu (h:=tkH 1 uu (h:=tkH 2 uu (h:=tkH 3 uu (h:=tkH 4 uu (h:=?_)))));clear uu;simp only [zl];refine Tu 5 9 (by kernel_rfl) rfl rfl (by kernel_rfl) (by kernel_rfl) (fun K hK=> ?_) (fun K hK=> ?_)
  ·
   skip
   go_simp;go_wp2_with (go_at_call 27;(with_reducible refine (kO.out _ G0).mono ?_);rintro _ v1 ⟨y2,is,rfl,ai,_,_,ar⟩;have F1:=F0.trans ar zr;obtain ⟨P1,I1,J1,K1⟩:=zk4 F1 P0 I0 J0 K0;have G1:=ak.trans F1 zr);refine hK.out _ _ ⟨P1,I1,J1,K1⟩ (fun hZ=> ?_);clear hZ hK K;try simp only [Ad,zl]
   refine tkH 6 ⟨P1,I1,J1,K1⟩ (h:=tkH 7 ⟨P1,I1,J1,K1⟩ (h:=tkH 8 ⟨P1,I1,J1,K1⟩ (h:=?_)));simp only [zl];refine oG 9 (fun K hK=> ?_);go_simp;have bk:Fr Non v1 (v1.alloc (.cells zO 52)):=(Fr.refl _ _).alloc _;have a6:=Blk.new v1 52 zO;have F2:=F1.trans bk zr;obtain ⟨P2,I2,J2,K2⟩:=zk4 F2 P0 I0 J0 K0;have G2:=ak.trans F2 zr;obtain ⟨qb,a3⟩:=Aa v1.heap.size;rw [a3.out] at a6 ⊢;have ce:w4.heap.size<=qb:=by rw [<- a3.out];exact F1.size
   refine hK.out _ _ ⟨P2,I2,J2,K2⟩ (fun hZ=> ?_);clear hZ hK K;try simp only [Ad,zl]
   generalize v1.alloc (.cells zO 52)=v2 at*;have bl:=Ch (P:=zp) qb 52 (cs:=y2.cells) aa (old:=zO) rfl (Ds y2);refine oG 10 (fun K hK=> ?_);go_simp;have F3:Fr Non w4 (v2.setRow qb y2.cells):=F2.setRow (fun hh=>absurd hh (by omega)) _;obtain ⟨P3,I3,J3,K3⟩:=zk4 F3 P0 I0 J0 K0;have G3:=ak.trans F3 zr;refine hK.out _ _ ⟨P3,I3,J3,K3⟩ (fun hZ=> ?_);clear hZ hK K;try simp only [Ad,zl]
   refine tkH 11 ⟨P3,I3,J3,K3⟩ (h:=?_);simp only [zl];refine oD ?_;go_simp;go_wp2_with fail;go_meet;exact ⟨qb,is,rfl,rfl,ai,F3⟩
  ·
   have F0:Fr Non w4 w4:=Fr.refl Non w4;have G0:=ak;go_simp;have ar:Fr Non w4 ((w4.alloc (.cells zO 52)).drew):=(((Fr.refl Non w4).alloc (.cells zO 52)).drew:Fr Non w4 _);have bc:=(Blk.new w4 52 zO).drew;have F1:=F0.trans ar zr;obtain ⟨P1,I1,J1,K1⟩:=zk4 F1 P0 I0 J0 K0;have G1:=ak.trans F1 zr;obtain ⟨qb,a3⟩:=Aa w4.heap.size;rw [a3.out] at bc ⊢;have ce:w4.heap.size<=qb:=by rw [<- a3.out];exact Ay2 _
   refine hK.out _ _ ⟨P1,I1,J1,K1⟩ (fun hZ=> ?_);clear hZ hK K;try simp only [Ad,zl]
   generalize (w4.alloc (.cells zO 52)).drew=v1 at*;refine oG 5 (fun K hK=> ?_);go_simp;go_wp2_with (go_at_call 27;(with_reducible refine (kO.out _ G1).mono ?_);rintro _ v2 ⟨y2,is,rfl,ai,_,_,bk⟩;have F2:=F1.trans bk zr;obtain ⟨P2,I2,J2,K2⟩:=zk4 F2 P0 I0 J0 K0;have G2:=ak.trans F2 zr;have a6:=bc.fr bk zq);refine hK.out _ _ ⟨P2,I2,J2,K2⟩ (fun hZ=> ?_);clear hZ hK K;try simp only [Ad,zl]
   refine tkH 6 ⟨P2,I2,J2,K2⟩ (h:=tkH 7 ⟨P2,I2,J2,K2⟩ (h:=tkH 8 ⟨P2,I2,J2,K2⟩ (h:=?_)));simp only [zl];have bl:=Ch (P:=zp) qb 52 (cs:=y2.cells) aa (old:=zO) rfl (Ds y2);refine oG 10 (fun K hK=> ?_);go_simp;have F3:Fr Non w4 (v2.setRow qb y2.cells):=F2.setRow (fun hh=>absurd hh (by omega)) _;obtain ⟨P3,I3,J3,K3⟩:=zk4 F3 P0 I0 J0 K0;have G3:=ak.trans F3 zr;refine hK.out _ _ ⟨P3,I3,J3,K3⟩ (fun hZ=> ?_);clear hZ hK K;try simp only [Ad,zl]
   refine tkH 11 ⟨P3,I3,J3,K3⟩ (h:=?_);simp only [zl];refine oD ?_;go_simp;go_wp2_with fail;go_meet;exact ⟨qb,is,rfl,rfl,ai,F3⟩
 case rest=>
 obtain ⟨qb,is,rfl,rfl,ai,fc⟩:=hcut;generalize wc=w5 at*;have ck:=av.trans fc zr;have bh:=ak.trans fc zr;have bg:=lh (kC.out ib w5 bh (bi.fr fc zq));obtain ⟨V5,P5⟩:=zk2 fc V4 P4;have b4:=b6.fr fc zq;clear kO kC bi i0 i1 i2 P4 V4 b6 bx fc
 cases is
 case true=>
  have hd:=lh (ab.out 5 r.st r w5 (Tv (.inl (by rw [aq];exact ai.out))) (h.out.still bh) rfl);clear ab ai kL kA bg;go_wp2_with fail;exact hd.out
 case false=>
 cases WB
 case true=>
  have hd:=lh (fun (w':World) (hf:Fr Non w w')=>ab.out 5 r.st r w' (Tv (.inr (by rw [aq];exact aj.out))) (h.out.still hf) rfl);clear ab ai kL kA;go_wp2_with (go_at_call 40;(with_reducible refine (bg.out).mono ?_);rintro _ w6 ⟨rfl,f6⟩);exact hd.out _ (bh.trans f6 zr)
 case false=>
 have ag:=lh (Ar5 (cards:=r.g.cards) (m:=r.g.pns) (ws:=r.ws.map OpL.op) (o:=o) (by rw [aq];exact ai.out) (by rw [aq];exact aj.out));go_upto_region 8 with (go_at_call 40;(with_reducible refine (bg.out).mono ?_);rintro _ w6 ⟨rfl,f6⟩)
 have bv:=ck.trans f6 zr;have cg:=bh.trans f6 zr;have P0:=f6.cell P5 zq;have X0:=b4.fr f6 zq;have V0:=f6.cell V5 zq;have F0:Fr Non w6 w6.drew:=(Fr.refl Non w6).drew;have G0:Fr Non w2 w6.drew:=bv.drew;clear bg ai aj P5 V5 b4;refine wp_region_held_drew (S:=fun w'=>w'.cell? ⟨rb,0,none⟩=some (.pointer (some ⟨gb,0,none⟩))/\Blk w' ob 52 XC/\cS w' rb 1 r.A N r.c) (by kernel_rfl) ⟨P0,X0,V0⟩ (fun hHeld=> ?_);clear hHeld;have uu:=aI P0 (aI X0 V0);refine tkH 0 uu (h:=tkH 1 uu (h:=tkH 2 uu (h:=tkH 3 uu (h:=tkH 4 uu (h:=?_)))));clear uu;simp only [zl];refine oG 5 (fun K hK=> ?_);go_simp;go_wp2_with (go_at_call 42;(with_reducible refine (kL.out _ G0).mono ?_);rintro _ v1 ⟨AL,cL,rfl,_,ar⟩;have F1:=F0.trans ar zr;have P1:=F1.cell P0 zq;have X1:=X0.fr F1 zq;have V1:=F1.cell V0 zq;have G1:=bv.trans F1 zr);refine hK.out _ _ ⟨P1,X1,V1⟩ (fun hZ=> ?_);clear hZ hK K;try simp only [Ad,zl]
 refine tkH 6 ⟨P1,X1,V1⟩ (h:=tkH 7 ⟨P1,X1,V1⟩ (h:=?_));simp only [zl];refine oD ?_;go_simp;have H1:=cg.trans F1 zr;generalize v1=w7 at*;clear P0 X0 V0 F0 G0 F1 ar kL
 by_cases hL0:LN=0
 case neg=>
  have t0:decide ((LN:Int)>0)=true:=decide_eq_true (by omega);have cm:decide (0<LN)=true:=decide_eq_true (by omega);have hr:ready r.g.pns o=false:=by rw [ao.out];exact decide_eq_false hL0
  have ae:Hid (Bk r.g.cards r.st o=if 200<=N then (3,r.st) else (0,(r.g.pns,r.ws.map OpL.op++[o]))):=by
   show _=_;rw [<- hN.out];have:=ag.out;rw [if_pos hr,Ay3] at this;exact this
  clear ag kA ao
  by_cases hfull:200<=N
  case pos=>
   have t1:decide ((N:Int)>=200)=true:=decide_eq_true (by omega);have cl:decide (200<=N)=true:=decide_eq_true hfull;have hd:=lh (ab.out 3 r.st r w7 (by rw [ae.out,if_pos hfull]) (h.out.still H1) rfl);clear ab ae;go_wp2_with fail;exact hd.out
  case neg=>
  have t1:decide ((N:Int)>=200)=false:=decide_eq_false (by omega);have cl:decide (200<=N)=false:=decide_eq_false hfull;have cb:decide ((200:Int)<=(N:Int))=false:=decide_eq_false (by omega);have az:=lh (fun (w':World) (hf:Fr Non w w')=>h.out.non hf);have al:Ac r.A≠some rb:=by rw [<- af.out];exact h.out.row.ne h.out.blk (by decide)
  have bj:=b8.out;have cc:Own w7 base 52 27 r.A N r.c (r.ws.flatMap (fun x=>x.cells.toList)):=bj.1.fr G1 zr
  have a4:Ac r.A≠some ob:=fun e=>by
   have h9:=(h.out.row.row ob e).2;have h7:=ah.out;omega
  have ch:x.own w7 base:=bj.2.1.non G1;have a5:Hid (x.op=o):=bj.2.2.1;have bt:Hid o.ok:=bj.2.2.2;go_upto_region 11 with (fail)
  have X0:=X1;have V0:=V1;have F0:Fr Non w7 w7.drew:=(Fr.refl Non w7).drew;clear P1 X1 V1;refine Cx (S:=fun w'=>cS w' rb 1 r.A N r.c/\Blk w' ob 52 XC) 10 (by kernel_rfl) ?_;have uu:=aI V0 X0;refine tkG 0 uu (h:=tkG 1 uu (h:=tkG 2 uu (h:=tkG 3 uu (h:=tkG 4 uu (h:=tkG 5 uu (h:=?_))))));clear uu;simp only [zl];refine Bt 6 (by kernel_rfl) rfl (fun K hK=> ?_);go_simp;have b7:=(Blk.new w7 52 XC).drew;have F1:Fr Non w7 (w7.alloc (.cells XC 52)).drew:=((Fr.refl Non w7).alloc _).drew;obtain ⟨nb,bm⟩:=Aa w7.heap.size;rw [bm.out] at b7 ⊢;generalize (w7.alloc (.cells XC 52)).drew=v1 at*;have V1:=F1.cell V0 zq;have X1:=X0.fr F1 zq;refine hK.out _ _ ⟨V1,X1⟩ (fun hZ=> ?_);clear hZ hK K;try simp only [Ad,zl]
  have ac:=az.out v1 (H1.trans F1 zr);have br:Rd v1 v1.heap.size 27 (some ⟨nb,0,none⟩) 1 XC.toList:=Rd.blk (by simpa using b7) (by simp [a8]);have cj:base<=v1.heap.size:=by have h9:=ac.rbase;have h8:=ac.blk.lt;omega
  refine Bt 7 (by kernel_rfl) rfl (fun K hK=> ?_);refine Es (base:=base) (.tmp 57) (.tmp 59) 24 rfl rfl rfl slOp (cc.fr F1 zr) br a2 (by omega) (by omega) cj ?_;intro A9 c9 v2 ap a0 a9;have V2:=a0.cell V1 al;have X2:=X1.fr a0 a4;have b2:=ac.blk.fr a0 (by rw [af.out];exact al);rw [af.out] at b2;have z2:=b2.frozen 1;refine hK.out _ _ ⟨V2,X2⟩ (fun hZ=> ?_);clear hZ hK K;try simp only [Ad,zl]
  refine Bt 8 (by kernel_rfl) rfl (fun K hK=> ?_);go_simp;refine hK.out _ _ ⟨V2,X2⟩ (fun hZ=> ?_);clear hZ hK K;try simp only [Ad,zl]
  refine tkG 9 ⟨V2,X2⟩ (h:=?_);simp only [zl];refine Cs (by kernel_rfl) ?_;refine oG 10 (fun K hK=> ?_);go_simp;refine hK.out _ _ trivial (fun hZ=> ?_);clear hZ hK K;try simp only [Ad,zl]
  refine oD ?_;go_simp;rw [<- b3.out] at ap;have bo:=ac.longer hN (by omega) (ch.non F1) (by rw [a5.out];exact bt.out) ap a0 a9;rw [af.out] at bo;have hd:=lh (ab.out 0 _ _ _ (by rw [ae.out,if_neg hfull]) ((h.out.still (H1.trans F1 zr)).trans bo) (by show (r.g.pns,(r.ws++[x]).map OpL.op)=_;rw [Ay8,List.map_cons,List.map_nil,a5.out]));clear ab ae bo ap a0 a9 az ac;go_wp2_with fail;exact hd.out
 case pos=>
  subst hL0;have hr:ready r.g.pns o=true:=by rw [ao.out];rfl
  have ae:Hid (Bk r.g.cards r.st o=if Ao r.g.cards r.g.pns o≠0 then (Ao r.g.cards r.g.pns o,r.st) else (0,Cf r.g.cards r.ws.length (r.g.pns++[Ar r.g.pns o]) (r.ws.map OpL.op))):=by
   show _=_;have:=ag.out;rw [hr,if_neg (by decide),Ay3] at this;exact this
  have a7:Hid (r.okAt w7 base):=h.out.non H1;have b9:Hid (KindsAt w7):=hk.out.fr H1;obtain ⟨E,hE⟩:=Aa (Ao r.g.cards r.g.pns o);rw [hE.out] at kA ae;clear ag ao b8 hE;go_upto_region 13 with (fail)
  have X0:=X1;have P0:=P1;have F0:Fr Non w7 w7.drew:=(Fr.refl Non w7).drew;have ca:Hid (Ai.Step base r r w w7.drew):=h.out.still (H1.trans F0 zr);clear P1 X1 V1;refine wp_region_held_drew (S:=fun w'=>w'.cell? ⟨rb,0,none⟩=some (.pointer (some ⟨gb,0,none⟩))/\Blk w' ob 52 XC) (by kernel_rfl) ⟨P0,X0⟩ (fun hHeld=> ?_);clear hHeld;have uu:=aI P0 X0;refine tkH 0 uu (h:=tkH 1 uu (h:=tkH 2 uu (h:=tkH 3 uu (h:=tkH 4 uu (h:=?_)))));clear uu;simp only [zl];refine oG 5 (fun K hK=> ?_);go_simp;go_wp2_with (go_at_call 43;(with_reducible refine (kA.out _ (G1.trans F0 zr)).mono ?_);rintro _ v1 ⟨rfl,r3,ad,ax,a1,bq⟩);have P1:v1.cell? ⟨rb,0,none⟩=some (.pointer (some ⟨gb,0,none⟩)):=by have h9:=ad.out.ok.blk.cell 0;rwa [ad.out.rb,ad.out.gb,af.out,bf.out] at h9
  have X1:=bq ob XC X0;refine hK.out _ _ ⟨P1,X1⟩ (fun hZ=> ?_);clear hZ hK K;try simp only [Ad,zl]
  refine tkH 6 ⟨P1,X1⟩ (h:=?_);simp only [zl];refine oD ?_;go_simp;have be:Hid (Ai.Step base r r3 w v1):=ca.out.trans ad.out;have bp:Hid (r3.rb=rb):=ad.out.rb.trans af.out
  by_cases e0:E=0
  case neg=>
   have t1:(E !=0)=true:=by simp [e0]
   have hd:=lh (ab.out E r.st r3 v1 (by rw [ae.out,if_pos e0]) be.out (by show (r3.g.pns,r3.ws.map OpL.op)=_;rw [a1.out,if_neg e0,ax.out];rfl));clear ab ae kA ad be bq;go_wp2_with fail;exact hd.out
  case pos=>
  subst e0;have kg:=lh (Ar4 base r3 v1 ad.out.ok (KindsAt.rel (b9.out.fr F0) (a7.out.non F0) ad.out.fr));unfold Km at kg;rw [bp.out] at kg;have hd:=lh (fun (w':World) (r4:Ai) (h4:Ai.Step base r3 r4 v1 w') (e4:r4.st=Cf r3.g.cards r3.ws.length r3.g.pns (r3.ws.map OpL.op))=>ab.out 0 _ r4 w' (by rw [ae.out,if_neg (by simp)]) (be.out.trans h4) (by rw [e4,ad.out.cards,a1.out,if_pos rfl,ax.out]));clear ab ae kA ad be bq a7 b9;go_wp2_with (go_at_call 44;(with_reducible refine (kg.out).mono ?_);rintro _ w9 ⟨rfl,r4,h4,e4⟩);exact hd.out w9 r4 h4.out e4.out
end Oq
namespace Oq
attribute [local go_sem] Ax5 Ax6
def Gt (cs:List Cd) (w:World) (e:Ending) (w':World):Prop:=
 ∃r:Ai,e=.returned (.pointer (some ⟨r.rb,0,none⟩))/\Hid (r.okAt w' w.heap.size)/\Hid (r.st=([],[]))/\Hid (r.g.cards=cs)/\Fr Non w w'
theorem Tw (B n c:Nat) (A:Option Addr) (l:List Int) (w:World) (hn:Hid (l.length=n)) (hnm:n<=1000) (hr:Rd w B 5 A n ((Av 0 l).flatMap Cd.cells)) (hpos:0<w.heap.size):
  Calls zp 6 #[.slice A n c] w (Gt (Av 0 l) w):=by
 have kn:=lh (Am7 B n c A l w hn hnm hr hpos);unfold Ic at kn
 have hfin:Hid (∀(w1:World) (g:Gph),GAt w1 w.heap.size g->g.nodes=[]->g.cards=Av 0 l->Fr Non w w1->Gt (Av 0 l) w (.returned (.pointer (some ⟨w1.heap.size,0,none⟩))) (w1.alloc (.cells #[.pointer (some ⟨g.gb,0,none⟩),.slice none 0 0] 85))):=by
  intro w1 g hg hgn hgc hf;have f1:Fr Non w1 (w1.alloc (.cells #[.pointer (some ⟨g.gb,0,none⟩),.slice none 0 0] 85)):=(Fr.refl Non w1).alloc _;refine ⟨⟨w1.heap.size,g,none,0,[]⟩,rfl,⟨Blk.new w1 _ _,hf.size,hg.fr f1,Own.nil _ _ _ _,fun x hx=>absurd hx Ax7,Ay9 _⟩,?_,hgc,hf.trans f1 zr⟩;show (g.pns,_)=_;unfold Gph.pns;rw [hgn];rfl
 generalize Gt (Av 0 l) w=POST at*;clear hr hn hnm hpos;go_enter func6,ntmps6;go_wp2_with (go_at_call 36;(with_reducible refine (kn.out).mono ?_);rintro _ w1 ⟨g,rfl,hg,hgn,hgc,f1⟩;(have hd:=lh (hfin.out w1 g hg hgn hgc f1)));exact hd.out
theorem Tx (base:Nat) (r:Ai) (w:World) (h:r.okAt w base):
  Calls zp 11 #[.pointer (some ⟨r.rb,0,none⟩)] w (fun e w'=>e=.returned (.int .i64 (r.ws.length:Int))/\Fr Non w w'):=by
 have c1:cS w r.rb 1 r.A r.ws.length r.c:=h.blk.cell 1;clear h;generalize r.ws.length=n at*;generalize r.rb=rb at*;go_enter func11,ntmps11;go_wp2
 go_ret
 exact ⟨rfl,Fr.refl _ _⟩
theorem Ar6 (base:Nat) (r:Ai) (w:World) (h:r.okAt w base):
  Calls zp 13 #[.pointer (some ⟨r.rb,0,none⟩)] w (E3 (Az (r.g.pns.map Pn.id)) w):=by
 have c0:w.cell? ⟨r.rb,0,none⟩=some (.pointer (some ⟨r.g.gb,0,none⟩)):=h.blk.cell 0
 have ka:Hid (Calls zp 45 #[.pointer (some ⟨r.g.gb,0,none⟩)] w (E3 (Az (r.g.pns.map Pn.id)) w)):=by
  refine (Se base r.g w Sm h.graph).mono ?_;rintro e w'' ⟨A5,c5,out,rfl,hp,hs,o5,f5⟩;obtain rfl:=Pq hs (Sw rfl hp);exact ⟨A5,c5,rfl,o5,f5⟩
 generalize Az (r.g.pns.map Pn.id)=IS at*;have hfin:Hid (∀A c w',Own w' w.heap.size 45 3 A IS.length c (IS.flatMap Id.cells)->Fr Non w w'->E3 IS w (.returned (.slice A IS.length c)) w'):=fun A c w' h1 h2=>⟨A,c,rfl,h1,h2⟩;unfold E3 at ka;clear h;generalize E3 IS w=POST at*;generalize r.g.gb=gb at*;generalize r.rb=rb at*;go_enter func13,ntmps13;go_wp2_with (go_at_call 45;(with_reducible refine (ka.out).mono ?_);rintro _ w1 ⟨A5,c5,rfl,o5,f5⟩;(have hd:=lh (hfin.out A5 c5 w1 o5 f5)));exact hd.out
theorem Ar7 (base:Nat) (r:Ai) (w:World) (h:r.okAt w base):
  Calls zp 24 #[.pointer (some ⟨r.rb,0,none⟩)] w (fun e w'=>e=.returned (.pointer (some ⟨r.g.gb,0,none⟩))/\Fr Non w w'):=by
 have c0:w.cell? ⟨r.rb,0,none⟩=some (.pointer (some ⟨r.g.gb,0,none⟩)):=h.blk.cell 0;clear h;generalize r.g.gb=gb at*;generalize r.rb=rb at*;go_enter func24,ntmps24;go_wp2
 go_ret
 exact ⟨rfl,Fr.refl _ _⟩
end Oq
section
open Go.RowKit Go.Maps Go.WideElems
open Go.ChangeMaps (modify_eq_set)
namespace Oq
abbrev FkG (f:Int × Int):Value:=.agg #[.int .i64 f.1,.int .i64 f.2]
def LeastAt (w:World) (b m:Nat) (f:Int->Option Int):Prop:=
 ∃(n:Nat) (D:DataW Nat),w.ownsMap zp 3 (plainElem zp 3) b n D/\n<=m/\IsMap D/\∀x,has D (.int .i64 x)=(f x).isSome/\∀i,f x=some i->∀z,D.atKey (.int .i64 x) z=.lit (.int .i64 i)
theorem LeastAt.made (w:World):LeastAt (w.alloc (.map #[] 0)) w.heap.size 0 (fun _=>none):=
 ⟨0,.map [],World.ownsMap_made w _ _ _,Ay2 _,isMap_empty,fun x=>⟨rfl,fun i h=>by cases h⟩⟩
theorem LeastAt.fr {S:Nat->Prop} {w w':World} {b m:Nat} {f:Int->Option Int} (h:LeastAt w b m f) (hf:Fr S w w') (hb:¬S b):LeastAt w' b m f:=by
 obtain ⟨n,D,ho,hn,rest⟩:=h;obtain ⟨es,clock,hbl,r2⟩:=ho;exact ⟨n,D,⟨es,clock,(hf.block b (Array.getElem?_eq_some_iff.1 hbl).1 hb).trans hbl,r2⟩,hn,rest⟩
theorem LeastAt.lt {w:World} {b m:Nat} {f:Int->Option Int} (h:LeastAt w b m f):b<w.heap.size:=by
 obtain ⟨n,D,ho,_⟩:=h;exact ho.lt
theorem LeastAt.congr {w:World} {b m:Nat} {f g:Int->Option Int} (h:LeastAt w b m f) (hg:∀x,g x=f x):LeastAt w b m g:=by
 obtain ⟨n,D,ho,hn,hm,hs⟩:=h;exact ⟨n,D,ho,hn,hm,fun x=>by rw [hg x];exact hs x⟩
end Oq
end
namespace Oq
attribute [local go_sem] Ax5 Ax6
end Oq
end Go.Proofs.YtmcpnjoomlgmlaaGreatDoor
namespace Go.Proofs
open Go.Shelf Go.RowKit Go.Lib Go.Sort
end Go.Proofs
namespace Go.Proofs.YtmcpnjoomlgmlaaGreatDoor
open Go.RowKit
attribute [local go_sem ↓] Go.wp_at_zero Go.wp_at_succ
section
open Go.RowKit Go.Sort Go.Shelf
namespace Oq
end Oq
end
section
open Go.RowKit Go.Maps
namespace Oq
attribute [local go_sem] Ax5 Ax6
theorem Ty (p v:Value):Instr.storeAt 45 p v=stS 45 p v:=rfl
attribute [local go_sem ↓] Ty
theorem Ar8:(zp.info? 45).map (·.size)=some 3:=by kernel_rfl
theorem one3 (a b:Int) (u:Nat):(#[.int .i64 a,.int .i64 b,.int .u64 (u:Int)]:Array Value).all (·.oneCell')=true:=by simp [Value.oneCell']
def RF (f:Int->Option Int) (left:Lit->Bool) (xs:List (Int × Int)):Prop:=(xs.map Prod.fst).Nodup/\∀d i,(d,i)∈xs<->(f d=some i/\left (.int .i64 d)=false)
theorem RF.start {f:Int->Option Int} {left:Lit->Bool} (h:∀d,(f d).isSome=left (.int .i64 d)):RF f left []:=
 ⟨List.nodup_nil,fun d i=>⟨fun h=>absurd h Ax7,fun ⟨h1,h2⟩=>by rw [<- h d,h1] at h2;cases h2⟩⟩
theorem RF.step {f:Int->Option Int} {left:Lit->Bool} {xs:List (Int × Int)} (h:RF f left xs) {x c:Int} (hx:f x=some c) (hl:left (.int .i64 x)=true):RF f (fun z=>left z&& !z.sameKey (.int .i64 x)) (xs++[(x,c)]):=by
 have hs:∀d:Int,(Lit.int .i64 d).sameKey (.int .i64 x)=decide (d=x):=by
  intro d
  by_cases e:d=x
  ·
   subst e;rw [decide_eq_true rfl];exact WideAt.sameKey_self (by simp [WideAt.IsKeyLit])
  ·
   rw [decide_eq_false e];exact sameKey_ne (fun e2=>e (by injection e2))
 refine ⟨?_,fun d i=> ?_⟩
 ·
  rw [Ay8];refine List.nodup_append.2 ⟨h.1,by simp,fun a ha b hb=> ?_⟩;obtain rfl:=List.mem_singleton.1 (show b∈[x] from hb);rintro rfl;obtain ⟨⟨d,i⟩,h1,rfl⟩:=List.mem_map.1 ha;have:=((h.2 d i).1 h1).2;rw [hl] at this
  cases this
 ·
  rw [List.mem_append,h.2 d i];dsimp only;rw [hs d]
  by_cases e:d=x
  ·
   subst e;rw [hl,decide_eq_true rfl];constructor
   ·
    rintro (⟨_,h2⟩|h2)
    · cases h2
    ·
     have:=List.mem_singleton.1 h2;injection this with _ e2
     subst e2;exact ⟨hx,rfl⟩
   ·
    rintro ⟨h1,_⟩;rw [hx] at h1;injection h1 with h1
    subst h1;exact .inr (List.mem_singleton.2 rfl)
  ·
   rw [decide_eq_false e];constructor
   ·
    rintro (⟨h1,h2⟩|h2)
    · exact ⟨h1,by rw [h2];rfl⟩
    ·
     have:=List.mem_singleton.1 h2;injection this with e2 _
     exact absurd e2 e
   ·
    rintro ⟨h1,h2⟩;exact .inl ⟨h1,by simpa using h2⟩
theorem RF.done {f:Int->Option Int} {left:Lit->Bool} {xs:List (Int × Int)} (h:RF f left xs) (hl:∀kl,left kl=false):∀d i,(d,i)∈xs<->f d=some i:=fun d i=>by
 rw [h.2 d i,hl];exact ⟨fun h=>h.1,fun h=>⟨h,rfl⟩⟩
theorem RF.few {f:Int->Option Int} {left:Lit->Bool} {xs:List (Int × Int)} (h:RF f left xs) (hd:∀d i,f d=some i->1<=d/\d<=12):xs.length<=12:=by
 have hs:∀d∈xs.map Prod.fst,d∈(List.range 12).map (fun (i:Nat)=>(i:Int)+1):=by
  intro d hm;obtain ⟨⟨d',i⟩,h1,rfl⟩:=List.mem_map.1 hm;have h2:=hd d' i ((h.2 d' i).1 h1).1;exact List.mem_map.2 ⟨(d'-1).toNat,List.mem_range.2 (by omega),by omega⟩
 have:=Gp h.1 hs;simpa using this
end Oq
end
namespace Oq
attribute [local go_sem] Ax5 Ax6
attribute [local go_sem ↓] Hm Bo Kk Ty Tl
theorem Tz (base B n c:Nat) (A:Option Addr) (r:FG) (x:OpL) (hs:List Nat) (w:World) (h:r.own w base) (hx:x.lies w base) (hb:base<=w.heap.size) (hok:x.op.ok) (hp:x.pastA=none/\x.pastC=0/\x.past=[]) (hdev:∃d:Nat,x.by_=(d:Int)/\d<=1000) (hat:0<=x.at_/\x.at_<=3)
    (hn:Hid (hs.length=n)) (hr:Rd w B 1 A n (hs.map Qv)) (hn3:n<=3) (hlt:∀p∈hs,p<r.l.length) (hin:plc r.l (Bl r.l x.op hs).name=none->Ao r.cards r.l (sgn (Bl r.l x.op hs))=0/\FkB (r.l++[Ar r.l (sgn (Bl r.l x.op hs))])):
    Calls zp 32 #[.agg r.cells,.agg x.cells,.slice A n c] w (Gs base r x.op hs w):=by
  have dp:=h.num.few;have hl:=Bs (P:=zp) w.heap.size 28 underlying28 rfl (cs:=r.cells) De
  have s0:Br w (((w.alloc (.cells r.cells 28)).alloc (.cells x.cells 52)).alloc (.cells #[.slice none 0 0,.slice none 0 0,.slice none 0 0,.slice none 0 0] 28)) r.cells x x.sq x.at_ none 0 0 []:=by
    have f0:Fr Non w (((w.alloc (.cells r.cells 28)).alloc (.cells x.cells 52)).alloc (.cells #[.slice none 0 0,.slice none 0 0,.slice none 0 0,.slice none 0 0] 28)):=(((Fr.refl Non w).alloc _).alloc _).alloc _;have b1:=(Blk.new (w.alloc (.cells r.cells 28)) 52 x.cells).alloc (.cells #[.slice none 0 0,.slice none 0 0,.slice none 0 0,.slice none 0 0] 28);have b2:=Blk.new ((w.alloc (.cells r.cells 28)).alloc (.cells x.cells 52)) 28 #[.slice none 0 0,.slice none 0 0,.slice none 0 0,.slice none 0 0];rw [Ay4] at b1;rw [Ay4,Ay4] at b2
    have ex:x.put x.sq x.at_ none 0 []=x:=by
      obtain ⟨h1,h2,h3⟩:=hp;unfold OpL.put;rw [<- h1,<- h2,<- h3]
    refine ⟨((Blk.new w 28 r.cells).alloc _).alloc _,by rw [ex];exact b1,b2,f0,by simp only [Ay4];omega,Own.nil _ _ _ _,rfl⟩
  have kb:=lh (fun (v:World) (hf:Fr Non w v)=>Tf base B n c r A hs v (h.non hf) hn (hr.fr hf zr) (by omega) hlt)
  have ag:Hid (∀p,p<r.l.length->∃(m:Pn) (b ab:Nat),r.l[p]? =some m/\r.lA=some ⟨b,ab,none⟩/\cI w b (ab+p*27) m.o.by_/\cI w b (ab+p*27+1) m.o.sq/\cI w b (ab+p*27+3) m.o.at_):=by
    intro i hi;obtain ⟨y,b,ab,_,h1,_,h3,_,h4⟩:=h.xAt (Ax8 hi);exact ⟨_,b,ab,Ax8 hi,h3,by rw [<- h1];exact h4 0 (by omega) _ rfl,by rw [<- h1];exact h4 1 (by omega) _ rfl,by rw [<- h1];exact h4 3 (by omega) _ rfl⟩
  have ao:Hid (∀p,p<r.l.length->∃(m:Pn) (b ab:Nat),r.l[p]? =some m/\r.iA=some ⟨b,ab,none⟩/\cI w b (ab+p*3) m.id.b/\cI w b (ab+p*3+1) m.id.s/\cU w b (ab+p*3+2) m.id.u):=fun p hp=>h.idAt hp;have b0:Hid (∀m∈r.l,1<=m.o.sq/\m.o.sq<=14):=fun m hm=>⟨h.num.s1 m hm,by have:=h.num.sq m hm;omega⟩;have bv:Hid (∀m∈r.l,m.o.at_<=42):=fun m hm=>by have:=h.num.at_ m hm;omega
  have bm:Hid (∀ys k p m,ys[k]? =some p->r.l[p]? =some m->Co r.l x.by_ ys (k+1)=if m.o.by_=x.by_ then max (Co r.l x.by_ ys k) (m.o.sq+1) else Co r.l x.by_ ys k):=fun ys k p m h1 h2=>Tg h1 h2;have fb:Hid (∀ys k,1<=Co r.l x.by_ ys k/\Co r.l x.by_ ys k<=15):=fun ys k=>⟨Nr _ _ _ _,Nq (by omega) (fun p hp m hm _=>by have:=(b0.out m (Ay0 hm)).2;omega) k⟩;have ew:Hid (∀ys,Co r.l x.by_ ys 0=1):=fun _=>rfl;replace hlt:=lh hlt;go_enter func32,ntmps32;go_upto_region 1 with (fail)
  generalize ((w.alloc (.cells r.cells 28)).alloc (.cells x.cells 52)).alloc (.cells #[.slice none 0 0,.slice none 0 0,.slice none 0 0,.slice none 0 0] 28)=w0 at*;have z1:cI w0 (w.heap.size+1) 1 x.sq:=s0.b.cell 1;have z2:=s0.b.frozen 1;go_upto_region 2 with (fail)
  have s1:=s0.sq 1;generalize w0.setCell ⟨w.heap.size+1,1,none⟩ (.int .i64 1)=w1 at*;clear s0 z1 z2;have bg:=s1.g;have ct:=s1.sz;go_upto_region 3 with (go_at_call 47;(with_reducible refine (kb.out _ s1.f).mono ?_);rintro _ w2 ⟨ys,A7,c7,rfl,cb,cd,ac,f2⟩)
  replace ac:=Gr ac ct;have s2:=s1.non f2;clear s1 bg kb f2 ct;replace cb:=lh cb;replace cd:=lh cd;have g1:Hid (r.cells[1]? =some (.slice r.lA r.l.length r.lC)):=rfl;have g2:Hid (r.cells[2]? =some (.slice r.iA r.l.length r.iC)):=rfl;have g3:Hid (r.cells[3]? =some (.slice r.pA r.l.length r.pC)):=rfl;have a4:=lh (bm.out ys);have b3:=lh (fb.out ys);have cn:=lh (ew.out ys)
  have ej:ys.length<=14:=by
    have:=Gp cb.out.1 (ys:=List.range r.l.length) (fun q hq=>List.mem_range.2 (cd.out q hq));simp at this;omega
  clear bm fb ew;generalize hSQ:Co r.l x.by_ ys=SQ at*;obtain ⟨M,hM⟩:=Aa ys.length;rw [hM.out] at ac ej ⊢;obtain ⟨N,hN⟩:=Aa r.l.length;rw [hN.out] at g1 g2 g3 ag ao dp hlt cd;obtain ⟨LA,dd⟩:=Aa r.lA;rw [dd.out] at g1 ag;obtain ⟨IA,cw⟩:=Aa r.iA;rw [cw.out] at g2 ao;obtain ⟨LC,ed⟩:=Aa r.lC;rw [ed.out] at g1;obtain ⟨IC,en⟩:=Aa r.iC;rw [en.out] at g2;go_wp2_with fail
  go_loopw [8] (fun v wr=>∃k:Nat,v=.int .i64 (k:Int)/\k<=M/\Br w wr r.cells x (SQ k) x.at_ none 0 0 []/\Own wr (w.heap.size+3) 3 1 A7 M c7 (ys.map Qv)) (fun v _=>M-(intOf v).toNat)
  case atStart=>exact ⟨0,rfl,Ay9 _,by rw [cn.out];exact s2,ac⟩
  case round=>
    obtain ⟨k,rfl,hk,s3,az⟩:=hrel;clear s2 ac
    by_cases hkM:k<M
    · obtain ⟨p,co⟩:∃p,ys[k]? =some p:=⟨_,Ax8 (by rw [hM.out];exact hkM)⟩
      have dl:=cd.out p (Ay0 co);obtain ⟨m,b,ab,hm,rfl,c0,c1,c3⟩:=ag.out p dl;obtain ⟨b7,o7,u7,rfl,_,dg,d7⟩:=az.rd.at hkM;rw [Ay5,co] at dg;injection dg with dg
      subst dg;replace d7:cI wr b7 (o7+k) (p:Int):=d7;have db:=lh (a4.out k p m co hm);have fk:=b3.out k;have fj:=b0.out m (Ay0 hm);obtain ⟨i1,i2,i3⟩:=ix k M
      obtain ⟨p1,p2,p3⟩:=ix p N
      have t0:decide ((k:Int)<M)=true:=decide_eq_true i2;have du:decide (k<M)=true:=decide_eq_true hkM;have e1:=iw ((k:Int)+1);have e2:=iw (m.o.sq+1);go_upto_region 6 with (fail)
      have F0:Fr Non wr wr.drew:=(Fr.refl Non wr).drew;have f3:Fr Non w wr.drew:=s3.f.trans F0 zr;have H0:cS wr.drew w.heap.size 1 (some ⟨b,ab,none⟩) N LC:=(s3.g.cell 1).trans g1.out;have D0:cI wr.drew b7 (o7+k) (p:Int):=d7;have E0:cI wr.drew b (ab+p*27) m.o.by_:=f3.cell c0 zq;have X0:cI wr.drew (w.heap.size+1) 0 x.by_:=s3.b.cell 0;refine wp_region_held_drew (S:=fun w'=>cS w' w.heap.size 1 (some ⟨b,ab,none⟩) N LC/\cI w' b7 (o7+k) (p:Int)/\cI w' b (ab+p*27) m.o.by_/\cI w' (w.heap.size+1) 0 x.by_) (by kernel_rfl) ⟨H0,D0,E0,X0⟩ (fun hHeld=> ?_);clear hHeld;have uu:=aI H0 (aI D0 (aI E0 X0));refine tkH 0 uu (h:=tkH 1 uu (h:=tkH 2 uu (h:=tkH 3 uu (h:=tkH 4 uu (h:=tkH 5 uu (h:=tkH 6 uu (h:=tkH 7 uu (h:=tkH 8 uu (h:=tkH 9 uu (h:=tkH 10 uu (h:=tkH 11 uu (h:=?_))))))))))));clear uu;simp only [zl];refine oD ?_;go_simp;have s4:=s3.non F0;have af:=az.drew;have eu:=f3.cell c1 zq;generalize wr.drew=w4 at*;clear H0 E0 X0 c0 c3 s3 az f3 d7 ag ao
      by_cases hby:m.o.by_=x.by_
      · rw [if_pos hby] at db
        have t1:(m.o.by_==x.by_)=true:=beq_iff_eq.2 hby;clear co hm;go_upto_region 7 with (fail)
        have H0:cS w4.drew w.heap.size 1 (some ⟨b,ab,none⟩) N LC:=(s4.g.cell 1).trans g1.out;replace D0:cI w4.drew b7 (o7+k) (p:Int):=D0;have E0:cI w4.drew b (ab+p*27+1) m.o.sq:=eu;have X0:cI w4.drew (w.heap.size+1) 1 (SQ k):=s4.b.cell 1;refine Cx (S:=fun w'=>cS w' w.heap.size 1 (some ⟨b,ab,none⟩) N LC/\cI w' b7 (o7+k) (p:Int)/\cI w' b (ab+p*27+1) m.o.sq/\cI w' (w.heap.size+1) 1 (SQ k)) 14 (by kernel_rfl) ?_;have uu:=aI H0 (aI D0 (aI E0 X0));refine tkG 0 uu (h:=tkG 1 uu (h:=tkG 2 uu (h:=tkG 3 uu (h:=tkG 4 uu (h:=tkG 5 uu (h:=tkG 6 uu (h:=tkG 7 uu (h:=tkG 8 uu (h:=tkG 9 uu (h:=tkG 10 uu (h:=tkG 11 uu (h:=?_))))))))))));clear uu;simp only [zl];refine tkG 12 ⟨H0,D0,E0,X0⟩ (h:=tkG 13 ⟨H0,D0,E0,X0⟩ (h:=?_));simp only [zl];have nz:=s4.b.frozen 1;refine Cs (by kernel_rfl) ?_;refine oG 14 (fun K hK=> ?_);go_simp;refine hK.out _ _ trivial (fun hZ=> ?_);clear hZ hK K;try simp only [Ad,zl]
        refine oD ?_;go_simp;have s5:=(s4.sq (max (SQ k) (m.o.sq+1))).non (Fr.refl Non _).drew;have bj:=(Own.setFar (i:=1) af s4.b (by decide) (.int .i64 (max (SQ k) (m.o.sq+1)))).drew;clear nz H0 D0 E0 X0 s4 af eu;generalize (w4.setCell ⟨w.heap.size+1,1,none⟩ (.int .i64 (max (SQ k) (m.o.sq+1)))).drew=w5 at*;go_wp2_with fail;go_roundw
        case rel=>exact ⟨k+1,by go_num,by omega,by rw [db.out];exact s5,bj⟩
        case measure=>simp [intOf];omega
      · rw [if_neg hby] at db
        have t1:(m.o.by_==x.by_)=false:=beq_eq_false_iff_ne.2 hby;clear co hm;go_wp2_with fail;go_roundw
        case rel=>exact ⟨k+1,by go_num,by omega,by rw [db.out];exact s4,af⟩
        case measure=>simp [intOf];omega
    · obtain rfl:k=M:=by omega
      have t0:decide ((k:Int)<k)=false:=decide_eq_false (by omega);have du:decide (k<k)=false:=decide_eq_false (by omega)
      have d6:Hid (SQ k=Aw r.l (Am r.l (hs.map (nmP r.l))) x.by_ r.l.length+1):=by
        show _=_;rw [<- hSQ,<- hM.out];exact Ap8 h.rows (by rw [hN.out];omega) cb.out (by intro p hp;rw [hN.out];exact hlt.out p hp) _
      have fd:=b3.out k;obtain ⟨S,hS⟩:=Aa (SQ k);rw [hS.out] at d6 fd s3;clear a4 b3 cn hSQ;clear hS;have bb:Hid (late r.l ((hs.take 0).map (nmP r.l))=0):=rfl
      have a7:Hid (∀k p m,hs[k]? =some p->r.l[p]? =some m->late r.l ((hs.take (k+1)).map (nmP r.l))=max (late r.l ((hs.take k).map (nmP r.l))) m.o.at_):=by
        intro k p m hp hm;have h1:(hs.map (nmP r.l))[k]? =some (nmP r.l p):=by rw [Ay5,hp];rfl
        have h2:=Q4 r.l (hs.map (nmP r.l)) k h1;rw [List.map_take,List.map_take];rw [h2,Dg hm,Gl (h.rows.ok p m hm).plc hm]
      have bf:Hid (∀k p m,hs[k]? =some p->r.l[p]? =some m->(hs.take (k+1)).map (nmP r.l)=(hs.take k).map (nmP r.l)++[m.id]):=fun k p m hp hm=>by rw [Dd hp,Ay8,List.map_cons,List.map_nil,Dg hm]
      have aw:Hid (∀k,0<=late r.l ((hs.take k).map (nmP r.l))/\late r.l ((hs.take k).map (nmP r.l))<=42):=fun k=>⟨S8 _ _,Q5 r.l 42 (by omega) bv.out _⟩;have bl:Hid ((hs.take 0).map (nmP r.l)=[]):=rfl;have a5:Hid (late r.l ((hs.take n).map (nmP r.l))=late r.l (hs.map (nmP r.l))):=by show _=_;rw [<- hn.out,Az1]
      have a9:Hid ((hs.take n).map (nmP r.l)=hs.map (nmP r.l)):=by show _=_;rw [<- hn.out,Az1]
      have eo:Hid (∀k,((hs.take k).map (nmP r.l)).length<=k):=fun k=>by rw [Ay3,List.length_take];omega
      obtain ⟨LT,ce⟩:∃LT:Nat->Int,Hid (∀k,LT k=late r.l ((hs.take k).map (nmP r.l))):=⟨_,fun _=>rfl⟩;obtain ⟨NM,cm⟩:∃NM:Nat->List Id,Hid (∀k,NM k=(hs.take k).map (nmP r.l)):=⟨_,fun _=>rfl⟩;replace aw:Hid (∀k,0<=LT k/\LT k<=42):=fun k=>by rw [ce.out];exact aw.out k
      replace a7:Hid (∀k p m,hs[k]? =some p->r.l[p]? =some m->LT (k+1)=max (LT k) m.o.at_):=fun k p m h1 h2=>by rw [ce.out,ce.out];exact a7.out k p m h1 h2
      replace bf:Hid (∀k p m,hs[k]? =some p->r.l[p]? =some m->NM (k+1)=NM k++[m.id]):=fun k p m h1 h2=>by rw [cm.out,cm.out];exact bf.out k p m h1 h2
      replace bl:Hid (NM 0=[]):=(cm.out 0).trans bl.out;replace bb:Hid (LT 0=0):=(ce.out 0).trans bb.out;replace a5:Hid (LT n=late r.l (hs.map (nmP r.l))):=(ce.out n).trans a5.out;replace a9:Hid (NM n=hs.map (nmP r.l)):=(cm.out n).trans a9.out;clear ce cm eo;generalize wr=wb at*;go_wp2_with fail
      go_loopw [9,10] (fun t v wr=>∃(j:Nat) (Ap:Option Addr) (cp:Nat),v=.int .i64 (j:Int)/\t=.int .i64 (LT j)/\j<=n/\Br w wr r.cells x S x.at_ Ap j cp (NM j)/\Own wr (w.heap.size+3) 3 1 A7 k c7 (ys.map Qv)) (fun _ v _=>n-(intOf v).toNat)
      case atStart=>exact ⟨0,none,0,rfl,by rw [bb.out],Ay9 _,by rw [bl.out];exact s3,az⟩
      case round=>
        obtain ⟨j,Ap,cp,rfl,rfl,hj,s4,af⟩:=hrel;clear s3 az
        by_cases hjn:j<n
        · obtain ⟨p,cf⟩:∃p,hs[j]? =some p:=⟨_,Ax8 (by rw [hn.out];exact hjn)⟩
          have dl:=hlt.out p (Ay0 cf);obtain ⟨m,b,ab,hm,rfl,c0,c1,c3⟩:=ag.out p dl;obtain ⟨m',bi,oi,di,rfl,d0,d1,d2⟩:=ao.out p dl;obtain rfl:m'=m:=by rw [hm] at di;injection di with di;exact di.symm
          obtain ⟨b4,o4,u4,rfl,_,dj,da⟩:=hr.at hjn;rw [Ay5,cf] at dj;injection dj with dj
          subst dj;replace da:cI w b4 (o4+j) (p:Int):=da;have d7:=s4.f.cell da zq;have fv:=lh (a7.out j p m' cf hm);have ev:=lh (bf.out j p m' cf hm);have ei:=aw.out j;have fj:=bv.out m' (Ay0 hm);obtain ⟨i1,i2,i3⟩:=ix j n
          obtain ⟨p1,p2,p3⟩:=ix p N
          have t0:decide ((j:Int)<n)=true:=decide_eq_true i2;have du:decide (j<n)=true:=decide_eq_true hjn;have e1:=iw ((j:Int)+1);have f4:=s4.f;have cj:=s4.past.row;have e5:=s4.sz;have d8:=lh cf;clear cf hm c0 c1;go_upto_region 12 with (fail)
          have F0:Fr Non wr wr.drew:=(Fr.refl Non wr).drew;have Hb:cS wr w.heap.size 2 (some ⟨bi,oi,none⟩) N IC:=(s4.g.cell 2).trans g2.out;have Db:cI wr b4 (o4+j) (p:Int):=d7;obtain ⟨Ib,Jb,Kb⟩:=zk3 f4 d0 d1 d2;have Pb:wr.cell? ⟨w.heap.size+1,4,none⟩=some (.slice Ap j cp):=by have h9:=s4.b.cell 4;have h8:=s4.len;rw [<- h8];exact h9
          have H0:cS wr.drew w.heap.size 2 (some ⟨bi,oi,none⟩) N IC:=Hb;have D0:cI wr.drew b4 (o4+j) (p:Int):=Db;have I0:cI wr.drew bi (oi+p*3) m'.id.b:=Ib;have J0:cI wr.drew bi (oi+p*3+1) m'.id.s:=Jb;have K0:cU wr.drew bi (oi+p*3+2) m'.id.u:=Kb;have P0:cS wr.drew (w.heap.size+1) 4 Ap j cp:=Pb;clear d7 ao ag;refine Cx (S:=fun w'=>cS w' w.heap.size 2 (some ⟨bi,oi,none⟩) N IC/\cI w' b4 (o4+j) (p:Int)/\cI w' bi (oi+p*3) m'.id.b/\cI w' bi (oi+p*3+1) m'.id.s/\cU w' bi (oi+p*3+2) m'.id.u/\cS w' (w.heap.size+1) 4 Ap j cp) 13 (by kernel_rfl) ?_;have uu:=aI H0 (aI D0 (aI I0 (aI J0 (aI K0 P0))));refine tkG 0 uu (h:=tkG 1 uu (h:=tkG 2 uu (h:=tkG 3 uu (h:=tkG 4 uu (h:=tkG 5 uu (h:=tkG 6 uu (h:=tkG 7 uu (h:=tkG 8 uu (h:=tkG 9 uu (h:=?_))))))))));clear uu;simp only [zl];refine Bt 10 (by kernel_rfl) rfl (fun K hK=> ?_);go_simp;have a3:=(Blk.new wr 45 m'.id.V).drew;have F1:Fr Non wr (wr.alloc (.cells m'.id.V 45)).drew:=((Fr.refl _ _).alloc _).drew;generalize (wr.alloc (.cells m'.id.V 45)).drew=v1 at*;obtain ⟨H1,D1,I1,J1,K1,P1⟩:=zk6 F1 Hb Db Ib Jb Kb Pb;refine hK.out _ _ ⟨H1,D1,I1,J1,K1,P1⟩ (fun hZ=> ?_);clear hZ hK K;try simp only [Ad,zl]
          have s5:=s4.non F1;refine Bt 11 (by kernel_rfl) rfl (fun K hK=> ?_);refine Es (base:=w.heap.size+3) (.tmp 55) (.tmp 64) 25 rfl rfl rfl C7 s5.past (Rd.blk (n:=1) (size:=3) a3 rfl) (by simp [Value.oneCell']) (by omega) (by omega) (Ax3 e5 F1.size) ?_;intro A8 c8 v2 ay bp el;have fS:∀q,Ac Ap=some q->w.heap.size+3<=q:=fun q e=>(cj q e).1;have f8:Fr Non w v2:=s5.f.trans bp (fun q hq e=>by have h9:=fS q e;omega);have H2:=(s5.g.fr bp (fun e=>by have h9:=fS _ e;omega)).cell 2|>.trans g2.out;obtain ⟨D2,I2,J2,K2⟩:=zk4 f8 da d0 d1 d2;have P2:v2.cell? ⟨w.heap.size+1,4,none⟩=some (.slice Ap j cp):=by have h9:=(s5.b.fr bp (fun e=>by have h9:=fS _ e;omega)).cell 4;have h8:=s5.len;rw [<- h8];exact h9
          refine hK.out _ _ ⟨H2,D2,I2,J2,K2,P2⟩ (fun hZ=> ?_);clear hZ hK K;try simp only [Ad,zl]
          refine tkG 12 ⟨H2,D2,I2,J2,K2,P2⟩ (h:=?_);simp only [zl];have nz:=(s5.b.fr bp (fun e=>by have h9:=fS _ e;omega)).frozen 4;refine Cs (by kernel_rfl) ?_;refine oG 13 (fun K hK=> ?_);go_simp;refine hK.out _ _ trivial (fun hZ=> ?_);clear hZ hK K;try simp only [Ad,zl]
          refine oD ?_;go_simp
          have c6:Own v2 (w.heap.size+3) 45 3 A8 (j+1) c8 ((NM (j+1)).flatMap Id.cells):=by
            rw [ev.out,List.flatMap_append];exact ay
          have s6:=s5.past! bp fS c6 (by rw [ev.out,Ay1,s5.len];rfl);have ar:=Own.setFar (i:=4) (Own.grow2 (af.fr F1 zr) s5.past (by decide) bp) (s5.b.fr bp (fun e=>by have h9:=fS _ e;omega)) (by decide) (.slice A8 (j+1) c8);clear s5 s4 af ay c6 bp el a3 F0 F1 f8 f4 fS cj nz Hb Db Ib Jb Kb Pb H0 D0 I0 J0 K0 P0 H1 D1 I1 J1 K1 P1 H2 D2 I2 J2 K2 P2 d0 d1 d2 da e5;generalize v2.setCell ⟨w.heap.size+1,4,none⟩ (.slice A8 (j+1) c8)=v6 at*;go_upto_region 13 with (fail)
          have F0:Fr Non v6 v6.drew:=(Fr.refl Non v6).drew;have f6:=s6.f;obtain ⟨b8,o8,u8,e8,_,df,d7⟩:=(hr.fr f6 zr).at hjn;injection e8 with e8
          injection e8 with e8 e9
          subst e8;subst e9;rw [Ay5,d8.out] at df;injection df with df
          subst df;have H0:cS v6.drew w.heap.size 1 (some ⟨b,ab,none⟩) N LC:=(s6.g.cell 1).trans g1.out;have D0:cI v6.drew b4 (o4+j) (p:Int):=d7;have E0:cI v6.drew b (ab+p*27+3) m'.o.at_:=f6.cell c3 zq;refine wp_region_held_drew (S:=fun w'=>cS w' w.heap.size 1 (some ⟨b,ab,none⟩) N LC/\cI w' b4 (o4+j) (p:Int)/\cI w' b (ab+p*27+3) m'.o.at_) (by kernel_rfl) ⟨H0,D0,E0⟩ (fun hHeld=> ?_);clear hHeld;have uu:=aI H0 (aI D0 E0);refine tkH 0 uu (h:=tkH 1 uu (h:=tkH 2 uu (h:=tkH 3 uu (h:=tkH 4 uu (h:=tkH 5 uu (h:=tkH 6 uu (h:=tkH 7 uu (h:=tkH 8 uu (h:=tkH 9 uu (h:=tkH 10 uu (h:=tkH 11 uu (h:=?_))))))))))));clear uu;simp only [zl];refine oD ?_;go_simp;have s7:=s6.non F0;have ac:=ar.drew;clear s6 ar F0 f6 H0 D0 E0 c3 d7;generalize v6.drew=v7 at*;go_wp2_with fail;go_roundw
          case rel=>exact ⟨j+1,A8,c8,by go_num,by rw [fv.out],by omega,s7,ac⟩
          case measure=>simp [intOf];omega
        · obtain rfl:j=n:=by omega
          have t0:decide ((j:Int)<j)=false:=decide_eq_false (by omega);have du:decide (j<j)=false:=decide_eq_false (by omega);clear a7 bf bl bb ag ao;have ei:=aw.out j;obtain ⟨T,hT⟩:=Aa (LT j);rw [hT.out] at a5 ei ⊢;rw [a9.out] at s4;have e1:=iw (x.at_+T);have z3:cI wr (w.heap.size+1) 3 x.at_:=s4.b.cell 3;have zf:=s4.b.frozen 3;go_upto_region 15 with (fail)
          have s5:=s4.at_ (x.at_+T);have bj:=Own.setFar (i:=3) af s4.b (by decide) (.int .i64 (x.at_+T));clear s4 af z3 zf aw a9 hT;generalize wr.setCell ⟨w.heap.size+1,3,none⟩ (.int .i64 (x.at_+T))=v1 at*;have be:Hid ((hs.map (nmP r.l)).length=j):=by show _=_;rw [Ay3,hn.out]
          have ks:=lh (Xw v1.heap.size j cp Ap (hs.map (nmP r.l)) v1 be.out s5.past.rd (by omega));have z4:v1.cell? ⟨w.heap.size+1,4,none⟩=some (.slice Ap j cp):=by have h9:=s5.b.cell 4;have h8:=s5.len;rw [<- h8];exact h9
          have b1:=s5.b;have dh:=s5.sz;go_upto_region 16 with (go_at_call 14;(with_reducible refine (ks.out).mono ?_);rintro _ v2 ⟨A9,c9,rfl,o9,f9⟩;(have z5:=f9.cell z4 zq);(have zf:=(b1.fr f9 zq).frozen 4))
          have s6:=s5.past! f9 (fun _ e=>e.elim) (Gr o9 dh) (by rw [Kf];exact be.out);have ar:=Own.setFar (i:=4) (bj.fr f9 zr) (b1.fr f9 zq) (by decide) (.slice A9 j c9);clear s5 bj ks z4 b1 dh z5 zf o9 f9;generalize v2.setCell ⟨w.heap.size+1,4,none⟩ (.slice A9 j c9)=v3 at*
          have cq:Hid ((x.put S (x.at_+T) A9 c9 (Az (hs.map (nmP r.l)))).op=Bl r.l x.op hs):=by
            show _=_;unfold Bl;show _=({x.op with sq:=Aw r.l (Am r.l (hs.map (nmP r.l))) x.by_ r.l.length+1,at_:=x.at_+late r.l (hs.map (nmP r.l)),past:=Az (hs.map (nmP r.l))}:Op);rw [<- d6.out,<- a5.out];rfl
          have bc:Hid ((x.put S (x.at_+T) A9 c9 (Az (hs.map (nmP r.l)))).op.ok):={hok with sq:=(show I64 S from ⟨by omega,by omega⟩),at_:=(show I64 (x.at_+T) from ⟨by omega,by omega⟩),past:=⟨by
              show (Az (hs.map (nmP r.l))).length<=1000;rw [Kf,be.out];omega,fun y hy=>by
              obtain ⟨p,hp,rfl⟩:=List.mem_map.1 ((Df _).mem_iff.1 hy);have ez:p<r.l.length:=by rw [hN.out];exact hlt.out p hp
              rw [Dg (Ax8 ez)];exact (h.ok _ (Az2 ez)).2⟩}
          generalize hPS:hs.map (nmP r.l)=PS at*;have bd:Hid (∀(v:World) (CS:Array Value),Br w v CS x S (x.at_+T) A9 j c9 (Az PS)->(x.put S (x.at_+T) A9 c9 (Az PS)).lies v base):=fun v _ s=>(hx.non s.f).put (by have h8:=s.len;have h9:=(RowAt.of_own s.past).lies.lower (base':=base) (by omega);rw [h8];exact h9);generalize hY:x.put S (x.at_+T) A9 c9 (Az PS)=Y at*;obtain ⟨aa,ak⟩:=Aa (Bl r.l x.op hs).name;have em:Y.op.name=aa:=by rw [cq.out,ak.out]
          have e6:=lh (An1 Y aa em v3 ((bd.out v3 _ s6).at) bc.out);have bw:(zp.info? 52).map (·.size)=some Y.cells.size:=by rw [show Y.cells.size=27 from rfl];kernel_rfl
          have fa:=Bs (P:=zp) (w.heap.size+1) 52 underlying52 rfl (cs:=Y.cells) bw;have bx:Blk v3 (w.heap.size+1) 52 Y.cells:=hY▸s6.b;go_upto_region 17 with (go_at_call 79;(with_reducible refine (e6.out).mono ?_);rintro _ v4 ⟨rfl,f4⟩;(have ep:=Ch (P:=zp) v4.heap.size 45 (cs:=aa.V) Ar8 (old:=#[.int .i64 0,.int .i64 0,.int .u64 0]) rfl (one3 _ _ _));(have bn:=Blk.new v4 45 #[.int .i64 0,.int .i64 0,.int .u64 0]))
          have bz:=bn.setRow (cs:=aa.V);have fz:Fr Non v4 ((v4.alloc (.cells #[.int .i64 0,.int .i64 0,.int .u64 0] 45)).setRow v4.heap.size aa.V):=((Fr.refl Non v4).alloc _).setRow (fun hh=>absurd hh (by omega)) _;have s7:=(s6.non f4).non fz;have ac:=(ar.fr f4 zr).fr fz zr;have cv:w.heap.size+3<=v4.heap.size:=Ax3 s6.sz f4.size;obtain ⟨gi,fu⟩:=Aa v4.heap.size;rw [fu.out] at bz fz s7 ac cv ⊢;clear ep bn bx e6 f4 s6 ar;generalize (v4.alloc (.cells #[.int .i64 0,.int .i64 0,.int .u64 0] 45)).setRow gi aa.V=v5 at*;clear fz;have a0:=bz.cell 0;have a1:=bz.cell 1;have a2:=bz.cell 2;have fw:=(s7.g.cell 2).trans g2.out;have dc:=lh (h.rdIds.fr s7.f zr);rw [hN.out,cw.out] at dc;have b9:=lh (Pe w.heap.size N IC IA r.ids aa v5 (by show _=_;rw [FG.ids_len,hN.out]) dc.out (by omega));have es:Bf r.ids aa=(plc r.l aa).isSome:=Ap9 r.l aa;rw [es] at b9;clear es;unfold Ag at b9
          cases hc:(plc r.l aa).isSome
          case true=>
            rw [hc] at b9
            have fg:Dz r.l x.op hs=r.l:=by
              unfold Dz;rw [ak.out,if_pos hc]
            have ft:=Ch (P:=zp) (w.heap.size+2) 28 (cs:=r.cells) De (old:=#[.slice none 0 0,.slice none 0 0,.slice none 0 0,.slice none 0 0]) rfl (Ho r);have ck:Hid (∀v',Fr Non w v'->Gs base r x.op hs w (.returned (.agg r.cells)) v'):=fun v' hv=>⟨r,rfl,hv,h.non hv,rfl,fg.symm⟩;clear fg hin hx h fa bw cq bc bd em dc ac
            as_aux_lemma=>
            go_wp2_with (go_at_call 30;(with_reducible refine (b9.out).mono ?_);rintro _ v6 ⟨rfl,f6⟩;(have s8:=s7.non f6);(have bg:=s8.g);(have br:=s8.r));have d4:=br.setRow (cs:=r.cells);have fz:=s8.f.setRow (g:=w.heap.size+2) (fun hh=>absurd hh (by omega)) r.cells;have dw:=lh (ck.out _ fz)
            (try simp only [Exit.inBlock,Exit.then])
            refine Dn (t:=28) rfl rfl d4 rfl underlying28 De rfl ?_;exact dw.out
          case false=>
            rw [hc] at b9
            have bo:plc r.l (Bl r.l x.op hs).name=none:=by
              rw [ak.out]
              cases hq:plc r.l aa with
              |none=>rfl
              |some q=>rw [hq] at hc;cases hc
            obtain ⟨cl,fe⟩:=hin bo;obtain ⟨d,fn,fm⟩:=hdev;have fo:Y.by_=(d:Int):=by rw [<- hY];exact fn
            have kS:=lh (fun (v:World) (hl:Y.lies v base)=>Ap7 Y d base v fo fm hl bc.out)
            have ba:Hid (∀(z:OpL) (lA iA pA:Option Addr) (lC iC pC:Nat) (wz:World),Fr Non w wz->z.op=sgn Y.op->z.lies wz base->
                Own wz (w.heap.size+3) 52 27 lA (N+1) lC (r.xs.flatMap (fun x=>x.cells.toList)++z.cells.toList)->
                Own wz (w.heap.size+3) 45 3 iA (N+1) iC (r.ids.flatMap Id.cells++aa.V.toList)->
                Own wz (w.heap.size+3) 22 1 pA (N+1) pC (r.ps.map UpL.cell++[.slice A7 k c7])->
                Own wz (w.heap.size+3) 3 1 A7 k c7 (ys.map Qv)->
                Gs base r x.op hs w (.returned (.agg #[.slice r.cA r.cards.length r.cC,.slice lA (N+1) lC,.slice iA (N+1) iC,.slice pA (N+1) pC])) wz):=by
              intro z lA iA pA lC iC pC wz hf hz de oL oI oU o7;refine Aq3 h hb hf (by rw [hz,cq.out]) de (by rw [<- cq.out];exact bc.out) cb.out (by intro p hp;rw [hN.out];exact hlt.out p hp) (by rw [ak.out];exact hc) cl fe hN.out hM.out oL (by rw [ak.out];exact oI) oU o7
            have dv:=lh (h.ops.sl.rd);rw [hN.out,dd.out] at dv;have dm:=lh h.rdIds;rw [hN.out,cw.out] at dm;have dx:=lh (h.pasts.sl.rd);rw [hN.out] at dx;have ch:=lh (Tn r.xs);have bu:=lh (Id.cells_one r.ids);have d5:=lh (Aq2 r.ps);have g0:Hid (r.cells[0]? =some (.slice r.cA r.cards.length r.cC)):=rfl
            have et:Hid (r.cells=#[.slice r.cA r.cards.length r.cC,.slice LA N LC,.slice IA N IC,.slice r.pA N r.pC]):=by
              show _=_;unfold FG.cells;rw [hN.out,dd.out,ed.out,cw.out,en.out]
            clear cl fe hin hx h bw cq bo ak em dc dd ed cw en d6 ei a5 be hPS hlt cb cd b0 bv hn hr hp hM hok fd;rw [et.out] at s7 hl g1 g2 g3 g0;obtain ⟨CA,dz⟩:=Aa r.cA;obtain ⟨nc,dq⟩:=Aa r.cards.length;obtain ⟨CC,eg⟩:=Aa r.cC;obtain ⟨PA,d9⟩:=Aa r.pA;obtain ⟨PC,e4⟩:=Aa r.pC;rw [dz.out,dq.out,eg.out,d9.out,e4.out] at s7 hl g1 g2 g3 g0;rw [dz.out,dq.out,eg.out] at ba;rw [d9.out] at dx;clear et dz dq eg d9 e4;generalize Gs base r x.op hs w=POST at*;generalize r.xs.flatMap (fun x=>x.cells.toList)=LL at*;generalize r.ids.flatMap Id.cells=IL at*;generalize r.ps.map UpL.cell=UL at*;go_upto_region 19 with (go_at_call 30;(with_reducible refine (b9.out).mono ?_);rintro _ v6 ⟨rfl,f6⟩)
            have s8:=s7.non f6;have ay:=ac.fr f6 zr;have fc:=bz.fr f6 zq;clear s7 ac bz a0 a1 a2 fw f6 b9;have F0:Fr Non v6 v6.drew:=(Fr.refl Non v6).drew;have ef:=s8.sz;have X0:Blk v6 (w.heap.size+1) 52 Y.cells:=hY▸s8.b;have G0:cS v6 w.heap.size 1 LA N LC:=(s8.g.cell 1).trans g1.out;have e7:=lh (dv.out.fr s8.f zr);refine Cx (S:=fun w'=>Blk w' (w.heap.size+1) 52 Y.cells/\cS w' w.heap.size 1 LA N LC) 8 (by kernel_rfl) ?_;refine tkG 0 ⟨X0,G0⟩ (h:=tkG 1 ⟨X0,G0⟩ (h:=tkG 3 ⟨X0,G0⟩ (h:=?_)));simp only [zl];refine Bt 2 (by kernel_rfl) rfl (fun K hK=> ?_);refine Es (base:=w.heap.size+3) (.const (.slice none 0 0)) (.tmp 95) 24 rfl rfl rfl slOp (Own.nil _ _ _ _) (e7.out.fr F0 zr) ch.out (by omega) (by omega) ef ?_;intro lA lC v1 oL fL ae;rw [Ax4,Ay6] at oL;have F1:Fr Non v6 v1:=F0.trans (Ig fL) zr;have bk:∀k,Ac lA=some k->v6.heap.size<=k:=fun k hk=>by rcases ae with e|e;(rw [e] at hk;cases hk);(rw [e] at hk;injection hk with hk;have fl:v6.heap.size=k:=hk;omega)
            have X1:=X0.fr F1 zq;have G1:=F1.cell G0 zq;refine hK.out _ _ ⟨X1,G1⟩ (fun hZ=> ?_);clear hZ hK K;try simp only [Ax4,Ad,zl]
            refine Bt 4 (by kernel_rfl) rfl (fun K hK=> ?_);go_simp;go_wp2_with (go_at_call 80;(with_reducible refine (kS.out _ (bd.out _ _ (s8.non F1))).mono ?_);rintro _ v2 ⟨z,rfl,ff,de,f2⟩;have F2:=F1.trans f2 zr;have er:=oL.fr f2 zr);have X2:=X0.fr F2 zq;have G2:=F2.cell G0 zq;refine hK.out _ _ ⟨X2,G2⟩ (fun hZ=> ?_);clear hZ hK K;try simp only [Ad,zl]
            have fq:=Tm z;refine Bt 5 (by kernel_rfl) rfl (fun K hK=> ?_);go_simp;have a3:=Blk.new v2 52 z.cells;have ea:=er.alloc (.cells z.cells 52);have F3:Fr Non v6 (v2.alloc (.cells z.cells 52)):=F2.alloc _;have cz:=de.non ((Fr.refl Non v2).alloc (.cells z.cells 52));obtain ⟨ga,cg⟩:=Aa v2.heap.size;rw [cg.out] at a3 ⊢;generalize v2.alloc (.cells z.cells 52)=v3 at*;have X3:=X0.fr F3 zq;have G3:=F3.cell G0 zq;refine hK.out _ _ ⟨X3,G3⟩ (fun hZ=> ?_);clear hZ hK K;try simp only [Ad,zl]
            refine Bt 6 (by kernel_rfl) rfl (fun K hK=> ?_);refine Es (base:=w.heap.size+3) (.tmp 96) (.tmp 99) 24 rfl rfl rfl slOp ea (Rd.blk (n:=1) (size:=27) a3 rfl) (Nt z) (by omega) (by omega) (Ax3 ef F3.size) ?_;intro ai ah v4 e0 dr ee;have F4:Fr Non v6 v4:=F3.trans dr (fun k hk e=>by have h9:=bk k e;omega);have ci:=cz.keepP dr (Types.row ea) (by decide) (by decide) (by decide) (by decide) (by decide) (by decide) (by decide);have X4:=X0.fr F4 zq;have G4:=F4.cell G0 zq;refine hK.out _ _ ⟨X4,G4⟩ (fun hZ=> ?_);clear hZ hK K;try simp only [Ad,zl]
            refine tkG 7 ⟨X4,G4⟩ (h:=?_);simp only [zl];have s9:=s8.non F4;have nz:=s9.g.frozen 1;refine Cs (by kernel_rfl) ?_;refine oG 8 (fun K hK=> ?_);go_simp;refine hK.out _ _ trivial (fun hZ=> ?_);clear hZ hK K;try simp only [Ad,zl]
            refine oD ?_;go_simp;have t9:=s9.setG 1 (.slice ai (N+1) ah);have ds:=Own.setFar (i:=1) e0 s9.g (by decide) (.slice ai (N+1) ah);have ek:=Own.setFar (i:=1) (ay.fr F4 zr) s9.g (by decide) (.slice ai (N+1) ah);have dk:=(fc.fr F4 zq).far (p:=⟨w.heap.size,1,none⟩) (by have h9:=cv;show gi≠w.heap.size;omega) (.slice ai (N+1) ah);have dy:=ci.setG s9.g 1 (.slice ai (N+1) ah);generalize v4.setCell ⟨w.heap.size,1,none⟩ (.slice ai (N+1) ah)=w9 at*;change Br w w9 #[.slice CA nc CC,.slice ai (N+1) ah,.slice IA N IC,.slice PA N PC] x S (x.at_+T) A9 j c9 (Az PS) at t9;clear s9 s8 oL er ea e0 fL dr ae ee bk F0 F1 F2 F3 F4 X0 X1 X2 X3 X4 G0 G1 G2 G3 G4 f2 a3 cg nz e7 ch dv de cz ci fq kS fa ay fc hl bd ef;go_upto_region 20 with (fail)
            have c2:=t9.sz;have dt:=lh (dm.out.fr t9.f zr)
            go_cut [7] from 102 to 108 (fun s wc=>s=.slice A7 k c7/\∃iA iC,Br w wc #[.slice CA nc CC,.slice ai (N+1) ah,.slice iA (N+1) iC,.slice PA N PC] x S (x.at_+T) A9 j c9 (Az PS)/\Own wc (w.heap.size+3) 45 3 iA (N+1) iC (IL++aa.V.toList)/\Own wc (w.heap.size+3) 52 27 ai (N+1) ah (LL++z.cells.toList)/\Own wc (w.heap.size+3) 3 1 A7 k c7 (ys.map Qv)/\z.lies wc base)
            case first=>
              clear ba
              as_aux_lemma=>
              have F0:Fr Non w9 w9.drew:=(Fr.refl Non w9).drew;have G0:cS w9 w.heap.size 2 IA N IC:=t9.g.cell 2;have I0:cI w9 gi 0 aa.b:=dk.cell 0;have J0:cI w9 gi 1 aa.s:=dk.cell 1;have K0:cU w9 gi 2 aa.u:=dk.cell 2;refine Cx (S:=fun w'=>cS w' w.heap.size 2 IA N IC/\cI w' gi 0 aa.b/\cI w' gi 1 aa.s/\cU w' gi 2 aa.u) 7 (by kernel_rfl) ?_;refine tkG 0 ⟨G0,I0,J0,K0⟩ (h:=tkG 1 ⟨G0,I0,J0,K0⟩ (h:=tkG 3 ⟨G0,I0,J0,K0⟩ (h:=?_)));simp only [zl];refine Aq1 2 4 (by kernel_rfl) rfl rfl (fun K hK=> ?_) (fun K hK=> ?_)
              · skip
                refine Es (base:=w.heap.size+3) (.const (.slice none 0 0)) (.tmp 103) 25 rfl rfl rfl C7 (Own.nil _ _ _ _) (dt.out.fr F0 zr) bu.out (by omega) (by omega) c2 ?_;intro iA iC v1 oI fI ae;rw [Ax4,Ay6] at oI;have F1:Fr Non w9 v1:=F0.trans (Ig fI) zr;have bk:∀k,Ac iA=some k->w9.heap.size<=k:=fun k hk=>by rcases ae with e|e;(rw [e] at hk;cases hk);(rw [e] at hk;injection hk with hk;have fl:w9.heap.size=k:=hk;omega)
                obtain ⟨G1,I1,J1,K1⟩:=zk4 F1 G0 I0 J0 K0;refine hK.out _ _ ⟨G1,I1,J1,K1⟩ (fun hZ=> ?_);clear hZ hK K;try simp only [Ax4,Ad,zl]
                refine Bt 4 (by kernel_rfl) rfl (fun K hK=> ?_);go_simp;have a3:=Blk.new v1 45 aa.V;have fi:=oI.alloc (.cells aa.V 45);have F2:Fr Non w9 (v1.alloc (.cells aa.V 45)):=F1.alloc _;obtain ⟨ga,cg⟩:=Aa v1.heap.size;rw [cg.out] at a3 ⊢;generalize v1.alloc (.cells aa.V 45)=v2 at*;obtain ⟨G2,I2,J2,K2⟩:=zk4 F2 G0 I0 J0 K0;refine hK.out _ _ ⟨G2,I2,J2,K2⟩ (fun hZ=> ?_);clear hZ hK K;try simp only [Ad,zl]
                refine Bt 5 (by kernel_rfl) rfl (fun K hK=> ?_);refine Es (base:=w.heap.size+3) (.tmp 104) (.tmp 106) 25 rfl rfl rfl C7 fi (Rd.blk (n:=1) (size:=3) a3 rfl) (by simp [Value.oneCell']) (by omega) (by omega) (Ax3 c2 F2.size) ?_;intro al aj v3 dn ec b6;have F3:Fr Non w9 v3:=F2.trans ec (fun k hk e=>by have h9:=bk k e;omega);obtain ⟨G3,I3,J3,K3⟩:=zk4 F3 G0 I0 J0 K0;refine hK.out _ _ ⟨G3,I3,J3,K3⟩ (fun hZ=> ?_);clear hZ hK K;try simp only [Ad,zl]
                refine tkG 6 ⟨G3,I3,J3,K3⟩ (h:=?_);simp only [zl];have ad:=t9.non F3;have nz:=ad.g.frozen 2;refine Cs (by kernel_rfl) ?_;refine oG 7 (fun K hK=> ?_);go_simp;have eb:=ad.setG 2 (.slice al (N+1) aj);have bq:=Own.setFar (i:=2) dn ad.g (by decide) (.slice al (N+1) aj);have bs:=Own.setFar (i:=2) (ds.fr F3 zr) ad.g (by decide) (.slice al (N+1) aj);have bt:=Own.setFar (i:=2) (ek.fr F3 zr) ad.g (by decide) (.slice al (N+1) aj);have ca:=(dy.non F3).setG ad.g 2 (.slice al (N+1) aj);refine hK.out _ _ trivial (fun hZ=> ?_);clear hZ hK K;try simp only [Ad,zl]
                refine oD ?_;go_simp;go_wp2_with fail;go_meet;exact ⟨rfl,al,aj,eb,bq,bs,bt,ca⟩
              · skip
                go_simp;have av:=(Blk.new w9 45 aa.V).drew;have F1:Fr Non w9 (w9.alloc (.cells aa.V 45)).drew:=((Fr.refl Non w9).alloc _).drew;have dh:=F1.size;obtain ⟨ga,cg⟩:=Aa w9.heap.size;have fp:w9.heap.size<=w9.heap.size:=Ay2 _;rw [cg.out] at av ⊢;generalize (w9.alloc (.cells aa.V 45)).drew=v1 at*;obtain ⟨G1,I1,J1,K1⟩:=zk4 F1 G0 I0 J0 K0;refine hK.out _ _ ⟨G1,I1,J1,K1⟩ (fun hZ=> ?_);clear hZ hK K;try simp only [Ad,zl]
                refine Bt 2 (by kernel_rfl) rfl (fun K hK=> ?_);refine Es (base:=w.heap.size+3) (.const (.slice none 0 0)) (.tmp 103) 25 rfl rfl rfl C7 (Own.nil _ _ _ _) (dt.out.fr F1 zr) bu.out (by omega) (by omega) (Ax3 c2 dh) ?_;intro iA iC v2 oI fI ae;rw [Ax4,Ay6] at oI;have F2:Fr Non w9 v2:=F1.trans (Ig fI) zr;have a3:=av.fr (Ig fI) zq;have bk:∀k,Ac iA=some k->w9.heap.size<=k:=fun k hk=>by rcases ae with e|e;(rw [e] at hk;cases hk);(rw [e] at hk;injection hk with hk;omega)
                obtain ⟨G2,I2,J2,K2⟩:=zk4 F2 G0 I0 J0 K0;refine hK.out _ _ ⟨G2,I2,J2,K2⟩ (fun hZ=> ?_);clear hZ hK K;try simp only [Ax4,Ad,zl]
                refine Bt 5 (by kernel_rfl) rfl (fun K hK=> ?_);refine Es (base:=w.heap.size+3) (.tmp 104) (.tmp 106) 25 rfl rfl rfl C7 oI (Rd.blk (n:=1) (size:=3) a3 rfl) (by simp [Value.oneCell']) (by omega) (by omega) (Ax3 c2 F2.size) ?_;intro al aj v3 dn ec b6;have F3:Fr Non w9 v3:=F2.trans ec (fun k hk e=>by have h9:=bk k e;omega);obtain ⟨G3,I3,J3,K3⟩:=zk4 F3 G0 I0 J0 K0;refine hK.out _ _ ⟨G3,I3,J3,K3⟩ (fun hZ=> ?_);clear hZ hK K;try simp only [Ad,zl]
                refine tkG 6 ⟨G3,I3,J3,K3⟩ (h:=?_);simp only [zl];have ad:=t9.non F3;have nz:=ad.g.frozen 2;refine Cs (by kernel_rfl) ?_;refine oG 7 (fun K hK=> ?_);go_simp;have eb:=ad.setG 2 (.slice al (N+1) aj);have bq:=Own.setFar (i:=2) dn ad.g (by decide) (.slice al (N+1) aj);have bs:=Own.setFar (i:=2) (ds.fr F3 zr) ad.g (by decide) (.slice al (N+1) aj);have bt:=Own.setFar (i:=2) (ek.fr F3 zr) ad.g (by decide) (.slice al (N+1) aj);have ca:=(dy.non F3).setG ad.g 2 (.slice al (N+1) aj);refine hK.out _ _ trivial (fun hZ=> ?_);clear hZ hK K;try simp only [Ad,zl]
                refine oD ?_;go_simp;go_wp2_with fail;go_meet;exact ⟨rfl,al,aj,eb,bq,bs,bt,ca⟩
            case rest=>
            obtain ⟨rfl,iA,iC,ad,oI,oL,o7,zl⟩:=hcut;generalize wc=wd at*;clear t9 ds ek dy dk dt c2 dm bu;have b5:=ad.sz;have c4:=lh (dx.out.fr ad.f zr);have d3:=ad.g.cell 3;replace d3:cS wd w.heap.size 3 PA N PC:=d3
            go_upto_region 22 with (first
              |(at_builtin;go_loud (refine Au (base:=w.heap.size+3) (.const (.slice none 0 0)) (.tmp 110) 26 rfl rfl rfl rfl slIi (Own.nil _ _ _ _) c4.out d5.out (by omega) (by omega) b5 ?_);intro pA pC v1 oU fU ae;rw [Ax4,Ay6] at oU;have F1:Fr Non wd v1:=Ig fU;have bk:∀k,Ac pA=some k->wd.heap.size<=k:=(fun k hk=>by rcases ae with e|e;(rw [e] at hk;cases hk);(rw [e] at hk;injection hk with hk;omega));have av:=Blk.new v1 22 #[.slice A7 k c7];have fh:=oU.alloc (.cells #[.slice A7 k c7] 22);have F2:Fr Non wd (v1.alloc (.cells #[.slice A7 k c7] 22)):=F1.alloc _;clear ae fU)
              |(at_builtin;go_loud (refine Au (base:=w.heap.size+3) (.tmp 111) (.tmp 113) 26 rfl rfl rfl rfl slIi fh (Rd.blk (n:=1) (size:=1) av rfl) (by simp [Value.oneCell']) (by omega) (by omega) (Ax3 b5 F2.size) ?_);intro ap aq v2 e3 ey b6;have F3:Fr Non wd v2:=F2.trans ey (fun k hk e=>by have h9:=bk k e;omega);have a8:=ad.non F3;have z3:=a8.g.frozen 3;have n3:cS v2 w.heap.size 3 PA N PC:=a8.g.cell 3))
            have cc:=a8.setG 3 (.slice ap (N+1) aq);have cr:=Own.setFar (i:=3) e3 a8.g (by decide) (.slice ap (N+1) aq);have cu:=Own.setFar (i:=3) (oI.fr F3 zr) a8.g (by decide) (.slice ap (N+1) aq);have cy:=Own.setFar (i:=3) (oL.fr F3 zr) a8.g (by decide) (.slice ap (N+1) aq);have cx:=Own.setFar (i:=3) (o7.fr F3 zr) a8.g (by decide) (.slice ap (N+1) aq);have c5:=(zl.non F3).setG a8.g 3 (.slice ap (N+1) aq);generalize v2.setCell ⟨w.heap.size,3,none⟩ (.slice ap (N+1) aq)=v13 at*;change Br w v13 #[.slice CA nc CC,.slice ai (N+1) ah,.slice iA (N+1) iC,.slice ap (N+1) aq] x S (x.at_+T) A9 j c9 (Az PS) at cc;clear ad a8 oI oL o7 zl oU fh e3 ey b6 F1 F2 F3 av bk d3 n3 z3 c4 b5;have bh:(zp.info? 28).map (·.size)=some (#[.slice CA nc CC,.slice ai (N+1) ah,.slice iA (N+1) iC,.slice ap (N+1) aq]:Array Value).size:=De;have a6:(#[.slice CA nc CC,.slice ai (N+1) ah,.slice iA (N+1) iC,.slice ap (N+1) aq]:Array Value).all (·.oneCell')=true:=by simp [Value.oneCell']
            have au:=lh (ba.out z ai iA ap ah iC aq);obtain ⟨CZ,eh⟩:=Aa (#[.slice CA nc CC,.slice ai (N+1) ah,.slice iA (N+1) iC,.slice ap (N+1) aq]:Array Value);rw [eh.out] at bh a6 au cc;have fx:=Bs (P:=zp) w.heap.size 28 underlying28 rfl (cs:=CZ) bh;have fs:=Ch (P:=zp) (w.heap.size+2) 28 (cs:=CZ) bh (old:=#[.slice none 0 0,.slice none 0 0,.slice none 0 0,.slice none 0 0]) (by rw [<- eh.out];rfl) a6;have bg:=cc.g;have br:=cc.r;clear eh ba g0 g1 g2 g3 a6;have d4:=br.setRow (cs:=CZ);have fz:=cc.f.setRow (g:=w.heap.size+2) (fun hh=>absurd hh (by omega)) CZ;have fr:=Tj (w:=v13) (g:=w.heap.size+2) CZ;have ax:∀{t size n c:Nat} {A:Option Addr} {xs:List Value},Own v13 (w.heap.size+3) t size A n c xs->Own (v13.setRow (w.heap.size+2) CZ) (w.heap.size+3) t size A n c xs:=fun h=>h.fr fr (fun q hq e=>by have h9:=(h.row q hq).1;have h8:q=w.heap.size+2:=e;omega);have dw:=lh (au.out _ fz ff (c5.keepP fr (Types.one br) (by decide) (by decide) (by decide) (by decide) (by decide) (by decide) (by decide)) (ax cy) (ax cu) (ax cr) (ax cx));clear au fz fr ax cy cu cr cx c5 cc ff
            as_aux_lemma=>
            go_wp2_with fail
            (try simp only [Exit.inBlock,Exit.then])
            refine Dn (t:=28) rfl rfl d4 rfl underlying28 bh rfl ?_;exact dw.out
end Oq
namespace Oq
theorem T0 {cards:List Cd} (hc:cards=Av 0 [1,2,2,3]) {d:Int} (hd:1<=d/\d<=4):∃c,E1 cards d=some c/\c.s=Sg.pub (sec Bq d.toNat):=by
 subst hc;have h4:d=1\/d=2\/d=3\/d=4:=by omega
 show ∃c,List.find? _ [Ck 0 1,Ck 1 2,Ck 2 2,Ck 3 3]=some c/\_
 rcases h4 with rfl|rfl|rfl|rfl
 · exact ⟨Ck 0 1,by rw [Ay7 (by rw [Du];decide)],Ie _ _⟩
 · exact ⟨Ck 1 2,by rw [Ax9 (by rw [Du];decide),Ay7 (by rw [Du];decide)],Ie _ _⟩
 · exact ⟨Ck 2 2,by rw [Ax9 (by rw [Du];decide),Ax9 (by rw [Du];decide),Ay7 (by rw [Du];decide)],Ie _ _⟩
 · exact ⟨Ck 3 3,by rw [Ax9 (by rw [Du];decide),Ax9 (by rw [Du];decide),Ax9 (by rw [Du];decide),Ay7 (by rw [Du];decide)],Ie _ _⟩
def Et (l:List Pn) (a b:Nat):List Nat:=[a/4%l.length]++(if 0<=Dx l ((1:Int)+(a%4:Nat)) l.length/\0<a/64%5 then [(Dx l ((1:Int)+(a%4:Nat)) l.length).toNat] else [])++(if b%3=0 then [b/3%l.length] else [])
def Fj (l:List Pn) (a b:Nat):Op:=C4 (if b%2=0 then 7 else 4) ((1:Int)+(a%4:Nat)) 0 ((b/6%4:Nat):Int) [] (nmP l 0) [UInt8.ofNat (65+b/2%3)]
def N0 (l:List Pn) (a b:Nat):List Pn:=Dz l (Fj l a b) (C8 l (Et l a b))
def Fk (k0:List Int):Nat->List Pn
 |0=>Dz [] (E7 1) []
 |j+1=>N0 (Fk k0 j) (Cz k0 (2*j)) (Cz k0 (2*j+1))
def Kn (k0:List Int):List Pn:=Fk k0 (min 13 (k0.length/2))
theorem T2 {l:List Pn} (hne:l≠[]) (a b:Nat):∀p∈Et l a b,p<l.length:=by
 have h0:0<l.length:=List.length_pos_iff.2 hne;intro p hp;unfold Et at hp
 rcases List.mem_append.1 hp with hp|hp
 ·
  rcases List.mem_append.1 hp with hp|hp
  ·
   rw [List.mem_singleton.1 hp];exact Nat.mod_lt _ h0
  ·
   split at hp
   ·
    rename_i hc;rw [List.mem_singleton.1 hp];have:=(Ng l ((1:Int)+(a%4:Nat)) l.length).2;omega
   · cases hp
 ·
  split at hp
  ·
   rw [List.mem_singleton.1 hp];exact Nat.mod_lt _ h0
  · cases hp
theorem T3 (l:List Pn) (a b:Nat):(Et l a b).length<=3:=by
 unfold Et;rw [Ay1,Ay1]
 split<;>split<;>simp
theorem Ar9 (l:List Pn) (a b:Nat):Et l a b≠[]:=by
 unfold Et;simp
theorem As0 (l:List Pn) (k b dt:Int) (hs:List Nat) (e:Id) (y:List UInt8):Bl l (C4 k b 0 dt [] e y) hs=Ik l k b dt hs e y:=by
 unfold Bl Ik;rw [Ij,Nc];unfold C4
 by_cases hk:k=7
 ·
  rw [if_pos hk,if_pos hk];rfl
 ·
  rw [if_neg hk,if_neg hk];rfl
theorem T4 {l:List Pn} (hB:FkB l) (h13:l.length<=13) {o:Op} {hs:List Nat} (hb:1<=o.by_/\o.by_<=12) (ha:o.at_<=3):FkB (l++[Ar l (sgn (Bl l o hs))]):=by
 have hlen:(l++[Ar l (sgn (Bl l o hs))]).length=l.length+1:=by rw [Ay1];rfl
 have hsq:(sgn (Bl l o hs)).sq=Aw l (Am l (hs.map (nmP l))) o.by_ l.length+1:=by rw [Al2];rfl
 have hat:(sgn (Bl l o hs)).at_=o.at_+late l (hs.map (nmP l)):=by rw [Al3];rfl
 have hby:(sgn (Bl l o hs)).by_=o.by_:=by rw [Sr];rfl
 have h1:Aw l (Am l (hs.map (nmP l))) o.by_ l.length<=l.length:=Nb (by omega) hB.sq _;have h2:=Ki l (Am l (hs.map (nmP l))) o.by_ l.length;have h3:late l (hs.map (nmP l))<=3*l.length:=Q5 l _ (by omega) hB.at_ _;refine ⟨fun n hn=> ?_,fun n hn=> ?_,fun n hn=> ?_,fun n hn=> ?_,by rw [hlen];omega⟩<;>rw [List.mem_append,List.mem_singleton] at hn<;>rcases hn with hn|rfl
 · have:=hB.sq n hn;rw [hlen];omega
 · rw [hlen,Ih,hsq];omega
 · have:=hB.at_ n hn;rw [hlen];omega
 · rw [hlen,Ih,hat];omega
 · exact hB.by_ n hn
 · rw [Ih,hby];exact hb
 · exact hB.s1 n hn
 · rw [Ih,hsq];omega
theorem As1 {cards:List Cd} {l:List Pn} (h:Rows cards l) (hB:FkB l) {n:Pn} (hn:n∈l):n.id.named=true:=by
 obtain ⟨i,hi⟩:=List.getElem?_of_mem hn;rw [(h.ok i n hi).id];refine Su (hB.by_ n hn) ⟨hB.s1 n hn,?_⟩;have:=hB.sq n hn;have:=hB.few;omega
theorem fk_in {cards:List Cd} {l:List Pn} (h:Rows cards l) (hB:FkB l) (hc:cards=Av 0 [1,2,2,3]) (hne:l≠[]) (h13:l.length<=13) (a b:Nat):
  plc l (Bl l (Fj l a b) (C8 l (Et l a b))).name=none->Ao cards l (sgn (Bl l (Fj l a b) (C8 l (Et l a b))))=0/\FkB (l++[Ar l (sgn (Bl l (Fj l a b) (C8 l (Et l a b))))]):=by
 intro hnew;have hlt:=T2 hne a b;have h0:0<l.length:=List.length_pos_iff.2 hne;refine ⟨?_,T4 hB h13 (by unfold Fj;rw [Ij];omega) (by unfold Fj;rw [Nc];omega)⟩;unfold Fj at hnew ⊢;rw [As0] at hnew ⊢;refine Ao6 h hB (fun b h1 h2=>T0 hc ⟨h1,h2⟩) (Ao2 h (Ar9 l a b) hlt) (S5 _ _ _) (Ax3 (Kh _ _ _) (T3 l a b)) (fun p hp=>hlt p (Ii _ hp).1) (fun p hp q hq=>(Ii _ hp).2 q (Ii _ hq).1) ⟨by omega,by omega⟩ ⟨by omega,by omega⟩ ?_ ⟨by simp,by simp⟩ hnew;have hn:l[0]? =some l[0]:=Ax8 h0;rw [Dg hn];exact As1 h hB (Az2 h0)
theorem As2:Bl [] (E7 1) []=E7 1:=rfl
theorem As3 {cards:List Cd} (hc:cards=Av 0 [1,2,2,3]):plc [] (Bl [] (E7 1) []).name=none->Ao cards [] (sgn (Bl [] (E7 1) []))=0/\FkB ([]++[Ar [] (sgn (Bl [] (E7 1) []))]):=by
 intro _;obtain ⟨c,h1,h2⟩:=T0 hc (d:=1) ⟨by decide,by decide⟩;refine ⟨?_,T4 ⟨fun _ hn=>absurd hn Ax7,fun _ hn=>absurd hn Ax7,fun _ hn=>absurd hn Ax7,fun _ hn=>absurd hn Ax7,by decide⟩ (by decide) (by decide) (by decide)⟩;rw [As2];exact St (c:=c) (Al4 (by decide)) rfl (by simp) h1 h2 (.inr rfl) rfl (by show clash [] []=false;unfold clash Cr;simp) (Int.le_refl _) rfl
theorem T5 (l:List Pn) (o:Op) (hs:List Nat):(Dz l o hs).length<=l.length+1:=by
 unfold Dz
 split
 · omega
 ·
  rw [Ay1];exact Ay2 _
theorem As4 {l:List Pn} (h:l≠[]) (o:Op) (hs:List Nat):Dz l o hs≠[]:=by
 unfold Dz
 split
 · exact h
 · simp
theorem N1 (k0:List Int):∀j,Fk k0 j≠[]
 |0=>by
  show Dz [] (E7 1) []≠[];unfold Dz;rw [show plc [] (Bl [] (E7 1) []).name=none from rfl,if_neg (by simp)];simp
 |j+1=>As4 (N1 k0 j) _ _
theorem T6 (k0:List Int):∀j,(Fk k0 j).length<=j+1
 |0=>T5 _ _ _
 |j+1=>Ax3 (T5 _ _ _) (by have:=T6 k0 j;omega)
end Oq
end Go.Proofs.YtmcpnjoomlgmlaaGreatDoor
