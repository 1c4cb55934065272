/-
  Contracts of the functions that the claim's statement reaches, walked one by one (part 16).
  Conditions: as each theorem says.
-/
import Derived.WideKeyEntry
import Derived.Test.YtgbdljlapmjmnaaGreatDoorRlB15
set_option maxRecDepth 100000
set_option maxHeartbeats 16000000
open Bool renaming not_false->At1,not_true->At2
open List renaming not_mem_nil->At3,getElem?_eq_getElem->At4,find?_cons_of_neg->At5,mem_of_getElem?->At6,length_append->At7,length_map->At9,getElem?_map->Au1,nil_append->Au2,find?_cons_of_pos->Au3,map_append->Au4,getElem?_toArray->Au6,take_length->Au7,getElem_mem->Au8
open Nat renaming le_trans->As9,zero_add->At0,le_refl->At8,zero_le->Au5
open Go.World renaming size_alloc->Au0
open Go.Proofs.Tryz
open Go.Proofs.Tryz renaming prog->zp
open Go.Lib renaming hid->lh
open List renaming set->zl
open Go.Ending renaming returned->ze
namespace Go.Proofs.YtgbdljlapmjmnaaGreatDoor
open Go.RowKit
attribute [local go_sem ↓] Go.wp_at_zero Go.wp_at_succ
namespace Oq
attribute [local go_sem] At1 At2
theorem An9 {P:Program} {Q:Exit->Act->World->Prop} {l:List Oper} {md:Region.Mode} {S:World->Prop} {fuel:Nat} {listed:Array Bool} {a:Act} {w:World} (i j:Nat) {d:Option Tmp} {op:Go.Op} {ty:TypeId} {pos:String} {after:Array Edge} {g:Option (Nat × Bool)} {d':Option Tmp} {op':Go.Op} {ty':TypeId} {pos':String} {after':Array Edge} {g':Option (Nat × Bool)}
  (hr:Region.ready md l.toArray listed=[i,j]) (ho:l[i]? =some ⟨d,op,ty,pos,after,g⟩) (ho':l[j]? =some ⟨d',op',ty',pos',after',g'⟩)
  (hw:Region.wanted ⟨d,op,ty,pos,after,g⟩ (yielded l.toArray a.tmps)=true) (hw':Region.wanted ⟨d',op',ty',pos',after',g'⟩ (yielded l.toArray a.tmps)=true)
  (h:∀K':Act->World->Prop,Shut (∀a w,S w->(S w->wpAnyH P md l.toArray Q S fuel (listed.setIfInBounds i true) a w)->K' a w)->Oper.wp P ⟨d,op,ty,pos,after,g⟩ a w K' Q)
  (h':∀K':Act->World->Prop,Shut (∀a w,S w->(S w->wpAnyH P md l.toArray Q S fuel (listed.setIfInBounds j true) a w)->K' a w)->Oper.wp P ⟨d',op',ty',pos',after',g'⟩ a w K' Q):
  wpAnyH P md l.toArray Q S (fuel+1) listed a w:=
 wpAnyH_ready hr (by simp) (AllReadyH.cons (by rw [Au6];exact ho) (fun K' hK=>by rw [if_pos hw];exact h K' hK) (AllReadyH.cons (by rw [Au6];exact ho') (fun K' hK=>by rw [if_pos hw'];exact h' K' hK) AllReadyH.nil))
end Oq
namespace Oq
attribute [local go_sem] At1 At2
attribute [local go_sem ↓] Be C4 M6
theorem Tk {cards:List Cd} {m:List Pn} {ws:List Op} {o:Op} (h:(plc m o.name).isSome=true\/ws.any (fun x=>Id.eq x.name o.name)=true):Az cards (m,ws) o=(5,(m,ws)):=by unfold Az;rw [if_pos h]
theorem Ao0 {cards:List Cd} {m:List Pn} {ws:List Op} {o:Op} (h1:(plc m o.name).isSome=false) (h2:ws.any (fun x=>Id.eq x.name o.name)=false):
  Az cards (m,ws) o=if ready m o=false then if 200<=ws.length then (3,(m,ws)) else (0,(m,ws++[o])) else if Aj cards m o≠0 then (Aj cards m o,(m,ws)) else (0,Bu cards ws.length (m++[Ak m o]) ws):=by
 unfold Az;rw [if_neg (by rw [h1,h2];simp)]
def TakeRPost (base:Nat) (r:Ad) (o:Op) (w:World) (e:Ending) (w':World):Prop:=
 e=.returned (.int .i64 (Az r.g.cards r.st o).1)/\∃r':Ad,Hid (Ad.Step base r r' w w')/\Hid (r'.st=(Az r.g.cards r.st o).2)
theorem TakeRPost.mk {base:Nat} {r r':Ad} {o:Op} {w w':World} {a:Int} {s:List Pn × List Op} (h:Az r.g.cards r.st o=(a,s)) (hs:Ad.Step base r r' w w') (he:r'.st=s):TakeRPost base r o w (.returned (.int .i64 a)) w':=by
 unfold TakeRPost;rw [h];exact ⟨rfl,r',hs,he⟩
theorem Ii (base B n c:Nat) (A:Option Addr) (r:Ad) (o:Op) (w:World) (h:r.okAt w base) (hk:KindsAt w) (hn:Hid (o.put.length=n)) (hr:Rd w B 1 A n (o.put.map Bv)) (hl:n<=1099511627776) (hok:o.ok):
  Calls zp 22 #[.pointer (some ⟨r.rb,0,none⟩),.slice A n c] w (TakeRPost base r o w):=by
 have aa:(zp.info? 55).map (·.size)=some 27:=by kernel_rfl
 have kg:Hid (Calls zp 27 #[.slice A n c] w (fun e w'=>∃x:OpL,x.op=o/\e=.returned (.tuple #[.agg x.cells,.int .i64 0])/\x.own w' w.heap.size/\Fr Non w w')):=by
  have:=Lr B n c A o.put w hn hr hl;unfold Fs at this;rw [U1 hok.okR] at this;exact this
 have b4:base<=w.heap.size:=As9 h.rbase (Nat.le_of_lt h.blk.lt);have ab:Hid (∀(a:Int) (s:List Pn × List Op) (r':Ad) (w':World),Az r.g.cards r.st o=(a,s)->Ad.Step base r r' w w'->r'.st=s->TakeRPost base r o w (.returned (.int .i64 a)) w'):=fun a s r' w' h1 h2 h3=>TakeRPost.mk h1 h2 h3;generalize TakeRPost base r o w=POST at*;obtain ⟨nm,aq⟩:∃nm,o.name=nm:=⟨_,rfl⟩;have bb:nm.ok:=by rw [<- aq];exact J7 hok
 obtain ⟨rb,af⟩:=Aa r.rb;obtain ⟨gb,bd⟩:=Aa r.g.gb;obtain ⟨N,hN⟩:=Aa r.ws.length;rw [af.out];replace h:=lh h;replace hk:=lh hk;clear hn hr hl;go_enter func22,ntmps22;go_upto_region 2 with (go_at_call 27;(with_reducible refine (kg.out).mono ?_);rintro _ w1 ⟨x,ax,rfl,xo,f1⟩;have bn:=Blk.new w1 55 zO;have bq:=Cl (P:=zp) w1.heap.size 55 (cs:=x.cells) aa (old:=zO) rfl (Ek x))
 have bx:Blk ((w1.alloc (.cells zO 55)).setRow w1.heap.size x.cells) w1.heap.size 55 x.cells:=bn.setRow;have fx:Fr Non w1 ((w1.alloc (.cells zO 55)).setRow w1.heap.size x.cells):=((Fr.refl Non w1).alloc _).setRow (fun hh=>absurd hh (by omega)) _;have f2:=f1.trans fx zr;have au:=(xo.lower b4).non fx;have a3:x.op.ok:=by rw [ax];exact hok
 obtain ⟨ob,bz⟩:=Aa w1.heap.size;have ak:w.heap.size<=w1.heap.size:=f1.size;rw [bz.out] at bx f2 au ak ⊢;replace ak:=lh ak;clear kg xo bq bn f1 fx bz b4;generalize (w1.alloc (.cells zO 55)).setRow ob x.cells=w2 at*;have ci:=B0 (P:=zp) ob 55 underlying55 rfl (cs:=x.cells) aa;have br:=lh (fun (w':World) (h:Fr Non w2 w')=>Tg x nm (by rw [ax];exact aq) w' (au.non h).at a3);have kO:=lh (fun (w':World) (hf:Fr Non w w')=>An8 (l:=r.g.pns) nm (h.out.graph.fr hf) bd.out rfl bb);unfold Nc at kO;have kL:=lh (fun (w':World) (hf:Fr Non w2 w')=>Hv base r.g x w' Hw (h.out.graph.fr (f2.trans hf zr)) (au.non hf).at a3.past.2 (by have:=a3.past.1;show x.op.past.length<=_;omega));unfold Fv at kL;have kA:=lh (fun (w':World) (hf:Fr Non w2 w')=>Ti base r x w' (h.out.non (f2.trans hf zr)) (au.non hf).at a3 (hk.out.fr (f2.trans hf zr)));unfold Nb at kA;rw [ax] at kA;have kC:=lh (fun (iv:Nat) (w':World) (hf:Fr Non w w') (hi:Blk w' iv 48 nm.V)=>An2 w'.heap.size N r.c iv r.A r.ws (fun y=>Id.eq y.op.name nm) w' hN (by have:=(h.out.non hf).row.rd;rwa [hN.out] at this) (by have:=h.out.few;rw [hN.out] at this;omega) (fun y hy w'' hg=>An0 y nm iv w'' ((h.out.ops y hy).1.non (hf.trans hg zr)).at (h.out.ops y hy).2 (hi.fr hg zq)));unfold Ae at kC;have ap:=lh (Na (g:=r.g) rfl x);rw [ax] at ap;rw [bd.out] at kL kA;obtain ⟨LL,b9⟩:=Aa (x.past.filter (fun id=> !(place r.g.nodes id).isSome));rw [b9.out] at kL ap;obtain ⟨LN,cj⟩:=Aa LL.length;rw [cj.out] at kL ap;have b0:Hid (Own w2 base 55 27 r.A N r.c (r.ws.flatMap (fun x=>x.cells.toList))/\x.own w2 base/\x.op=o/\o.ok):=⟨by have:=(h.out.non f2).row;rwa [hN.out] at this,au,ax,hok⟩;have a0:=Td x;have aw:=M7 x;have a7:x.cells.size=27:=rfl;obtain ⟨XC,b6⟩:=Aa x.cells;rw [b6.out] at bx ci br kL kA a0 aw a7;have bk:r.okAt w2 base:=h.out.non f2;have P2:w2.cell? ⟨rb,0,none⟩=some (.pointer (some ⟨gb,0,none⟩)):=by have:=bk.blk.cell 0;rwa [af.out,bd.out] at this
 have V2:w2.cell? ⟨rb,1,none⟩=some (.slice r.A N r.c):=by have:=bk.blk.cell 1;rwa [af.out,hN.out] at this
 have b7:N<=200:=by have:=bk.few;rwa [hN.out] at this
 have ag:Hid ((r.ws.map OpL.op).any (fun y=>Id.eq y.name nm)=r.ws.any (fun y=>Id.eq y.op.name nm)):=by show _=_;rw [List.any_map];rfl
 obtain ⟨WB,cg⟩:=Aa (r.ws.any (fun y=>Id.eq y.op.name nm));rw [cg.out] at kC ag;clear au a3 b9 bk bb aa hok;go_upto_region 4 with (fail)
 go_upto_region 5 with (go_at_call 40;(with_reducible refine (br.out _ (Fr.refl _ _)).mono ?_);rintro _ w3 ⟨rfl,f3⟩)
 have bi:=Blk.new w3 48 nm.V;have bc:Fr Non w2 (w3.alloc (.cells nm.V 48)):=f3.alloc _;have bo:w.heap.size<=w3.heap.size:=(f2.trans f3 zr).size;obtain ⟨ib,bw⟩:=Aa w3.heap.size;rw [bw.out] at bi ⊢;generalize w3.alloc (.cells nm.V 48)=w4 at*;have aj:=f2.trans bc zr;have b1:=bx.fr bc zq;obtain ⟨P4,V4⟩:=zk2 bc P2 V2;have i0:cI w4 ib 0 nm.b:=bi.cell 0;have i1:cI w4 ib 1 nm.s:=bi.cell 1;have i2:cU w4 ib 2 nm.u:=bi.cell 2;clear br f3 P2 V2 bw bo
 go_cut [8,9] from 21 to 29 (fun s1 s2 wc=>∃(qb:Nat) (is:Bool),s1=.pointer (some ⟨qb,0,none⟩)/\s2=.bool is/\Hid ((plc r.g.pns nm).isSome=is)/\Fr Non w4 wc)
 case first=>
  have aa:(zp.info? 55).map (·.size)=some 27:=by kernel_rfl
  have P0:=P4;have I0:=i0;have J0:=i1;have K0:=i2;have F0:Fr Non w4 w4.drew:=(Fr.refl Non w4).drew;have G0:Fr Non w w4.drew:=aj.drew;refine wp_region_held_drew (S:=fun w'=>w'.cell? ⟨rb,0,none⟩=some (.pointer (some ⟨gb,0,none⟩))/\cI w' ib 0 nm.b/\cI w' ib 1 nm.s/\cU w' ib 2 nm.u) (by kernel_rfl) ⟨P0,I0,J0,K0⟩ (fun hHeld=> ?_);clear hHeld;have uu:=aI P0 (aI I0 (aI J0 K0));refine tkH 0 uu (h:=tkH 1 uu (h:=tkH 2 uu (h:=tkH 3 uu (h:=tkH 4 uu (h:=?_)))));clear uu;simp only [zl];refine An9 5 9 (by kernel_rfl) rfl rfl (by kernel_rfl) (by kernel_rfl) (fun K hK=> ?_) (fun K hK=> ?_)
  ·
   skip
   go_simp;go_wp2_with (go_at_call 41;(with_reducible refine (kO.out _ G0).mono ?_);rintro _ v1 ⟨y2,is,rfl,ai,_,_,ar⟩;have F1:=F0.trans ar zr;obtain ⟨P1,I1,J1,K1⟩:=zk4 F1 P0 I0 J0 K0;have G1:=aj.trans F1 zr);refine hK.out _ _ ⟨P1,I1,J1,K1⟩ (fun hZ=> ?_);clear hZ hK K;try simp only [Ai,zl]
   refine tkH 6 ⟨P1,I1,J1,K1⟩ (h:=tkH 7 ⟨P1,I1,J1,K1⟩ (h:=tkH 8 ⟨P1,I1,J1,K1⟩ (h:=?_)));simp only [zl];refine oG 9 (fun K hK=> ?_);go_simp;have bg:Fr Non v1 (v1.alloc (.cells zO 55)):=(Fr.refl _ _).alloc _;have av:=Blk.new v1 55 zO;have F2:=F1.trans bg zr;obtain ⟨P2,I2,J2,K2⟩:=zk4 F2 P0 I0 J0 K0;have G2:=aj.trans F2 zr;obtain ⟨qb,a2⟩:=Aa v1.heap.size;rw [a2.out] at av ⊢;have ce:w4.heap.size<=qb:=by rw [<- a2.out];exact F1.size
   refine hK.out _ _ ⟨P2,I2,J2,K2⟩ (fun hZ=> ?_);clear hZ hK K;try simp only [Ai,zl]
   generalize v1.alloc (.cells zO 55)=v2 at*;have bq:=Cl (P:=zp) qb 55 (cs:=y2.cells) aa (old:=zO) rfl (Ek y2);refine oG 10 (fun K hK=> ?_);go_simp;have F3:Fr Non w4 (v2.setRow qb y2.cells):=F2.setRow (fun hh=>absurd hh (by omega)) _;obtain ⟨P3,I3,J3,K3⟩:=zk4 F3 P0 I0 J0 K0;have G3:=aj.trans F3 zr;refine hK.out _ _ ⟨P3,I3,J3,K3⟩ (fun hZ=> ?_);clear hZ hK K;try simp only [Ai,zl]
   refine tkH 11 ⟨P3,I3,J3,K3⟩ (h:=?_);simp only [zl];refine oD ?_;go_simp;go_wp2_with fail;go_meet;exact ⟨qb,is,rfl,rfl,ai,F3⟩
  ·
   have F0:Fr Non w4 w4:=Fr.refl Non w4;have G0:=aj;go_simp;have ar:Fr Non w4 ((w4.alloc (.cells zO 55)).drew):=(((Fr.refl Non w4).alloc (.cells zO 55)).drew:Fr Non w4 _);have az:=(Blk.new w4 55 zO).drew;have F1:=F0.trans ar zr;obtain ⟨P1,I1,J1,K1⟩:=zk4 F1 P0 I0 J0 K0;have G1:=aj.trans F1 zr;obtain ⟨qb,a2⟩:=Aa w4.heap.size;rw [a2.out] at az ⊢;have ce:w4.heap.size<=qb:=by rw [<- a2.out];exact At8 _
   refine hK.out _ _ ⟨P1,I1,J1,K1⟩ (fun hZ=> ?_);clear hZ hK K;try simp only [Ai,zl]
   generalize (w4.alloc (.cells zO 55)).drew=v1 at*;refine oG 5 (fun K hK=> ?_);go_simp;go_wp2_with (go_at_call 41;(with_reducible refine (kO.out _ G1).mono ?_);rintro _ v2 ⟨y2,is,rfl,ai,_,_,bg⟩;have F2:=F1.trans bg zr;obtain ⟨P2,I2,J2,K2⟩:=zk4 F2 P0 I0 J0 K0;have G2:=aj.trans F2 zr;have av:=az.fr bg zq);refine hK.out _ _ ⟨P2,I2,J2,K2⟩ (fun hZ=> ?_);clear hZ hK K;try simp only [Ai,zl]
   refine tkH 6 ⟨P2,I2,J2,K2⟩ (h:=tkH 7 ⟨P2,I2,J2,K2⟩ (h:=tkH 8 ⟨P2,I2,J2,K2⟩ (h:=?_)));simp only [zl];have bq:=Cl (P:=zp) qb 55 (cs:=y2.cells) aa (old:=zO) rfl (Ek y2);refine oG 10 (fun K hK=> ?_);go_simp;have F3:Fr Non w4 (v2.setRow qb y2.cells):=F2.setRow (fun hh=>absurd hh (by omega)) _;obtain ⟨P3,I3,J3,K3⟩:=zk4 F3 P0 I0 J0 K0;have G3:=aj.trans F3 zr;refine hK.out _ _ ⟨P3,I3,J3,K3⟩ (fun hZ=> ?_);clear hZ hK K;try simp only [Ai,zl]
   refine tkH 11 ⟨P3,I3,J3,K3⟩ (h:=?_);simp only [zl];refine oD ?_;go_simp;go_wp2_with fail;go_meet;exact ⟨qb,is,rfl,rfl,ai,F3⟩
 case rest=>
 obtain ⟨qb,is,rfl,rfl,ai,fc⟩:=hcut;generalize wc=w5 at*;have cd:=bc.trans fc zr;have bf:=aj.trans fc zr;have bj:=lh (kC.out ib w5 bf (bi.fr fc zq));obtain ⟨V5,P5⟩:=zk2 fc V4 P4;have b8:=b1.fr fc zq;clear kO kC bi i0 i1 i2 P4 V4 b1 bx fc
 cases is
 case true=>
  have hd:=lh (ab.out 5 r.st r w5 (Tk (.inl (by rw [aq];exact ai.out))) (h.out.still bf) rfl);clear ab ai kL kA bj;go_wp2_with fail;exact hd.out
 case false=>
 cases WB
 case true=>
  have hd:=lh (fun (w':World) (hf:Fr Non w w')=>ab.out 5 r.st r w' (Tk (.inr (by rw [aq];exact ag.out))) (h.out.still hf) rfl);clear ab ai kL kA;go_wp2_with (go_at_call 53;(with_reducible refine (bj.out).mono ?_);rintro _ w6 ⟨rfl,f6⟩);exact hd.out _ (bf.trans f6 zr)
 case false=>
 have ah:=lh (Ao0 (cards:=r.g.cards) (m:=r.g.pns) (ws:=r.ws.map OpL.op) (o:=o) (by rw [aq];exact ai.out) (by rw [aq];exact ag.out));go_upto_region 8 with (go_at_call 53;(with_reducible refine (bj.out).mono ?_);rintro _ w6 ⟨rfl,f6⟩)
 have b3:=cd.trans f6 zr;have ca:=bf.trans f6 zr;have P0:=f6.cell P5 zq;have X0:=b8.fr f6 zq;have V0:=f6.cell V5 zq;have F0:Fr Non w6 w6.drew:=(Fr.refl Non w6).drew;have G0:Fr Non w2 w6.drew:=b3.drew;clear bj ai ag P5 V5 b8;refine wp_region_held_drew (S:=fun w'=>w'.cell? ⟨rb,0,none⟩=some (.pointer (some ⟨gb,0,none⟩))/\Blk w' ob 55 XC/\cS w' rb 1 r.A N r.c) (by kernel_rfl) ⟨P0,X0,V0⟩ (fun hHeld=> ?_);clear hHeld;have uu:=aI P0 (aI X0 V0);refine tkH 0 uu (h:=tkH 1 uu (h:=tkH 2 uu (h:=tkH 3 uu (h:=tkH 4 uu (h:=?_)))));clear uu;simp only [zl];refine oG 5 (fun K hK=> ?_);go_simp;go_wp2_with (go_at_call 31;(with_reducible refine (kL.out _ G0).mono ?_);rintro _ v1 ⟨AL,cL,rfl,_,ar⟩;have F1:=F0.trans ar zr;have P1:=F1.cell P0 zq;have X1:=X0.fr F1 zq;have V1:=F1.cell V0 zq;have G1:=b3.trans F1 zr);refine hK.out _ _ ⟨P1,X1,V1⟩ (fun hZ=> ?_);clear hZ hK K;try simp only [Ai,zl]
 refine tkH 6 ⟨P1,X1,V1⟩ (h:=tkH 7 ⟨P1,X1,V1⟩ (h:=?_));simp only [zl];refine oD ?_;go_simp;have H1:=ca.trans F1 zr;generalize v1=w7 at*;clear P0 X0 V0 F0 G0 F1 ar kL
 by_cases hL0:LN=0
 case neg=>
  have t0:decide ((LN:Int)>0)=true:=decide_eq_true (by omega);have cm:decide (0<LN)=true:=decide_eq_true (by omega);have hr:ready r.g.pns o=false:=by rw [ap.out];exact decide_eq_false hL0
  have ad:Hid (Az r.g.cards r.st o=if 200<=N then (3,r.st) else (0,(r.g.pns,r.ws.map OpL.op++[o]))):=by
   show _=_;rw [<- hN.out];have:=ah.out;rw [if_pos hr,At9] at this;exact this
  clear ah kA ap
  by_cases hfull:200<=N
  case pos=>
   have t1:decide ((N:Int)>=200)=true:=decide_eq_true (by omega);have cf:decide (200<=N)=true:=decide_eq_true hfull;have hd:=lh (ab.out 3 r.st r w7 (by rw [ad.out,if_pos hfull]) (h.out.still H1) rfl);clear ab ad;go_wp2_with fail;exact hd.out
  case neg=>
  have t1:decide ((N:Int)>=200)=false:=decide_eq_false (by omega);have cf:decide (200<=N)=false:=decide_eq_false hfull;have ck:decide ((200:Int)<=(N:Int))=false:=decide_eq_false (by omega);have a9:=lh (fun (w':World) (hf:Fr Non w w')=>h.out.non hf);have al:Ab r.A≠some rb:=by rw [<- af.out];exact h.out.row.ne h.out.blk (by decide)
  have bh:=b0.out;have cb:Own w7 base 55 27 r.A N r.c (r.ws.flatMap (fun x=>x.cells.toList)):=bh.1.fr G1 zr
  have a8:Ab r.A≠some ob:=fun e=>by
   have h9:=(h.out.row.row ob e).2;have h7:=ak.out;omega
  have cc:x.own w7 base:=bh.2.1.non G1;have a5:Hid (x.op=o):=bh.2.2.1;have bp:Hid o.ok:=bh.2.2.2;go_upto_region 11 with (fail)
  have X0:=X1;have V0:=V1;have F0:Fr Non w7 w7.drew:=(Fr.refl Non w7).drew;clear P1 X1 V1;refine Dn (S:=fun w'=>cS w' rb 1 r.A N r.c/\Blk w' ob 55 XC) 10 (by kernel_rfl) ?_;have uu:=aI V0 X0;refine tkG 0 uu (h:=tkG 1 uu (h:=tkG 2 uu (h:=tkG 3 uu (h:=tkG 4 uu (h:=tkG 5 uu (h:=?_))))));clear uu;simp only [zl];refine Bs 6 (by kernel_rfl) rfl (fun K hK=> ?_);go_simp;have b5:=(Blk.new w7 55 XC).drew;have F1:Fr Non w7 (w7.alloc (.cells XC 55)).drew:=((Fr.refl Non w7).alloc _).drew;obtain ⟨nb,bs⟩:=Aa w7.heap.size;rw [bs.out] at b5 ⊢;generalize (w7.alloc (.cells XC 55)).drew=v1 at*;have V1:=F1.cell V0 zq;have X1:=X0.fr F1 zq;refine hK.out _ _ ⟨V1,X1⟩ (fun hZ=> ?_);clear hZ hK K;try simp only [Ai,zl]
  have ac:=a9.out v1 (H1.trans F1 zr);have bt:Rd v1 v1.heap.size 27 (some ⟨nb,0,none⟩) 1 XC.toList:=Rd.blk (by simpa using b5) (by simp [a7]);have ch:base<=v1.heap.size:=by have h9:=ac.rbase;have h8:=ac.blk.lt;omega
  refine Bs 7 (by kernel_rfl) rfl (fun K hK=> ?_);refine Eu (base:=base) (.tmp 57) (.tmp 59) 24 rfl rfl rfl slOp (cb.fr F1 zr) bt aw (by omega) (by omega) ch ?_;intro A9 c9 v2 ao ba a4;have V2:=ba.cell V1 al;have X2:=X1.fr ba a8;have b2:=ac.blk.fr ba (by rw [af.out];exact al);rw [af.out] at b2;have z2:=b2.frozen 1;refine hK.out _ _ ⟨V2,X2⟩ (fun hZ=> ?_);clear hZ hK K;try simp only [Ai,zl]
  refine Bs 8 (by kernel_rfl) rfl (fun K hK=> ?_);go_simp;refine hK.out _ _ ⟨V2,X2⟩ (fun hZ=> ?_);clear hZ hK K;try simp only [Ai,zl]
  refine tkG 9 ⟨V2,X2⟩ (h:=?_);simp only [zl];refine De (by kernel_rfl) ?_;refine oG 10 (fun K hK=> ?_);go_simp;refine hK.out _ _ trivial (fun hZ=> ?_);clear hZ hK K;try simp only [Ai,zl]
  refine oD ?_;go_simp;rw [<- b6.out] at ao;have bu:=ac.longer hN (by omega) (cc.non F1) (by rw [a5.out];exact bp.out) ao ba a4;rw [af.out] at bu;have hd:=lh (ab.out 0 _ _ _ (by rw [ad.out,if_neg hfull]) ((h.out.still (H1.trans F1 zr)).trans bu) (by show (r.g.pns,(r.ws++[x]).map OpL.op)=_;rw [Au4,List.map_cons,List.map_nil,a5.out]));clear ab ad bu ao ba a4 a9 ac;go_wp2_with fail;exact hd.out
 case pos=>
  subst hL0;have hr:ready r.g.pns o=true:=by rw [ap.out];rfl
  have ad:Hid (Az r.g.cards r.st o=if Aj r.g.cards r.g.pns o≠0 then (Aj r.g.cards r.g.pns o,r.st) else (0,Bu r.g.cards r.ws.length (r.g.pns++[Ak r.g.pns o]) (r.ws.map OpL.op))):=by
   show _=_;have:=ah.out;rw [hr,if_neg (by decide),At9] at this;exact this
  have ay:Hid (r.okAt w7 base):=h.out.non H1;have bv:Hid (KindsAt w7):=hk.out.fr H1;obtain ⟨E,hE⟩:=Aa (Aj r.g.cards r.g.pns o);rw [hE.out] at kA ad;clear ah ap b0 hE;go_upto_region 13 with (fail)
  have X0:=X1;have P0:=P1;have F0:Fr Non w7 w7.drew:=(Fr.refl Non w7).drew;have cl:Hid (Ad.Step base r r w w7.drew):=h.out.still (H1.trans F0 zr);clear P1 X1 V1;refine wp_region_held_drew (S:=fun w'=>w'.cell? ⟨rb,0,none⟩=some (.pointer (some ⟨gb,0,none⟩))/\Blk w' ob 55 XC) (by kernel_rfl) ⟨P0,X0⟩ (fun hHeld=> ?_);clear hHeld;have uu:=aI P0 X0;refine tkH 0 uu (h:=tkH 1 uu (h:=tkH 2 uu (h:=tkH 3 uu (h:=tkH 4 uu (h:=?_)))));clear uu;simp only [zl];refine oG 5 (fun K hK=> ?_);go_simp;go_wp2_with (go_at_call 24;(with_reducible refine (kA.out _ (G1.trans F0 zr)).mono ?_);rintro _ v1 ⟨rfl,r3,ae,a6,a1,bl⟩);have P1:v1.cell? ⟨rb,0,none⟩=some (.pointer (some ⟨gb,0,none⟩)):=by have h9:=ae.out.ok.blk.cell 0;rwa [ae.out.rb,ae.out.gb,af.out,bd.out] at h9
  have X1:=bl ob XC X0;refine hK.out _ _ ⟨P1,X1⟩ (fun hZ=> ?_);clear hZ hK K;try simp only [Ai,zl]
  refine tkH 6 ⟨P1,X1⟩ (h:=?_);simp only [zl];refine oD ?_;go_simp;have be:Hid (Ad.Step base r r3 w v1):=cl.out.trans ae.out;have bm:Hid (r3.rb=rb):=ae.out.rb.trans af.out
  by_cases e0:E=0
  case neg=>
   have t1:(E !=0)=true:=by simp [e0]
   have hd:=lh (ab.out E r.st r3 v1 (by rw [ad.out,if_pos e0]) be.out (by show (r3.g.pns,r3.ws.map OpL.op)=_;rw [a1.out,if_neg e0,a6.out];rfl));clear ab ad kA ae be bl;go_wp2_with fail;exact hd.out
  case pos=>
  subst e0;have kg:=lh (An7 base r3 v1 ae.out.ok (KindsAt.rel (bv.out.fr F0) (ay.out.non F0) ae.out.fr));unfold Ki at kg;rw [bm.out] at kg;have hd:=lh (fun (w':World) (r4:Ad) (h4:Ad.Step base r3 r4 v1 w') (e4:r4.st=Bu r3.g.cards r3.ws.length r3.g.pns (r3.ws.map OpL.op))=>ab.out 0 _ r4 w' (by rw [ad.out,if_neg (by simp)]) (be.out.trans h4) (by rw [e4,ae.out.cards,a1.out,if_pos rfl,a6.out]));clear ab ad kA ae be bl ay bv;go_wp2_with (go_at_call 55;(with_reducible refine (kg.out).mono ?_);rintro _ w9 ⟨rfl,r4,h4,e4⟩);exact hd.out w9 r4 h4.out e4.out
end Oq
namespace Oq
attribute [local go_sem] At1 At2
def Fa (cs:List Cd) (w:World) (e:Ending) (w':World):Prop:=
 ∃r:Ad,e=.returned (.pointer (some ⟨r.rb,0,none⟩))/\Hid (r.okAt w' w.heap.size)/\Hid (r.st=([],[]))/\Hid (r.g.cards=cs)/\Fr Non w w'
theorem Nf (B n c:Nat) (A:Option Addr) (l:List Int) (w:World) (hn:Hid (l.length=n)) (hnm:n<=1000) (hr:Rd w B 5 A n ((As 0 l).flatMap Cd.cells)) (hpos:0<w.heap.size):
  Calls zp 19 #[.slice A n c] w (Fa (As 0 l) w):=by
 have kn:=lh (Sp B n c A l w hn hnm hr hpos);unfold Gf at kn
 have hfin:Hid (∀(w1:World) (g:Gph),GAt w1 w.heap.size g->g.nodes=[]->g.cards=As 0 l->Fr Non w w1->Fa (As 0 l) w (.returned (.pointer (some ⟨w1.heap.size,0,none⟩))) (w1.alloc (.cells #[.pointer (some ⟨g.gb,0,none⟩),.slice none 0 0] 92))):=by
  intro w1 g hg hgn hgc hf;have f1:Fr Non w1 (w1.alloc (.cells #[.pointer (some ⟨g.gb,0,none⟩),.slice none 0 0] 92)):=(Fr.refl Non w1).alloc _;refine ⟨⟨w1.heap.size,g,none,0,[]⟩,rfl,⟨Blk.new w1 _ _,hf.size,hg.fr f1,Own.nil _ _ _ _,fun x hx=>absurd hx At3,Au5 _⟩,?_,hgc,hf.trans f1 zr⟩;show (g.pns,_)=_;unfold Gph.pns;rw [hgn];rfl
 generalize Fa (As 0 l) w=POST at*;clear hr hn hnm hpos;go_enter func19,ntmps19;go_wp2_with (go_at_call 20;(with_reducible refine (kn.out).mono ?_);rintro _ w1 ⟨g,rfl,hg,hgn,hgc,f1⟩;(have hd:=lh (hfin.out w1 g hg hgn hgc f1)));exact hd.out
theorem Kj (base:Nat) (r:Ad) (w:World) (h:r.okAt w base):
  Calls zp 13 #[.pointer (some ⟨r.rb,0,none⟩)] w (fun e w'=>e=.returned (.int .i64 (r.ws.length:Int))/\Fr Non w w'):=by
 have c1:cS w r.rb 1 r.A r.ws.length r.c:=h.blk.cell 1;clear h;generalize r.ws.length=n at*;generalize r.rb=rb at*;go_enter func13,ntmps13;go_wp2
 go_ret
 exact ⟨rfl,Fr.refl _ _⟩
theorem Ng (base:Nat) (r:Ad) (w:World) (h:r.okAt w base):
  Calls zp 15 #[.pointer (some ⟨r.rb,0,none⟩)] w (Ez (Ao (r.g.pns.map Pn.id)) w):=by
 have c0:w.cell? ⟨r.rb,0,none⟩=some (.pointer (some ⟨r.g.gb,0,none⟩)):=h.blk.cell 0
 have ka:Hid (Calls zp 25 #[.pointer (some ⟨r.g.gb,0,none⟩)] w (Ez (Ao (r.g.pns.map Pn.id)) w)):=by
  refine (R7 base r.g w Mp h.graph).mono ?_;rintro e w'' ⟨A5,c5,out,rfl,hp,hs,o5,f5⟩;obtain rfl:=Ll hs (Sq rfl hp);exact ⟨A5,c5,rfl,o5,f5⟩
 generalize Ao (r.g.pns.map Pn.id)=IS at*;have hfin:Hid (∀A c w',Own w' w.heap.size 48 3 A IS.length c (IS.flatMap Id.cells)->Fr Non w w'->Ez IS w (.returned (.slice A IS.length c)) w'):=fun A c w' h1 h2=>⟨A,c,rfl,h1,h2⟩;unfold Ez at ka;clear h;generalize Ez IS w=POST at*;generalize r.g.gb=gb at*;generalize r.rb=rb at*;go_enter func15,ntmps15;go_wp2_with (go_at_call 25;(with_reducible refine (ka.out).mono ?_);rintro _ w1 ⟨A5,c5,rfl,o5,f5⟩;(have hd:=lh (hfin.out A5 c5 w1 o5 f5)));exact hd.out
end Oq
section
open Go.RowKit Go.Maps Go.WideElems
open Go.ChangeMaps (modify_eq_set)
namespace Oq
abbrev FkG (f:Int × Int):Value:=.agg #[.int .i64 f.1,.int .i64 f.2]
def LeastAt (w:World) (b m:Nat) (f:Int->Option Int):Prop:=
 ∃(n:Nat) (D:DataW Nat),w.ownsMap zp 3 (plainElem zp 3) b n D/\n<=m/\IsMap D/\∀x,has D (.int .i64 x)=(f x).isSome/\∀i,f x=some i->∀z,D.atKey (.int .i64 x) z=.lit (.int .i64 i)
theorem LeastAt.made (w:World):LeastAt (w.alloc (.map #[] 0)) w.heap.size 0 (fun _=>none):=
 ⟨0,.map [],World.ownsMap_made w _ _ _,At8 _,isMap_empty,fun x=>⟨rfl,fun i h=>by cases h⟩⟩
theorem LeastAt.fr {S:Nat->Prop} {w w':World} {b m:Nat} {f:Int->Option Int} (h:LeastAt w b m f) (hf:Fr S w w') (hb:¬S b):LeastAt w' b m f:=by
 obtain ⟨n,D,ho,hn,rest⟩:=h;obtain ⟨es,clock,hbl,r2⟩:=ho;exact ⟨n,D,⟨es,clock,(hf.block b (Array.getElem?_eq_some_iff.1 hbl).1 hb).trans hbl,r2⟩,hn,rest⟩
theorem LeastAt.lt {w:World} {b m:Nat} {f:Int->Option Int} (h:LeastAt w b m f):b<w.heap.size:=by
 obtain ⟨n,D,ho,_⟩:=h;exact ho.lt
theorem LeastAt.congr {w:World} {b m:Nat} {f g:Int->Option Int} (h:LeastAt w b m f) (hg:∀x,g x=f x):LeastAt w b m g:=by
 obtain ⟨n,D,ho,hn,hm,hs⟩:=h;exact ⟨n,D,ho,hn,hm,fun x=>by rw [hg x];exact hs x⟩
end Oq
end
namespace Oq
attribute [local go_sem] At1 At2
end Oq
end Go.Proofs.YtgbdljlapmjmnaaGreatDoor
namespace Go.Proofs
open Go.Shelf Go.RowKit Go.Lib Go.Sort
end Go.Proofs
namespace Go.Proofs.YtgbdljlapmjmnaaGreatDoor
open Go.RowKit
attribute [local go_sem ↓] Go.wp_at_zero Go.wp_at_succ
section
open Go.RowKit Go.Sort Go.Shelf
namespace Oq
end Oq
end
section
open Go.RowKit Go.Maps
namespace Oq
attribute [local go_sem] At1 At2
theorem Tl (p v:Value):Instr.storeAt 48 p v=stS 48 p v:=rfl
attribute [local go_sem ↓] Tl
theorem Ao1:(zp.info? 48).map (·.size)=some 3:=by kernel_rfl
theorem one3 (a b:Int) (u:Nat):(#[.int .i64 a,.int .i64 b,.int .u64 (u:Int)]:Array Value).all (·.oneCell')=true:=by simp [Value.oneCell']
def RF (f:Int->Option Int) (left:Lit->Bool) (xs:List (Int × Int)):Prop:=(xs.map Prod.fst).Nodup/\∀d i,(d,i)∈xs<->(f d=some i/\left (.int .i64 d)=false)
theorem RF.start {f:Int->Option Int} {left:Lit->Bool} (h:∀d,(f d).isSome=left (.int .i64 d)):RF f left []:=
 ⟨List.nodup_nil,fun d i=>⟨fun h=>absurd h At3,fun ⟨h1,h2⟩=>by rw [<- h d,h1] at h2;cases h2⟩⟩
theorem RF.step {f:Int->Option Int} {left:Lit->Bool} {xs:List (Int × Int)} (h:RF f left xs) {x c:Int} (hx:f x=some c) (hl:left (.int .i64 x)=true):RF f (fun z=>left z&& !z.sameKey (.int .i64 x)) (xs++[(x,c)]):=by
 have hs:∀d:Int,(Lit.int .i64 d).sameKey (.int .i64 x)=decide (d=x):=by
  intro d
  by_cases e:d=x
  ·
   subst e;rw [decide_eq_true rfl];exact WideAt.sameKey_self (by simp [WideAt.IsKeyLit])
  ·
   rw [decide_eq_false e];exact sameKey_ne (fun e2=>e (by injection e2))
 refine ⟨?_,fun d i=> ?_⟩
 ·
  rw [Au4];refine List.nodup_append.2 ⟨h.1,by simp,fun a ha b hb=> ?_⟩;obtain rfl:=List.mem_singleton.1 (show b∈[x] from hb);rintro rfl;obtain ⟨⟨d,i⟩,h1,rfl⟩:=List.mem_map.1 ha;have:=((h.2 d i).1 h1).2;rw [hl] at this
  cases this
 ·
  rw [List.mem_append,h.2 d i];dsimp only;rw [hs d]
  by_cases e:d=x
  ·
   subst e;rw [hl,decide_eq_true rfl];constructor
   ·
    rintro (⟨_,h2⟩|h2)
    · cases h2
    ·
     have:=List.mem_singleton.1 h2;injection this with _ e2
     subst e2;exact ⟨hx,rfl⟩
   ·
    rintro ⟨h1,_⟩;rw [hx] at h1;injection h1 with h1
    subst h1;exact .inr (List.mem_singleton.2 rfl)
  ·
   rw [decide_eq_false e];constructor
   ·
    rintro (⟨h1,h2⟩|h2)
    · exact ⟨h1,by rw [h2];rfl⟩
    ·
     have:=List.mem_singleton.1 h2;injection this with e2 _
     exact absurd e2 e
   ·
    rintro ⟨h1,h2⟩;exact .inl ⟨h1,by simpa using h2⟩
theorem RF.done {f:Int->Option Int} {left:Lit->Bool} {xs:List (Int × Int)} (h:RF f left xs) (hl:∀kl,left kl=false):∀d i,(d,i)∈xs<->f d=some i:=fun d i=>by
 rw [h.2 d i,hl];exact ⟨fun h=>h.1,fun h=>⟨h,rfl⟩⟩
theorem RF.few {f:Int->Option Int} {left:Lit->Bool} {xs:List (Int × Int)} (h:RF f left xs) (hd:∀d i,f d=some i->1<=d/\d<=12):xs.length<=12:=by
 have hs:∀d∈xs.map Prod.fst,d∈(List.range 12).map (fun (i:Nat)=>(i:Int)+1):=by
  intro d hm;obtain ⟨⟨d',i⟩,h1,rfl⟩:=List.mem_map.1 hm;have h2:=hd d' i ((h.2 d' i).1 h1).1;exact List.mem_map.2 ⟨(d'-1).toNat,List.mem_range.2 (by omega),by omega⟩
 have:=E8 h.1 hs;simpa using this
end Oq
end
namespace Oq
attribute [local go_sem] At1 At2
attribute [local go_sem ↓] E9 Be Ia Tl M6
theorem Tm (base B n c:Nat) (A:Option Addr) (r:FG) (x:OpL) (hs:List Nat) (w:World) (h:r.own w base) (hx:x.lies w base) (hb:base<=w.heap.size) (hok:x.op.ok) (hp:x.pastA=none/\x.pastC=0/\x.past=[]) (hdev:∃d:Nat,x.by_=(d:Int)/\d<=1000) (hat:0<=x.at_/\x.at_<=3)
    (hn:Hid (hs.length=n)) (hr:Rd w B 1 A n (hs.map Qv)) (hn3:n<=3) (hlt:∀p∈hs,p<r.l.length) (hin:plc r.l (Bj r.l x.op hs).name=none->Aj r.cards r.l (sgn (Bj r.l x.op hs))=0/\FkB (r.l++[Ak r.l (sgn (Bj r.l x.op hs))])):
    Calls zp 45 #[.agg r.cells,.agg x.cells,.slice A n c] w (Gi base r x.op hs w):=by
  have ed:=h.num.few;have hl:=B0 (P:=zp) w.heap.size 28 underlying28 rfl (cs:=r.cells) Cv
  have s0:Bq w (((w.alloc (.cells r.cells 28)).alloc (.cells x.cells 55)).alloc (.cells #[.slice none 0 0,.slice none 0 0,.slice none 0 0,.slice none 0 0] 28)) r.cells x x.sq x.at_ none 0 0 []:=by
    have f0:Fr Non w (((w.alloc (.cells r.cells 28)).alloc (.cells x.cells 55)).alloc (.cells #[.slice none 0 0,.slice none 0 0,.slice none 0 0,.slice none 0 0] 28)):=(((Fr.refl Non w).alloc _).alloc _).alloc _;have b1:=(Blk.new (w.alloc (.cells r.cells 28)) 55 x.cells).alloc (.cells #[.slice none 0 0,.slice none 0 0,.slice none 0 0,.slice none 0 0] 28);have b2:=Blk.new ((w.alloc (.cells r.cells 28)).alloc (.cells x.cells 55)) 28 #[.slice none 0 0,.slice none 0 0,.slice none 0 0,.slice none 0 0];rw [Au0] at b1;rw [Au0,Au0] at b2
    have ex:x.put x.sq x.at_ none 0 []=x:=by
      obtain ⟨h1,h2,h3⟩:=hp;unfold OpL.put;rw [<- h1,<- h2,<- h3]
    refine ⟨((Blk.new w 28 r.cells).alloc _).alloc _,by rw [ex];exact b1,b2,f0,by simp only [Au0];omega,Own.nil _ _ _ _,rfl⟩
  have kb:=lh (fun (v:World) (hf:Fr Non w v)=>Al5 base B n c r A hs v (h.non hf) hn (hr.fr hf zr) (by omega) hlt)
  have ag:Hid (∀p,p<r.l.length->∃(m:Pn) (b ab:Nat),r.l[p]? =some m/\r.lA=some ⟨b,ab,none⟩/\cI w b (ab+p*27) m.o.by_/\cI w b (ab+p*27+1) m.o.sq/\cI w b (ab+p*27+3) m.o.at_):=by
    intro i hi;obtain ⟨y,b,ab,_,h1,_,h3,_,h4⟩:=h.xAt (At4 hi);exact ⟨_,b,ab,At4 hi,h3,by rw [<- h1];exact h4 0 (by omega) _ rfl,by rw [<- h1];exact h4 1 (by omega) _ rfl,by rw [<- h1];exact h4 3 (by omega) _ rfl⟩
  have aj:Hid (∀p,p<r.l.length->∃(m:Pn) (b ab:Nat),r.l[p]? =some m/\r.iA=some ⟨b,ab,none⟩/\cI w b (ab+p*3) m.id.b/\cI w b (ab+p*3+1) m.id.s/\cU w b (ab+p*3+2) m.id.u):=fun p hp=>h.idAt hp;have b5:Hid (∀m∈r.l,1<=m.o.sq/\m.o.sq<=14):=fun m hm=>⟨h.num.s1 m hm,by have:=h.num.sq m hm;omega⟩;have bu:Hid (∀m∈r.l,m.o.at_<=42):=fun m hm=>by have:=h.num.at_ m hm;omega
  have bp:Hid (∀ys k p m,ys[k]? =some p->r.l[p]? =some m->Ck r.l x.by_ ys (k+1)=if m.o.by_=x.by_ then max (Ck r.l x.by_ ys k) (m.o.sq+1) else Ck r.l x.by_ ys k):=fun ys k p m h1 h2=>S6 h1 h2;have fe:Hid (∀ys k,1<=Ck r.l x.by_ ys k/\Ck r.l x.by_ ys k<=15):=fun ys k=>⟨M5 _ _ _ _,M4 (by omega) (fun p hp m hm _=>by have:=(b5.out m (At6 hm)).2;omega) k⟩;have er:Hid (∀ys,Ck r.l x.by_ ys 0=1):=fun _=>rfl;replace hlt:=lh hlt;go_enter func45,ntmps45;go_upto_region 1 with (fail)
  generalize ((w.alloc (.cells r.cells 28)).alloc (.cells x.cells 55)).alloc (.cells #[.slice none 0 0,.slice none 0 0,.slice none 0 0,.slice none 0 0] 28)=w0 at*;have z1:cI w0 (w.heap.size+1) 1 x.sq:=s0.b.cell 1;have z2:=s0.b.frozen 1;go_upto_region 2 with (fail)
  have s1:=s0.sq 1;generalize w0.setCell ⟨w.heap.size+1,1,none⟩ (.int .i64 1)=w1 at*;clear s0 z1 z2;have bg:=s1.g;have cz:=s1.sz;go_upto_region 3 with (go_at_call 89;(with_reducible refine (kb.out _ s1.f).mono ?_);rintro _ w2 ⟨ys,A7,c7,rfl,ce,cc,ac,f2⟩)
  replace ac:=Ie ac cz;have s2:=s1.non f2;clear s1 bg kb f2 cz;replace ce:=lh ce;replace cc:=lh cc;have g1:Hid (r.cells[1]? =some (.slice r.lA r.l.length r.lC)):=rfl;have g2:Hid (r.cells[2]? =some (.slice r.iA r.l.length r.iC)):=rfl;have g3:Hid (r.cells[3]? =some (.slice r.pA r.l.length r.pC)):=rfl;have a5:=lh (bp.out ys);have b9:=lh (fe.out ys);have cn:=lh (er.out ys)
  have ea:ys.length<=14:=by
    have:=E8 ce.out.1 (ys:=List.range r.l.length) (fun q hq=>List.mem_range.2 (cc.out q hq));simp at this;omega
  clear bp fe er;generalize hSQ:Ck r.l x.by_ ys=SQ at*;obtain ⟨M,hM⟩:=Aa ys.length;rw [hM.out] at ac ea ⊢;obtain ⟨N,hN⟩:=Aa r.l.length;rw [hN.out] at g1 g2 g3 ag aj ed hlt cc;obtain ⟨LA,db⟩:=Aa r.lA;rw [db.out] at g1 ag;obtain ⟨IA,cj⟩:=Aa r.iA;rw [cj.out] at g2 aj;obtain ⟨LC,eh⟩:=Aa r.lC;rw [eh.out] at g1;obtain ⟨IC,el⟩:=Aa r.iC;rw [el.out] at g2;go_wp2_with fail
  go_loopw [8] (fun v wr=>∃k:Nat,v=.int .i64 (k:Int)/\k<=M/\Bq w wr r.cells x (SQ k) x.at_ none 0 0 []/\Own wr (w.heap.size+3) 3 1 A7 M c7 (ys.map Qv)) (fun v _=>M-(intOf v).toNat)
  case atStart=>exact ⟨0,rfl,Au5 _,by rw [cn.out];exact s2,ac⟩
  case round=>
    obtain ⟨k,rfl,hk,s3,ax⟩:=hrel;clear s2 ac
    by_cases hkM:k<M
    · obtain ⟨p,ch⟩:∃p,ys[k]? =some p:=⟨_,At4 (by rw [hM.out];exact hkM)⟩
      have dk:=cc.out p (At6 ch);obtain ⟨m,b,ab,hm,rfl,c0,c1,c3⟩:=ag.out p dk;obtain ⟨b7,o7,u7,rfl,_,dd,d7⟩:=ax.rd.at hkM;rw [Au1,ch] at dd;injection dd with dd
      subst dd;replace d7:cI wr b7 (o7+k) (p:Int):=d7;have di:=lh (a5.out k p m ch hm);have fl:=b9.out k;have fs:=b5.out m (At6 hm);obtain ⟨i1,i2,i3⟩:=ix k M
      obtain ⟨p1,p2,p3⟩:=ix p N
      have t0:decide ((k:Int)<M)=true:=decide_eq_true i2;have en:decide (k<M)=true:=decide_eq_true hkM;have e1:=iw ((k:Int)+1);have e2:=iw (m.o.sq+1);go_upto_region 6 with (fail)
      have F0:Fr Non wr wr.drew:=(Fr.refl Non wr).drew;have f3:Fr Non w wr.drew:=s3.f.trans F0 zr;have H0:cS wr.drew w.heap.size 1 (some ⟨b,ab,none⟩) N LC:=(s3.g.cell 1).trans g1.out;have D0:cI wr.drew b7 (o7+k) (p:Int):=d7;have E0:cI wr.drew b (ab+p*27) m.o.by_:=f3.cell c0 zq;have X0:cI wr.drew (w.heap.size+1) 0 x.by_:=s3.b.cell 0;refine wp_region_held_drew (S:=fun w'=>cS w' w.heap.size 1 (some ⟨b,ab,none⟩) N LC/\cI w' b7 (o7+k) (p:Int)/\cI w' b (ab+p*27) m.o.by_/\cI w' (w.heap.size+1) 0 x.by_) (by kernel_rfl) ⟨H0,D0,E0,X0⟩ (fun hHeld=> ?_);clear hHeld;have uu:=aI H0 (aI D0 (aI E0 X0));refine tkH 0 uu (h:=tkH 1 uu (h:=tkH 2 uu (h:=tkH 3 uu (h:=tkH 4 uu (h:=tkH 5 uu (h:=tkH 6 uu (h:=tkH 7 uu (h:=tkH 8 uu (h:=tkH 9 uu (h:=tkH 10 uu (h:=tkH 11 uu (h:=?_))))))))))));clear uu;simp only [zl];refine oD ?_;go_simp;have s4:=s3.non F0;have af:=ax.drew;have fa:=f3.cell c1 zq;generalize wr.drew=w4 at*;clear H0 E0 X0 c0 c3 s3 ax f3 d7 ag aj
      by_cases hby:m.o.by_=x.by_
      · rw [if_pos hby] at di
        have t1:(m.o.by_==x.by_)=true:=beq_iff_eq.2 hby;clear ch hm;go_upto_region 7 with (fail)
        have H0:cS w4.drew w.heap.size 1 (some ⟨b,ab,none⟩) N LC:=(s4.g.cell 1).trans g1.out;replace D0:cI w4.drew b7 (o7+k) (p:Int):=D0;have E0:cI w4.drew b (ab+p*27+1) m.o.sq:=fa;have X0:cI w4.drew (w.heap.size+1) 1 (SQ k):=s4.b.cell 1;refine Dn (S:=fun w'=>cS w' w.heap.size 1 (some ⟨b,ab,none⟩) N LC/\cI w' b7 (o7+k) (p:Int)/\cI w' b (ab+p*27+1) m.o.sq/\cI w' (w.heap.size+1) 1 (SQ k)) 14 (by kernel_rfl) ?_;have uu:=aI H0 (aI D0 (aI E0 X0));refine tkG 0 uu (h:=tkG 1 uu (h:=tkG 2 uu (h:=tkG 3 uu (h:=tkG 4 uu (h:=tkG 5 uu (h:=tkG 6 uu (h:=tkG 7 uu (h:=tkG 8 uu (h:=tkG 9 uu (h:=tkG 10 uu (h:=tkG 11 uu (h:=?_))))))))))));clear uu;simp only [zl];refine tkG 12 ⟨H0,D0,E0,X0⟩ (h:=tkG 13 ⟨H0,D0,E0,X0⟩ (h:=?_));simp only [zl];have nz:=s4.b.frozen 1;refine De (by kernel_rfl) ?_;refine oG 14 (fun K hK=> ?_);go_simp;refine hK.out _ _ trivial (fun hZ=> ?_);clear hZ hK K;try simp only [Ai,zl]
        refine oD ?_;go_simp;have s5:=(s4.sq (max (SQ k) (m.o.sq+1))).non (Fr.refl Non _).drew;have bh:=(Own.setFar (i:=1) af s4.b (by decide) (.int .i64 (max (SQ k) (m.o.sq+1)))).drew;clear nz H0 D0 E0 X0 s4 af fa;generalize (w4.setCell ⟨w.heap.size+1,1,none⟩ (.int .i64 (max (SQ k) (m.o.sq+1)))).drew=w5 at*;go_wp2_with fail;go_roundw
        case rel=>exact ⟨k+1,by go_num,by omega,by rw [di.out];exact s5,bh⟩
        case measure=>simp [intOf];omega
      · rw [if_neg hby] at di
        have t1:(m.o.by_==x.by_)=false:=beq_eq_false_iff_ne.2 hby;clear ch hm;go_wp2_with fail;go_roundw
        case rel=>exact ⟨k+1,by go_num,by omega,by rw [di.out];exact s4,af⟩
        case measure=>simp [intOf];omega
    · obtain rfl:k=M:=by omega
      have t0:decide ((k:Int)<k)=false:=decide_eq_false (by omega);have en:decide (k<k)=false:=decide_eq_false (by omega)
      have du:Hid (SQ k=Av r.l (Ah r.l (hs.map (nmP r.l))) x.by_ r.l.length+1):=by
        show _=_;rw [<- hSQ,<- hM.out];exact Am1 h.rows (by rw [hN.out];omega) ce.out (by intro p hp;rw [hN.out];exact hlt.out p hp) _
      have ey:=b9.out k;obtain ⟨S,hS⟩:=Aa (SQ k);rw [hS.out] at du ey s3;clear a5 b9 cn hSQ;clear hS;have bl:Hid (late r.l ((hs.take 0).map (nmP r.l))=0):=rfl
      have bd:Hid (∀k p m,hs[k]? =some p->r.l[p]? =some m->late r.l ((hs.take (k+1)).map (nmP r.l))=max (late r.l ((hs.take k).map (nmP r.l))) m.o.at_):=by
        intro k p m hp hm;have h1:(hs.map (nmP r.l))[k]? =some (nmP r.l p):=by rw [Au1,hp];rfl
        have h2:=Qq r.l (hs.map (nmP r.l)) k h1;rw [List.map_take,List.map_take];rw [h2,Fy hm,Ht (h.rows.ok p m hm).plc hm]
      have bk:Hid (∀k p m,hs[k]? =some p->r.l[p]? =some m->(hs.take (k+1)).map (nmP r.l)=(hs.take k).map (nmP r.l)++[m.id]):=fun k p m hp hm=>by rw [Dd hp,Au4,List.map_cons,List.map_nil,Fy hm]
      have a3:Hid (∀k,0<=late r.l ((hs.take k).map (nmP r.l))/\late r.l ((hs.take k).map (nmP r.l))<=42):=fun k=>⟨S2 _ _,Qr r.l 42 (by omega) bu.out _⟩;have be:Hid ((hs.take 0).map (nmP r.l)=[]):=rfl;have ar:Hid (late r.l ((hs.take n).map (nmP r.l))=late r.l (hs.map (nmP r.l))):=by show _=_;rw [<- hn.out,Au7]
      have bc:Hid ((hs.take n).map (nmP r.l)=hs.map (nmP r.l)):=by show _=_;rw [<- hn.out,Au7]
      have ei:Hid (∀k,((hs.take k).map (nmP r.l)).length<=k):=fun k=>by rw [At9,List.length_take];omega
      obtain ⟨LT,cd⟩:∃LT:Nat->Int,Hid (∀k,LT k=late r.l ((hs.take k).map (nmP r.l))):=⟨_,fun _=>rfl⟩;obtain ⟨NM,cl⟩:∃NM:Nat->List Id,Hid (∀k,NM k=(hs.take k).map (nmP r.l)):=⟨_,fun _=>rfl⟩;replace a3:Hid (∀k,0<=LT k/\LT k<=42):=fun k=>by rw [cd.out];exact a3.out k
      replace bd:Hid (∀k p m,hs[k]? =some p->r.l[p]? =some m->LT (k+1)=max (LT k) m.o.at_):=fun k p m h1 h2=>by rw [cd.out,cd.out];exact bd.out k p m h1 h2
      replace bk:Hid (∀k p m,hs[k]? =some p->r.l[p]? =some m->NM (k+1)=NM k++[m.id]):=fun k p m h1 h2=>by rw [cl.out,cl.out];exact bk.out k p m h1 h2
      replace be:Hid (NM 0=[]):=(cl.out 0).trans be.out;replace bl:Hid (LT 0=0):=(cd.out 0).trans bl.out;replace ar:Hid (LT n=late r.l (hs.map (nmP r.l))):=(cd.out n).trans ar.out;replace bc:Hid (NM n=hs.map (nmP r.l)):=(cl.out n).trans bc.out;clear cd cl ei;generalize wr=wb at*;go_wp2_with fail
      go_loopw [9,10] (fun t v wr=>∃(j:Nat) (Ap:Option Addr) (cp:Nat),v=.int .i64 (j:Int)/\t=.int .i64 (LT j)/\j<=n/\Bq w wr r.cells x S x.at_ Ap j cp (NM j)/\Own wr (w.heap.size+3) 3 1 A7 k c7 (ys.map Qv)) (fun _ v _=>n-(intOf v).toNat)
      case atStart=>exact ⟨0,none,0,rfl,by rw [bl.out],Au5 _,by rw [be.out];exact s3,ax⟩
      case round=>
        obtain ⟨j,Ap,cp,rfl,rfl,hj,s4,af⟩:=hrel;clear s3 ax
        by_cases hjn:j<n
        · obtain ⟨p,cf⟩:∃p,hs[j]? =some p:=⟨_,At4 (by rw [hn.out];exact hjn)⟩
          have dk:=hlt.out p (At6 cf);obtain ⟨m,b,ab,hm,rfl,c0,c1,c3⟩:=ag.out p dk;obtain ⟨m',bi,oi,dh,rfl,d0,d1,d2⟩:=aj.out p dk;obtain rfl:m'=m:=by rw [hm] at dh;injection dh with dh;exact dh.symm
          obtain ⟨b4,o4,u4,rfl,_,dg,ci⟩:=hr.at hjn;rw [Au1,cf] at dg;injection dg with dg
          subst dg;replace ci:cI w b4 (o4+j) (p:Int):=ci;have d7:=s4.f.cell ci zq;have ft:=lh (bd.out j p m' cf hm);have e0:=lh (bk.out j p m' cf hm);have ej:=a3.out j;have fs:=bu.out m' (At6 hm);obtain ⟨i1,i2,i3⟩:=ix j n
          obtain ⟨p1,p2,p3⟩:=ix p N
          have t0:decide ((j:Int)<n)=true:=decide_eq_true i2;have en:decide (j<n)=true:=decide_eq_true hjn;have e1:=iw ((j:Int)+1);have f4:=s4.f;have cm:=s4.past.row;have e7:=s4.sz;have dr:=lh cf;clear cf hm c0 c1;go_upto_region 12 with (fail)
          have F0:Fr Non wr wr.drew:=(Fr.refl Non wr).drew;have Hb:cS wr w.heap.size 2 (some ⟨bi,oi,none⟩) N IC:=(s4.g.cell 2).trans g2.out;have Db:cI wr b4 (o4+j) (p:Int):=d7;obtain ⟨Ib,Jb,Kb⟩:=zk3 f4 d0 d1 d2;have Pb:wr.cell? ⟨w.heap.size+1,4,none⟩=some (.slice Ap j cp):=by have h9:=s4.b.cell 4;have h8:=s4.len;rw [<- h8];exact h9
          have H0:cS wr.drew w.heap.size 2 (some ⟨bi,oi,none⟩) N IC:=Hb;have D0:cI wr.drew b4 (o4+j) (p:Int):=Db;have I0:cI wr.drew bi (oi+p*3) m'.id.b:=Ib;have J0:cI wr.drew bi (oi+p*3+1) m'.id.s:=Jb;have K0:cU wr.drew bi (oi+p*3+2) m'.id.u:=Kb;have P0:cS wr.drew (w.heap.size+1) 4 Ap j cp:=Pb;clear d7 aj ag;refine Dn (S:=fun w'=>cS w' w.heap.size 2 (some ⟨bi,oi,none⟩) N IC/\cI w' b4 (o4+j) (p:Int)/\cI w' bi (oi+p*3) m'.id.b/\cI w' bi (oi+p*3+1) m'.id.s/\cU w' bi (oi+p*3+2) m'.id.u/\cS w' (w.heap.size+1) 4 Ap j cp) 13 (by kernel_rfl) ?_;have uu:=aI H0 (aI D0 (aI I0 (aI J0 (aI K0 P0))));refine tkG 0 uu (h:=tkG 1 uu (h:=tkG 2 uu (h:=tkG 3 uu (h:=tkG 4 uu (h:=tkG 5 uu (h:=tkG 6 uu (h:=tkG 7 uu (h:=tkG 8 uu (h:=tkG 9 uu (h:=?_))))))))));clear uu;simp only [zl];refine Bs 10 (by kernel_rfl) rfl (fun K hK=> ?_);go_simp;have au:=(Blk.new wr 48 m'.id.V).drew;have F1:Fr Non wr (wr.alloc (.cells m'.id.V 48)).drew:=((Fr.refl _ _).alloc _).drew;generalize (wr.alloc (.cells m'.id.V 48)).drew=v1 at*;obtain ⟨H1,D1,I1,J1,K1,P1⟩:=zk6 F1 Hb Db Ib Jb Kb Pb;refine hK.out _ _ ⟨H1,D1,I1,J1,K1,P1⟩ (fun hZ=> ?_);clear hZ hK K;try simp only [Ai,zl]
          have s5:=s4.non F1;refine Bs 11 (by kernel_rfl) rfl (fun K hK=> ?_);refine Eu (base:=w.heap.size+3) (.tmp 55) (.tmp 64) 25 rfl rfl rfl Di s5.past (Rd.blk (n:=1) (size:=3) au rfl) (by simp [Value.oneCell']) (by omega) (by omega) (As9 e7 F1.size) ?_;intro A8 c8 v2 a4 bo d6;have fS:∀q,Ab Ap=some q->w.heap.size+3<=q:=fun q e=>(cm q e).1;have f8:Fr Non w v2:=s5.f.trans bo (fun q hq e=>by have h9:=fS q e;omega);have H2:=(s5.g.fr bo (fun e=>by have h9:=fS _ e;omega)).cell 2|>.trans g2.out;obtain ⟨D2,I2,J2,K2⟩:=zk4 f8 ci d0 d1 d2;have P2:v2.cell? ⟨w.heap.size+1,4,none⟩=some (.slice Ap j cp):=by have h9:=(s5.b.fr bo (fun e=>by have h9:=fS _ e;omega)).cell 4;have h8:=s5.len;rw [<- h8];exact h9
          refine hK.out _ _ ⟨H2,D2,I2,J2,K2,P2⟩ (fun hZ=> ?_);clear hZ hK K;try simp only [Ai,zl]
          refine tkG 12 ⟨H2,D2,I2,J2,K2,P2⟩ (h:=?_);simp only [zl];have nz:=(s5.b.fr bo (fun e=>by have h9:=fS _ e;omega)).frozen 4;refine De (by kernel_rfl) ?_;refine oG 13 (fun K hK=> ?_);go_simp;refine hK.out _ _ trivial (fun hZ=> ?_);clear hZ hK K;try simp only [Ai,zl]
          refine oD ?_;go_simp
          have co:Own v2 (w.heap.size+3) 48 3 A8 (j+1) c8 ((NM (j+1)).flatMap Id.cells):=by
            rw [e0.out,List.flatMap_append];exact a4
          have s6:=s5.past! bo fS co (by rw [e0.out,At7,s5.len];rfl);have a6:=Own.setFar (i:=4) (Own.grow2 (af.fr F1 zr) s5.past (by decide) bo) (s5.b.fr bo (fun e=>by have h9:=fS _ e;omega)) (by decide) (.slice A8 (j+1) c8);clear s5 s4 af a4 co bo d6 au F0 F1 f8 f4 fS cm nz Hb Db Ib Jb Kb Pb H0 D0 I0 J0 K0 P0 H1 D1 I1 J1 K1 P1 H2 D2 I2 J2 K2 P2 d0 d1 d2 ci e7;generalize v2.setCell ⟨w.heap.size+1,4,none⟩ (.slice A8 (j+1) c8)=v6 at*;go_upto_region 13 with (fail)
          have F0:Fr Non v6 v6.drew:=(Fr.refl Non v6).drew;have f6:=s6.f;obtain ⟨b8,o8,u8,e8,_,df,d7⟩:=(hr.fr f6 zr).at hjn;injection e8 with e8
          injection e8 with e8 e9
          subst e8;subst e9;rw [Au1,dr.out] at df;injection df with df
          subst df;have H0:cS v6.drew w.heap.size 1 (some ⟨b,ab,none⟩) N LC:=(s6.g.cell 1).trans g1.out;have D0:cI v6.drew b4 (o4+j) (p:Int):=d7;have E0:cI v6.drew b (ab+p*27+3) m'.o.at_:=f6.cell c3 zq;refine wp_region_held_drew (S:=fun w'=>cS w' w.heap.size 1 (some ⟨b,ab,none⟩) N LC/\cI w' b4 (o4+j) (p:Int)/\cI w' b (ab+p*27+3) m'.o.at_) (by kernel_rfl) ⟨H0,D0,E0⟩ (fun hHeld=> ?_);clear hHeld;have uu:=aI H0 (aI D0 E0);refine tkH 0 uu (h:=tkH 1 uu (h:=tkH 2 uu (h:=tkH 3 uu (h:=tkH 4 uu (h:=tkH 5 uu (h:=tkH 6 uu (h:=tkH 7 uu (h:=tkH 8 uu (h:=tkH 9 uu (h:=tkH 10 uu (h:=tkH 11 uu (h:=?_))))))))))));clear uu;simp only [zl];refine oD ?_;go_simp;have s7:=s6.non F0;have ac:=a6.drew;clear s6 a6 F0 f6 H0 D0 E0 c3 d7;generalize v6.drew=v7 at*;go_wp2_with fail;go_roundw
          case rel=>exact ⟨j+1,A8,c8,by go_num,by rw [ft.out],by omega,s7,ac⟩
          case measure=>simp [intOf];omega
        · obtain rfl:j=n:=by omega
          have t0:decide ((j:Int)<j)=false:=decide_eq_false (by omega);have en:decide (j<j)=false:=decide_eq_false (by omega);clear bd bk be bl ag aj;have ej:=a3.out j;obtain ⟨T,hT⟩:=Aa (LT j);rw [hT.out] at ar ej ⊢;rw [bc.out] at s4;have e1:=iw (x.at_+T);have z3:cI wr (w.heap.size+1) 3 x.at_:=s4.b.cell 3;have zf:=s4.b.frozen 3;go_upto_region 15 with (fail)
          have s5:=s4.at_ (x.at_+T);have bh:=Own.setFar (i:=3) af s4.b (by decide) (.int .i64 (x.at_+T));clear s4 af z3 zf a3 bc hT;generalize wr.setCell ⟨w.heap.size+1,3,none⟩ (.int .i64 (x.at_+T))=v1 at*;have ba:Hid ((hs.map (nmP r.l)).length=j):=by show _=_;rw [At9,hn.out]
          have ks:=lh (Xd v1.heap.size j cp Ap (hs.map (nmP r.l)) v1 ba.out s5.past.rd (by omega));have z4:v1.cell? ⟨w.heap.size+1,4,none⟩=some (.slice Ap j cp):=by have h9:=s5.b.cell 4;have h8:=s5.len;rw [<- h8];exact h9
          have b1:=s5.b;have de:=s5.sz;go_upto_region 16 with (go_at_call 16;(with_reducible refine (ks.out).mono ?_);rintro _ v2 ⟨A9,c9,rfl,o9,f9⟩;(have z5:=f9.cell z4 zq);(have zf:=(b1.fr f9 zq).frozen 4))
          have s6:=s5.past! f9 (fun _ e=>e.elim) (Ie o9 de) (by rw [H4];exact ba.out);have a6:=Own.setFar (i:=4) (bh.fr f9 zr) (b1.fr f9 zq) (by decide) (.slice A9 j c9);clear s5 bh ks z4 b1 de z5 zf o9 f9;generalize v2.setCell ⟨w.heap.size+1,4,none⟩ (.slice A9 j c9)=v3 at*
          have cr:Hid ((x.put S (x.at_+T) A9 c9 (Ao (hs.map (nmP r.l)))).op=Bj r.l x.op hs):=by
            show _=_;unfold Bj;show _=({x.op with sq:=Av r.l (Ah r.l (hs.map (nmP r.l))) x.by_ r.l.length+1,at_:=x.at_+late r.l (hs.map (nmP r.l)),past:=Ao (hs.map (nmP r.l))}:Op);rw [<- du.out,<- ar.out];rfl
          have bj:Hid ((x.put S (x.at_+T) A9 c9 (Ao (hs.map (nmP r.l)))).op.ok):={hok with sq:=(show I64 S from ⟨by omega,by omega⟩),at_:=(show I64 (x.at_+T) from ⟨by omega,by omega⟩),past:=⟨by
              show (Ao (hs.map (nmP r.l))).length<=1000;rw [H4,ba.out];omega,fun y hy=>by
              obtain ⟨p,hp,rfl⟩:=List.mem_map.1 ((Dk _).mem_iff.1 hy);have fd:p<r.l.length:=by rw [hN.out];exact hlt.out p hp
              rw [Fy (At4 fd)];exact (h.ok _ (Au8 fd)).2⟩}
          generalize hPS:hs.map (nmP r.l)=PS at*;have bb:Hid (∀(v:World) (CS:Array Value),Bq w v CS x S (x.at_+T) A9 j c9 (Ao PS)->(x.put S (x.at_+T) A9 c9 (Ao PS)).lies v base):=fun v _ s=>(hx.non s.f).put (by have h8:=s.len;have h9:=(RowAt.of_own s.past).lies.lower (base':=base) (by omega);rw [h8];exact h9);generalize hY:x.put S (x.at_+T) A9 c9 (Ao PS)=Y at*;obtain ⟨aa,ak⟩:=Aa (Bj r.l x.op hs).name;have d9:Y.op.name=aa:=by rw [cr.out,ak.out]
          have fg:=lh (Aj5 Y aa d9 v3 ((bb.out v3 _ s6).at) bj.out);have bv:(zp.info? 55).map (·.size)=some Y.cells.size:=by rw [show Y.cells.size=27 from rfl];kernel_rfl
          have fc:=B0 (P:=zp) (w.heap.size+1) 55 underlying55 rfl (cs:=Y.cells) bv;have bx:Blk v3 (w.heap.size+1) 55 Y.cells:=hY▸s6.b;go_upto_region 17 with (go_at_call 102;(with_reducible refine (fg.out).mono ?_);rintro _ v4 ⟨rfl,f4⟩;(have ek:=Cl (P:=zp) v4.heap.size 48 (cs:=aa.V) Ao1 (old:=#[.int .i64 0,.int .i64 0,.int .u64 0]) rfl (one3 _ _ _));(have bn:=Blk.new v4 48 #[.int .i64 0,.int .i64 0,.int .u64 0]))
          have bz:=bn.setRow (cs:=aa.V);have fz:Fr Non v4 ((v4.alloc (.cells #[.int .i64 0,.int .i64 0,.int .u64 0] 48)).setRow v4.heap.size aa.V):=((Fr.refl Non v4).alloc _).setRow (fun hh=>absurd hh (by omega)) _;have s7:=(s6.non f4).non fz;have ac:=(a6.fr f4 zr).fr fz zr;have da:w.heap.size+3<=v4.heap.size:=As9 s6.sz f4.size;obtain ⟨gi,fq⟩:=Aa v4.heap.size;rw [fq.out] at bz fz s7 ac da ⊢;clear ek bn bx fg f4 s6 a6;generalize (v4.alloc (.cells #[.int .i64 0,.int .i64 0,.int .u64 0] 48)).setRow gi aa.V=v5 at*;clear fz;have a0:=bz.cell 0;have a1:=bz.cell 1;have a2:=bz.cell 2;have fw:=(s7.g.cell 2).trans g2.out;have dl:=lh (h.rdIds.fr s7.f zr);rw [hN.out,cj.out] at dl;have bt:=lh (O2 w.heap.size N IC IA r.ids aa v5 (by show _=_;rw [FG.ids_len,hN.out]) dl.out (by omega));have fh:Cz r.ids aa=(plc r.l aa).isSome:=Am2 r.l aa;rw [fh] at bt;clear fh;unfold Ae at bt
          cases hc:(plc r.l aa).isSome
          case true=>
            rw [hc] at bt
            have ev:Ds r.l x.op hs=r.l:=by
              unfold Ds;rw [ak.out,if_pos hc]
            have fo:=Cl (P:=zp) (w.heap.size+2) 28 (cs:=r.cells) Cv (old:=#[.slice none 0 0,.slice none 0 0,.slice none 0 0,.slice none 0 0]) rfl (Gh r);have ct:Hid (∀v',Fr Non w v'->Gi base r x.op hs w (.returned (.agg r.cells)) v'):=fun v' hv=>⟨r,rfl,hv,h.non hv,rfl,ev.symm⟩;clear ev hin hx h fc bv cr bj bb d9 dl ac
            as_aux_lemma=>
            go_wp2_with (go_at_call 29;(with_reducible refine (bt.out).mono ?_);rintro _ v6 ⟨rfl,f6⟩;(have s8:=s7.non f6);(have bg:=s8.g);(have br:=s8.r));have dz:=br.setRow (cs:=r.cells);have fz:=s8.f.setRow (g:=w.heap.size+2) (fun hh=>absurd hh (by omega)) r.cells;have dm:=lh (ct.out _ fz)
            (try simp only [Exit.inBlock,Exit.then])
            refine C9 (t:=28) rfl rfl dz rfl underlying28 Cv rfl ?_;exact dm.out
          case false=>
            rw [hc] at bt
            have bm:plc r.l (Bj r.l x.op hs).name=none:=by
              rw [ak.out]
              cases hq:plc r.l aa with
              |none=>rfl
              |some q=>rw [hq] at hc;cases hc
            obtain ⟨cq,e3⟩:=hin bm;obtain ⟨d,fv,fp⟩:=hdev;have fn:Y.by_=(d:Int):=by rw [<- hY];exact fv
            have kS:=lh (fun (v:World) (hl:Y.lies v base)=>Am0 Y d base v fn fp hl bj.out)
            have bf:Hid (∀(z:OpL) (lA iA pA:Option Addr) (lC iC pC:Nat) (wz:World),Fr Non w wz->z.op=sgn Y.op->z.lies wz base->
                Own wz (w.heap.size+3) 55 27 lA (N+1) lC (r.xs.flatMap (fun x=>x.cells.toList)++z.cells.toList)->
                Own wz (w.heap.size+3) 48 3 iA (N+1) iC (r.ids.flatMap Id.cells++aa.V.toList)->
                Own wz (w.heap.size+3) 22 1 pA (N+1) pC (r.ps.map UpL.cell++[.slice A7 k c7])->
                Own wz (w.heap.size+3) 3 1 A7 k c7 (ys.map Qv)->
                Gi base r x.op hs w (.returned (.agg #[.slice r.cA r.cards.length r.cC,.slice lA (N+1) lC,.slice iA (N+1) iC,.slice pA (N+1) pC])) wz):=by
              intro z lA iA pA lC iC pC wz hf hz dc oL oI oU o7;refine Am6 h hb hf (by rw [hz,cr.out]) dc (by rw [<- cr.out];exact bj.out) ce.out (by intro p hp;rw [hN.out];exact hlt.out p hp) (by rw [ak.out];exact hc) cq e3 hN.out hM.out oL (by rw [ak.out];exact oI) oU o7
            have dv:=lh (h.ops.sl.rd);rw [hN.out,db.out] at dv;have dx:=lh h.rdIds;rw [hN.out,cj.out] at dx;have eb:=lh (h.pasts.sl.rd);rw [hN.out] at eb;have cy:=lh (Te r.xs);have b6:=lh (Id.cells_one r.ids);have ec:=lh (Am5 r.ps);have g0:Hid (r.cells[0]? =some (.slice r.cA r.cards.length r.cC)):=rfl
            have ew:Hid (r.cells=#[.slice r.cA r.cards.length r.cC,.slice LA N LC,.slice IA N IC,.slice r.pA N r.pC]):=by
              show _=_;unfold FG.cells;rw [hN.out,db.out,eh.out,cj.out,el.out]
            clear cq e3 hin hx h bv cr bm ak d9 dl db eh cj el du ej ar ba hPS hlt ce cc b5 bu hn hr hp hM hok ey;rw [ew.out] at s7 hl g1 g2 g3 g0;obtain ⟨CA,d4⟩:=Aa r.cA;obtain ⟨nc,dp⟩:=Aa r.cards.length;obtain ⟨CC,dy⟩:=Aa r.cC;obtain ⟨PA,em⟩:=Aa r.pA;obtain ⟨PC,ez⟩:=Aa r.pC;rw [d4.out,dp.out,dy.out,em.out,ez.out] at s7 hl g1 g2 g3 g0;rw [d4.out,dp.out,dy.out] at bf;rw [em.out] at eb;clear ew d4 dp dy em ez;generalize Gi base r x.op hs w=POST at*;generalize r.xs.flatMap (fun x=>x.cells.toList)=LL at*;generalize r.ids.flatMap Id.cells=IL at*;generalize r.ps.map UpL.cell=UL at*;go_upto_region 19 with (go_at_call 29;(with_reducible refine (bt.out).mono ?_);rintro _ v6 ⟨rfl,f6⟩)
            have s8:=s7.non f6;have a4:=ac.fr f6 zr;have e6:=bz.fr f6 zq;clear s7 ac bz a0 a1 a2 fw f6 bt;have F0:Fr Non v6 v6.drew:=(Fr.refl Non v6).drew;have eo:=s8.sz;have X0:Blk v6 (w.heap.size+1) 55 Y.cells:=hY▸s8.b;have G0:cS v6 w.heap.size 1 LA N LC:=(s8.g.cell 1).trans g1.out;have eu:=lh (dv.out.fr s8.f zr);refine Dn (S:=fun w'=>Blk w' (w.heap.size+1) 55 Y.cells/\cS w' w.heap.size 1 LA N LC) 8 (by kernel_rfl) ?_;refine tkG 0 ⟨X0,G0⟩ (h:=tkG 1 ⟨X0,G0⟩ (h:=tkG 3 ⟨X0,G0⟩ (h:=?_)));simp only [zl];refine Bs 2 (by kernel_rfl) rfl (fun K hK=> ?_);refine Eu (base:=w.heap.size+3) (.const (.slice none 0 0)) (.tmp 95) 24 rfl rfl rfl slOp (Own.nil _ _ _ _) (eu.out.fr F0 zr) cy.out (by omega) (by omega) eo ?_;intro lA lC v1 oL fL ae;rw [At0,Au2] at oL;have F1:Fr Non v6 v1:=F0.trans (H5 fL) zr;have a8:∀k,Ab lA=some k->v6.heap.size<=k:=fun k hk=>by rcases ae with e|e;(rw [e] at hk;cases hk);(rw [e] at hk;injection hk with hk;have fj:v6.heap.size=k:=hk;omega)
            have X1:=X0.fr F1 zq;have G1:=F1.cell G0 zq;refine hK.out _ _ ⟨X1,G1⟩ (fun hZ=> ?_);clear hZ hK K;try simp only [At0,Ai,zl]
            refine Bs 4 (by kernel_rfl) rfl (fun K hK=> ?_);go_simp;go_wp2_with (go_at_call 103;(with_reducible refine (kS.out _ (bb.out _ _ (s8.non F1))).mono ?_);rintro _ v2 ⟨z,rfl,fb,dc,f2⟩;have F2:=F1.trans f2 zr;have e4:=oL.fr f2 zr);have X2:=X0.fr F2 zq;have G2:=F2.cell G0 zq;refine hK.out _ _ ⟨X2,G2⟩ (fun hZ=> ?_);clear hZ hK K;try simp only [Ai,zl]
            have fm:=Td z;refine Bs 5 (by kernel_rfl) rfl (fun K hK=> ?_);go_simp;have au:=Blk.new v2 55 z.cells;have dw:=e4.alloc (.cells z.cells 55);have F3:Fr Non v6 (v2.alloc (.cells z.cells 55)):=F2.alloc _;have c4:=dc.non ((Fr.refl Non v2).alloc (.cells z.cells 55));obtain ⟨ga,cb⟩:=Aa v2.heap.size;rw [cb.out] at au ⊢;generalize v2.alloc (.cells z.cells 55)=v3 at*;have X3:=X0.fr F3 zq;have G3:=F3.cell G0 zq;refine hK.out _ _ ⟨X3,G3⟩ (fun hZ=> ?_);clear hZ hK K;try simp only [Ai,zl]
            refine Bs 6 (by kernel_rfl) rfl (fun K hK=> ?_);refine Eu (base:=w.heap.size+3) (.tmp 96) (.tmp 99) 24 rfl rfl rfl slOp dw (Rd.blk (n:=1) (size:=27) au rfl) (M7 z) (by omega) (by omega) (As9 eo F3.size) ?_;intro ai ah v4 es d8 ep;have F4:Fr Non v6 v4:=F3.trans d8 (fun k hk e=>by have h9:=a8 k e;omega);have c2:=c4.keepP d8 (Types.row dw) (by decide) (by decide) (by decide) (by decide) (by decide) (by decide) (by decide);have X4:=X0.fr F4 zq;have G4:=F4.cell G0 zq;refine hK.out _ _ ⟨X4,G4⟩ (fun hZ=> ?_);clear hZ hK K;try simp only [Ai,zl]
            refine tkG 7 ⟨X4,G4⟩ (h:=?_);simp only [zl];have s9:=s8.non F4;have nz:=s9.g.frozen 1;refine De (by kernel_rfl) ?_;refine oG 8 (fun K hK=> ?_);go_simp;refine hK.out _ _ trivial (fun hZ=> ?_);clear hZ hK K;try simp only [Ai,zl]
            refine oD ?_;go_simp;have t9:=s9.setG 1 (.slice ai (N+1) ah);have dq:=Own.setFar (i:=1) es s9.g (by decide) (.slice ai (N+1) ah);have d5:=Own.setFar (i:=1) (a4.fr F4 zr) s9.g (by decide) (.slice ai (N+1) ah);have dj:=(e6.fr F4 zq).far (p:=⟨w.heap.size,1,none⟩) (by have h9:=da;show gi≠w.heap.size;omega) (.slice ai (N+1) ah);have ee:=c2.setG s9.g 1 (.slice ai (N+1) ah);generalize v4.setCell ⟨w.heap.size,1,none⟩ (.slice ai (N+1) ah)=w9 at*;change Bq w w9 #[.slice CA nc CC,.slice ai (N+1) ah,.slice IA N IC,.slice PA N PC] x S (x.at_+T) A9 j c9 (Ao PS) at t9;clear s9 s8 oL e4 dw es fL d8 ae ep a8 F0 F1 F2 F3 F4 X0 X1 X2 X3 X4 G0 G1 G2 G3 G4 f2 au cb nz eu cy dv dc c4 c2 fm kS fc a4 e6 hl bb eo;go_upto_region 20 with (fail)
            have cv:=t9.sz;have dt:=lh (dx.out.fr t9.f zr)
            go_cut [7] from 102 to 108 (fun s wc=>s=.slice A7 k c7/\∃iA iC,Bq w wc #[.slice CA nc CC,.slice ai (N+1) ah,.slice iA (N+1) iC,.slice PA N PC] x S (x.at_+T) A9 j c9 (Ao PS)/\Own wc (w.heap.size+3) 48 3 iA (N+1) iC (IL++aa.V.toList)/\Own wc (w.heap.size+3) 55 27 ai (N+1) ah (LL++z.cells.toList)/\Own wc (w.heap.size+3) 3 1 A7 k c7 (ys.map Qv)/\z.lies wc base)
            case first=>
              clear bf
              as_aux_lemma=>
              have F0:Fr Non w9 w9.drew:=(Fr.refl Non w9).drew;have G0:cS w9 w.heap.size 2 IA N IC:=t9.g.cell 2;have I0:cI w9 gi 0 aa.b:=dj.cell 0;have J0:cI w9 gi 1 aa.s:=dj.cell 1;have K0:cU w9 gi 2 aa.u:=dj.cell 2;refine Dn (S:=fun w'=>cS w' w.heap.size 2 IA N IC/\cI w' gi 0 aa.b/\cI w' gi 1 aa.s/\cU w' gi 2 aa.u) 7 (by kernel_rfl) ?_;refine tkG 0 ⟨G0,I0,J0,K0⟩ (h:=tkG 1 ⟨G0,I0,J0,K0⟩ (h:=tkG 3 ⟨G0,I0,J0,K0⟩ (h:=?_)));simp only [zl];refine Am4 2 4 (by kernel_rfl) rfl rfl (fun K hK=> ?_) (fun K hK=> ?_)
              · skip
                refine Eu (base:=w.heap.size+3) (.const (.slice none 0 0)) (.tmp 103) 25 rfl rfl rfl Di (Own.nil _ _ _ _) (dt.out.fr F0 zr) b6.out (by omega) (by omega) cv ?_;intro iA iC v1 oI fI ae;rw [At0,Au2] at oI;have F1:Fr Non w9 v1:=F0.trans (H5 fI) zr;have a8:∀k,Ab iA=some k->w9.heap.size<=k:=fun k hk=>by rcases ae with e|e;(rw [e] at hk;cases hk);(rw [e] at hk;injection hk with hk;have fj:w9.heap.size=k:=hk;omega)
                obtain ⟨G1,I1,J1,K1⟩:=zk4 F1 G0 I0 J0 K0;refine hK.out _ _ ⟨G1,I1,J1,K1⟩ (fun hZ=> ?_);clear hZ hK K;try simp only [At0,Ai,zl]
                refine Bs 4 (by kernel_rfl) rfl (fun K hK=> ?_);go_simp;have au:=Blk.new v1 48 aa.V;have fu:=oI.alloc (.cells aa.V 48);have F2:Fr Non w9 (v1.alloc (.cells aa.V 48)):=F1.alloc _;obtain ⟨ga,cb⟩:=Aa v1.heap.size;rw [cb.out] at au ⊢;generalize v1.alloc (.cells aa.V 48)=v2 at*;obtain ⟨G2,I2,J2,K2⟩:=zk4 F2 G0 I0 J0 K0;refine hK.out _ _ ⟨G2,I2,J2,K2⟩ (fun hZ=> ?_);clear hZ hK K;try simp only [Ai,zl]
                refine Bs 5 (by kernel_rfl) rfl (fun K hK=> ?_);refine Eu (base:=w.heap.size+3) (.tmp 104) (.tmp 106) 25 rfl rfl rfl Di fu (Rd.blk (n:=1) (size:=3) au rfl) (by simp [Value.oneCell']) (by omega) (by omega) (As9 cv F2.size) ?_;intro al ao v3 ds eg b3;have F3:Fr Non w9 v3:=F2.trans eg (fun k hk e=>by have h9:=a8 k e;omega);obtain ⟨G3,I3,J3,K3⟩:=zk4 F3 G0 I0 J0 K0;refine hK.out _ _ ⟨G3,I3,J3,K3⟩ (fun hZ=> ?_);clear hZ hK K;try simp only [Ai,zl]
                refine tkG 6 ⟨G3,I3,J3,K3⟩ (h:=?_);simp only [zl];have ad:=t9.non F3;have nz:=ad.g.frozen 2;refine De (by kernel_rfl) ?_;refine oG 7 (fun K hK=> ?_);go_simp;have ef:=ad.setG 2 (.slice al (N+1) ao);have ca:=Own.setFar (i:=2) ds ad.g (by decide) (.slice al (N+1) ao);have b0:=Own.setFar (i:=2) (dq.fr F3 zr) ad.g (by decide) (.slice al (N+1) ao);have bq:=Own.setFar (i:=2) (d5.fr F3 zr) ad.g (by decide) (.slice al (N+1) ao);have bw:=(ee.non F3).setG ad.g 2 (.slice al (N+1) ao);refine hK.out _ _ trivial (fun hZ=> ?_);clear hZ hK K;try simp only [Ai,zl]
                refine oD ?_;go_simp;go_wp2_with fail;go_meet;exact ⟨rfl,al,ao,ef,ca,b0,bq,bw⟩
              · skip
                go_simp;have av:=(Blk.new w9 48 aa.V).drew;have F1:Fr Non w9 (w9.alloc (.cells aa.V 48)).drew:=((Fr.refl Non w9).alloc _).drew;have de:=F1.size;obtain ⟨ga,cb⟩:=Aa w9.heap.size;have fk:w9.heap.size<=w9.heap.size:=At8 _;rw [cb.out] at av ⊢;generalize (w9.alloc (.cells aa.V 48)).drew=v1 at*;obtain ⟨G1,I1,J1,K1⟩:=zk4 F1 G0 I0 J0 K0;refine hK.out _ _ ⟨G1,I1,J1,K1⟩ (fun hZ=> ?_);clear hZ hK K;try simp only [Ai,zl]
                refine Bs 2 (by kernel_rfl) rfl (fun K hK=> ?_);refine Eu (base:=w.heap.size+3) (.const (.slice none 0 0)) (.tmp 103) 25 rfl rfl rfl Di (Own.nil _ _ _ _) (dt.out.fr F1 zr) b6.out (by omega) (by omega) (As9 cv de) ?_;intro iA iC v2 oI fI ae;rw [At0,Au2] at oI;have F2:Fr Non w9 v2:=F1.trans (H5 fI) zr;have au:=av.fr (H5 fI) zq;have a8:∀k,Ab iA=some k->w9.heap.size<=k:=fun k hk=>by rcases ae with e|e;(rw [e] at hk;cases hk);(rw [e] at hk;injection hk with hk;omega)
                obtain ⟨G2,I2,J2,K2⟩:=zk4 F2 G0 I0 J0 K0;refine hK.out _ _ ⟨G2,I2,J2,K2⟩ (fun hZ=> ?_);clear hZ hK K;try simp only [At0,Ai,zl]
                refine Bs 5 (by kernel_rfl) rfl (fun K hK=> ?_);refine Eu (base:=w.heap.size+3) (.tmp 104) (.tmp 106) 25 rfl rfl rfl Di oI (Rd.blk (n:=1) (size:=3) au rfl) (by simp [Value.oneCell']) (by omega) (by omega) (As9 cv F2.size) ?_;intro al ao v3 ds eg b3;have F3:Fr Non w9 v3:=F2.trans eg (fun k hk e=>by have h9:=a8 k e;omega);obtain ⟨G3,I3,J3,K3⟩:=zk4 F3 G0 I0 J0 K0;refine hK.out _ _ ⟨G3,I3,J3,K3⟩ (fun hZ=> ?_);clear hZ hK K;try simp only [Ai,zl]
                refine tkG 6 ⟨G3,I3,J3,K3⟩ (h:=?_);simp only [zl];have ad:=t9.non F3;have nz:=ad.g.frozen 2;refine De (by kernel_rfl) ?_;refine oG 7 (fun K hK=> ?_);go_simp;have ef:=ad.setG 2 (.slice al (N+1) ao);have ca:=Own.setFar (i:=2) ds ad.g (by decide) (.slice al (N+1) ao);have b0:=Own.setFar (i:=2) (dq.fr F3 zr) ad.g (by decide) (.slice al (N+1) ao);have bq:=Own.setFar (i:=2) (d5.fr F3 zr) ad.g (by decide) (.slice al (N+1) ao);have bw:=(ee.non F3).setG ad.g 2 (.slice al (N+1) ao);refine hK.out _ _ trivial (fun hZ=> ?_);clear hZ hK K;try simp only [Ai,zl]
                refine oD ?_;go_simp;go_wp2_with fail;go_meet;exact ⟨rfl,al,ao,ef,ca,b0,bq,bw⟩
            case rest=>
            obtain ⟨rfl,iA,iC,ad,oI,oL,o7,zl⟩:=hcut;generalize wc=wd at*;clear t9 dq d5 ee dj dt cv dx b6;have bs:=ad.sz;have cu:=lh (eb.out.fr ad.f zr);have d3:=ad.g.cell 3;replace d3:cS wd w.heap.size 3 PA N PC:=d3
            go_upto_region 22 with (first
              |(at_builtin;go_loud (refine Aw (base:=w.heap.size+3) (.const (.slice none 0 0)) (.tmp 110) 26 rfl rfl rfl rfl slIi (Own.nil _ _ _ _) cu.out ec.out (by omega) (by omega) bs ?_);intro pA pC v1 oU fU ae;rw [At0,Au2] at oU;have F1:Fr Non wd v1:=H5 fU;have a8:∀k,Ab pA=some k->wd.heap.size<=k:=(fun k hk=>by rcases ae with e|e;(rw [e] at hk;cases hk);(rw [e] at hk;injection hk with hk;omega));have av:=Blk.new v1 22 #[.slice A7 k c7];have et:=oU.alloc (.cells #[.slice A7 k c7] 22);have F2:Fr Non wd (v1.alloc (.cells #[.slice A7 k c7] 22)):=F1.alloc _;clear ae fU)
              |(at_builtin;go_loud (refine Aw (base:=w.heap.size+3) (.tmp 111) (.tmp 113) 26 rfl rfl rfl rfl slIi et (Rd.blk (n:=1) (size:=1) av rfl) (by simp [Value.oneCell']) (by omega) (by omega) (As9 bs F2.size) ?_);intro aq ap v2 e5 ff b3;have F3:Fr Non wd v2:=F2.trans ff (fun k hk e=>by have h9:=a8 k e;omega);have a7:=ad.non F3;have z3:=a7.g.frozen 3;have n3:cS v2 w.heap.size 3 PA N PC:=a7.g.cell 3))
            have cg:=a7.setG 3 (.slice aq (N+1) ap);have cw:=Own.setFar (i:=3) e5 a7.g (by decide) (.slice aq (N+1) ap);have c6:=Own.setFar (i:=3) (oI.fr F3 zr) a7.g (by decide) (.slice aq (N+1) ap);have cx:=Own.setFar (i:=3) (oL.fr F3 zr) a7.g (by decide) (.slice aq (N+1) ap);have ck:=Own.setFar (i:=3) (o7.fr F3 zr) a7.g (by decide) (.slice aq (N+1) ap);have c5:=(zl.non F3).setG a7.g 3 (.slice aq (N+1) ap);generalize v2.setCell ⟨w.heap.size,3,none⟩ (.slice aq (N+1) ap)=v13 at*;change Bq w v13 #[.slice CA nc CC,.slice ai (N+1) ah,.slice iA (N+1) iC,.slice aq (N+1) ap] x S (x.at_+T) A9 j c9 (Ao PS) at cg;clear ad a7 oI oL o7 zl oU et e5 ff b3 F1 F2 F3 av a8 d3 n3 z3 cu bs;have a9:(zp.info? 28).map (·.size)=some (#[.slice CA nc CC,.slice ai (N+1) ah,.slice iA (N+1) iC,.slice aq (N+1) ap]:Array Value).size:=Cv;have az:(#[.slice CA nc CC,.slice ai (N+1) ah,.slice iA (N+1) iC,.slice aq (N+1) ap]:Array Value).all (·.oneCell')=true:=by simp [Value.oneCell']
            have aw:=lh (bf.out z ai iA aq ah iC ap);obtain ⟨CZ,dn⟩:=Aa (#[.slice CA nc CC,.slice ai (N+1) ah,.slice iA (N+1) iC,.slice aq (N+1) ap]:Array Value);rw [dn.out] at a9 az aw cg;have fx:=B0 (P:=zp) w.heap.size 28 underlying28 rfl (cs:=CZ) a9;have fi:=Cl (P:=zp) (w.heap.size+2) 28 (cs:=CZ) a9 (old:=#[.slice none 0 0,.slice none 0 0,.slice none 0 0,.slice none 0 0]) (by rw [<- dn.out];rfl) az;have bg:=cg.g;have br:=cg.r;clear dn bf g0 g1 g2 g3 az;have dz:=br.setRow (cs:=CZ);have fz:=cg.f.setRow (g:=w.heap.size+2) (fun hh=>absurd hh (by omega)) CZ;have fr:=S9 (w:=v13) (g:=w.heap.size+2) CZ;have ay:∀{t size n c:Nat} {A:Option Addr} {xs:List Value},Own v13 (w.heap.size+3) t size A n c xs->Own (v13.setRow (w.heap.size+2) CZ) (w.heap.size+3) t size A n c xs:=fun h=>h.fr fr (fun q hq e=>by have h9:=(h.row q hq).1;have h8:q=w.heap.size+2:=e;omega);have dm:=lh (aw.out _ fz fb (c5.keepP fr (Types.one br) (by decide) (by decide) (by decide) (by decide) (by decide) (by decide) (by decide)) (ay cx) (ay c6) (ay cw) (ay ck));clear aw fz fr ay cx c6 cw ck c5 cg fb
            as_aux_lemma=>
            go_wp2_with fail
            (try simp only [Exit.inBlock,Exit.then])
            refine C9 (t:=28) rfl rfl dz rfl underlying28 a9 rfl ?_;exact dm.out
end Oq
namespace Oq
theorem Tn {cards:List Cd} (hc:cards=As 0 [1,2,2,3]) {d:Int} (hd:1<=d/\d<=4):∃c,Ea cards d=some c/\c.s=Sg.pub (sec Bn d.toNat):=by
 subst hc;have h4:d=1\/d=2\/d=3\/d=4:=by omega
 show ∃c,List.find? _ [Ce 0 1,Ce 1 2,Ce 2 2,Ce 3 3]=some c/\_
 rcases h4 with rfl|rfl|rfl|rfl
 · exact ⟨Ce 0 1,by rw [Au3 (by rw [Dp];decide)],H3 _ _⟩
 · exact ⟨Ce 1 2,by rw [At5 (by rw [Dp];decide),Au3 (by rw [Dp];decide)],H3 _ _⟩
 · exact ⟨Ce 2 2,by rw [At5 (by rw [Dp];decide),At5 (by rw [Dp];decide),Au3 (by rw [Dp];decide)],H3 _ _⟩
 · exact ⟨Ce 3 3,by rw [At5 (by rw [Dp];decide),At5 (by rw [Dp];decide),At5 (by rw [Dp];decide),Au3 (by rw [Dp];decide)],H3 _ _⟩
def En (l:List Pn) (a b:Nat):List Nat:=[a/4%l.length]++(if 0<=Dr l ((1:Int)+(a%4:Nat)) l.length/\0<a/64%5 then [(Dr l ((1:Int)+(a%4:Nat)) l.length).toNat] else [])++(if b%3=0 then [b/3%l.length] else [])
def Fb (l:List Pn) (a b:Nat):Op:=Cr (if b%2=0 then 7 else 4) ((1:Int)+(a%4:Nat)) 0 ((b/6%4:Nat):Int) [] (nmP l 0) [UInt8.ofNat (65+b/2%3)]
def Nh (l:List Pn) (a b:Nat):List Pn:=Ds l (Fb l a b) (Cu l (En l a b))
def Fc (k0:List Int):Nat->List Pn
 |0=>Ds [] (Ey 1) []
 |j+1=>Nh (Fc k0 j) (C7 k0 (2*j)) (C7 k0 (2*j+1))
def Kk (k0:List Int):List Pn:=Fc k0 (min 13 (k0.length/2))
theorem To {l:List Pn} (hne:l≠[]) (a b:Nat):∀p∈En l a b,p<l.length:=by
 have h0:0<l.length:=List.length_pos_iff.2 hne;intro p hp;unfold En at hp
 rcases List.mem_append.1 hp with hp|hp
 ·
  rcases List.mem_append.1 hp with hp|hp
  ·
   rw [List.mem_singleton.1 hp];exact Nat.mod_lt _ h0
  ·
   split at hp
   ·
    rename_i hc;rw [List.mem_singleton.1 hp];have:=(Mz l ((1:Int)+(a%4:Nat)) l.length).2;omega
   · cases hp
 ·
  split at hp
  ·
   rw [List.mem_singleton.1 hp];exact Nat.mod_lt _ h0
  · cases hp
theorem Tp (l:List Pn) (a b:Nat):(En l a b).length<=3:=by
 unfold En;rw [At7,At7]
 split<;>split<;>simp
theorem Ao2 (l:List Pn) (a b:Nat):En l a b≠[]:=by
 unfold En;simp
theorem Ao3 (l:List Pn) (k b dt:Int) (hs:List Nat) (e:Id) (y:List UInt8):Bj l (Cr k b 0 dt [] e y) hs=H9 l k b dt hs e y:=by
 unfold Bj H9;rw [H8,Mx];unfold Cr
 by_cases hk:k=7
 ·
  rw [if_pos hk,if_pos hk];rfl
 ·
  rw [if_neg hk,if_neg hk];rfl
theorem Tq {l:List Pn} (hB:FkB l) (h13:l.length<=13) {o:Op} {hs:List Nat} (hb:1<=o.by_/\o.by_<=12) (ha:o.at_<=3):FkB (l++[Ak l (sgn (Bj l o hs))]):=by
 have hlen:(l++[Ak l (sgn (Bj l o hs))]).length=l.length+1:=by rw [At7];rfl
 have hsq:(sgn (Bj l o hs)).sq=Av l (Ah l (hs.map (nmP l))) o.by_ l.length+1:=by rw [Ah7];rfl
 have hat:(sgn (Bj l o hs)).at_=o.at_+late l (hs.map (nmP l)):=by rw [Ah8];rfl
 have hby:(sgn (Bj l o hs)).by_=o.by_:=by rw [Si];rfl
 have h1:Av l (Ah l (hs.map (nmP l))) o.by_ l.length<=l.length:=Mw (by omega) hB.sq _;have h2:=Ke l (Ah l (hs.map (nmP l))) o.by_ l.length;have h3:late l (hs.map (nmP l))<=3*l.length:=Qr l _ (by omega) hB.at_ _;refine ⟨fun n hn=> ?_,fun n hn=> ?_,fun n hn=> ?_,fun n hn=> ?_,by rw [hlen];omega⟩<;>rw [List.mem_append,List.mem_singleton] at hn<;>rcases hn with hn|rfl
 · have:=hB.sq n hn;rw [hlen];omega
 · rw [hlen,H6,hsq];omega
 · have:=hB.at_ n hn;rw [hlen];omega
 · rw [hlen,H6,hat];omega
 · exact hB.by_ n hn
 · rw [H6,hby];exact hb
 · exact hB.s1 n hn
 · rw [H6,hsq];omega
theorem Ao4 {cards:List Cd} {l:List Pn} (h:Rows cards l) (hB:FkB l) {n:Pn} (hn:n∈l):n.id.named=true:=by
 obtain ⟨i,hi⟩:=List.getElem?_of_mem hn;rw [(h.ok i n hi).id];refine Sm (hB.by_ n hn) ⟨hB.s1 n hn,?_⟩;have:=hB.sq n hn;have:=hB.few;omega
theorem fk_in {cards:List Cd} {l:List Pn} (h:Rows cards l) (hB:FkB l) (hc:cards=As 0 [1,2,2,3]) (hne:l≠[]) (h13:l.length<=13) (a b:Nat):
  plc l (Bj l (Fb l a b) (Cu l (En l a b))).name=none->Aj cards l (sgn (Bj l (Fb l a b) (Cu l (En l a b))))=0/\FkB (l++[Ak l (sgn (Bj l (Fb l a b) (Cu l (En l a b))))]):=by
 intro hnew;have hlt:=To hne a b;have h0:0<l.length:=List.length_pos_iff.2 hne;refine ⟨?_,Tq hB h13 (by unfold Fb;rw [H8];omega) (by unfold Fb;rw [Mx];omega)⟩;unfold Fb at hnew ⊢;rw [Ao3] at hnew ⊢;refine Ak9 h hB (fun b h1 h2=>Tn hc ⟨h1,h2⟩) (Ak5 h (Ao2 l a b) hlt) (Sy _ _ _) (As9 (Kd _ _ _) (Tp l a b)) (fun p hp=>hlt p (H7 _ hp).1) (fun p hp q hq=>(H7 _ hp).2 q (H7 _ hq).1) ⟨by omega,by omega⟩ ⟨by omega,by omega⟩ ?_ ⟨by simp,by simp⟩ hnew;have hn:l[0]? =some l[0]:=At4 h0;rw [Fy hn];exact Ao4 h hB (Au8 h0)
theorem Ao5:Bj [] (Ey 1) []=Ey 1:=rfl
theorem Ao6 {cards:List Cd} (hc:cards=As 0 [1,2,2,3]):plc [] (Bj [] (Ey 1) []).name=none->Aj cards [] (sgn (Bj [] (Ey 1) []))=0/\FkB ([]++[Ak [] (sgn (Bj [] (Ey 1) []))]):=by
 intro _;obtain ⟨c,h1,h2⟩:=Tn hc (d:=1) ⟨by decide,by decide⟩;refine ⟨?_,Tq ⟨fun _ hn=>absurd hn At3,fun _ hn=>absurd hn At3,fun _ hn=>absurd hn At3,fun _ hn=>absurd hn At3,by decide⟩ (by decide) (by decide) (by decide)⟩;rw [Ao5];exact Sk (c:=c) (Ah9 (by decide)) rfl (by simp) h1 h2 (.inr rfl) rfl (by show clash [] []=false;unfold clash Cn;simp) (Int.le_refl _) rfl
theorem Tr (l:List Pn) (o:Op) (hs:List Nat):(Ds l o hs).length<=l.length+1:=by
 unfold Ds
 split
 · omega
 ·
  rw [At7];exact At8 _
theorem Ao7 {l:List Pn} (h:l≠[]) (o:Op) (hs:List Nat):Ds l o hs≠[]:=by
 unfold Ds
 split
 · exact h
 · simp
theorem Kl (k0:List Int):∀j,Fc k0 j≠[]
 |0=>by
  show Ds [] (Ey 1) []≠[];unfold Ds;rw [show plc [] (Bj [] (Ey 1) []).name=none from rfl,if_neg (by simp)];simp
 |j+1=>Ao7 (Kl k0 j) _ _
theorem Ts (k0:List Int):∀j,(Fc k0 j).length<=j+1
 |0=>Tr _ _ _
 |j+1=>As9 (Tr _ _ _) (by have:=Ts k0 j;omega)
end Oq
end Go.Proofs.YtgbdljlapmjmnaaGreatDoor
