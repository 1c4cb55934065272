/-
  Contracts of the functions that the claim's statement reaches, walked one by one (part 20).
  Conditions: as each theorem says.
-/
import Derived.Test.YtihfebhfgliojaaGreatDoorRkO19
set_option maxRecDepth 100000
set_option maxHeartbeats 16000000
open Bool renaming not_false->At1,not_true->At2,and_eq_true->Au5,not_eq_true'->Au6
open Int renaming tmod_eq_emod_of_nonneg->As8,tdiv_eq_ediv_of_nonneg->At9,natCast_nonneg->Au3
open List renaming not_mem_nil->At0,getElem?_map->At7,mem_of_getElem?->At8,length_append->Au1,length_drop->Au2,mem_of_mem_drop->Au4
open Nat renaming le_trans->As7,le_refl->At3,div_le_self->At4,mod_lt->At5,add_zero->At6,zero_mul->Au0,lt_of_lt_of_le->Au7
open Go.World renaming size_alloc->As9
open Go.Proofs.Tryz
open Go.Proofs.Tryz renaming prog->zp
open Go.Lib renaming hid->lh
open List renaming set->zl
open Go.Ending renaming returned->ze
namespace Go.Proofs.YtihfebhfgliojaaGreatDoor
section
open Go.RowKit
attribute [local go_sem ↓] Go.wp_at_zero Go.wp_at_succ
namespace Oq
attribute [local go_sem] At1 At2
attribute [local go_sem ↓] Cz Cq Ew
theorem Aq4 {f:Operand->Value} {d:Option Tmp} {pos:String} {after:Array Edge} {D a v:Int} {A:Option Addr} {w:World} (h0:f (.tmp 45)=.int .i64 D) (h1:f (.tmp 49)=.int .i64 a) (h2:f (.tmp 53)=.int .i64 v) (h3:f (.tmp 55)=.slice A 1 1) (h4:∀v,f (.const v)=v):
  Sem.run zp (execOp f ⟨d,.build 44 #[(0,.tmp 45),(2,.const (.int .i64 1)),(1,.const (.int .i64 1)),(3,.tmp 49),(16,.tmp 53),(9,.tmp 55)],44,pos,after,none⟩) w=Result.ok (Next.value (.agg (fsL D a v A).cells)) w:=by
 go_simp;rfl
theorem Aq5 (base B n c:Nat) (r:RG) (A:Option Addr) (l0:List Int) (w:World) (h:r.own w base) (hcs:r.cards=Bl 0 [1,2,3,1]) (hn:Hid (l0.length=n)) (hr:Rd w B 1 A n (l0.map Iv)) (hok:∀x∈l0,I64 x):
  Calls zp 44 #[.agg r.cells,.slice A n c] w (Ko r.cards r.l w):=by
 have a3:=h.few;have ch:r.cards.length=4:=by rw [hcs];rfl
 have hi:(zp.info? 44).map (·.size)=some 27:=by kernel_rfl
 have bg:=(Blk.new w 32 r.cells).alloc (.cells zO 44);have br:=Blk.new (w.alloc (.cells r.cells 32)) 44 zO;rw [As9] at br;have f0:Fr Non w ((w.alloc (.cells r.cells 32)).alloc (.cells zO 44)):=((Fr.refl Non w).alloc _).alloc _
 have b2:w.heap.size+2<=((w.alloc (.cells r.cells 32)).alloc (.cells zO 44)).heap.size:=by
  rw [As9,As9];exact At3 _
 have hl:=Bk (P:=zp) w.heap.size 32 underlying32 rfl (cs:=r.cells) Cx;have kA:=lh (fun (w':World) (hf:Fr Non w w')=>Ms base r w' (h.non hf));have kH:=lh (fun (B' n' c':Nat) (A':Option Addr) (ids:List Id) (w':World) (hf:Fr Non w w') hn hr hnm=>Ag1 base r B' n' c' A' ids w' (h.non hf) hn hr hnm);have kC:=lh (fun (B' n' c':Nat) (A':Option Addr) (l1:List Int) (w':World) (hf:Fr Non w w') hn hr hnm=>J8 base r B' n' c' A' l1 w' (h.non hf) hn hr hnm);have kS:=lh (fun (B' n' c':Nat) (A':Option Addr) (ids:List Id) (d:Int) (w':World) hn hr hnm hs=>Af5 r.cells B' n' c' A' ids d w' hn hr hnm hs);have kL:=lh (fun (B' n' c':Nat) (A':Option Addr) (ids:List Id) (w':World) (hf:Fr Non w w') hn hr hnm=>Af6 base r B' n' c' A' ids w' (h.non hf) hn hr hnm);have kO:=lh (fun (b:Int) (m:Nat) (w':World) hb hn=>Aj3 b m w' hb hn);have bx:=lh (fun (x:Int) (hx:x∈l0) (w':World)=>Ig x 1000000 w' (hok x hx).1 (hok x hx).2 (by decide) (by decide))
 have a8:Hid (∀ids:List Id,(∀id∈ids,(plc r.l id).isSome=true)->ids.length<=200->(Fi r.l ids).length<=500/\(∀x∈Fi r.l ids,x.ok)/\(∀x∈ids,x.s<=2147483647)/\(∀d k,0<=Cl ids d k/\Cl ids d k<=2147483647)/\0<=late r.l ids/\late r.l ids<=2147483647):=by
  intro ids h1 h2;have hs:∀x∈ids,x.s<=2147483647:=fun x hx=>(Sc h.rows h.ok (h1 x hx)).2.2;have hb:=Aj7 h.rows ids;refine ⟨?_,fun x hx=>(Sc h.rows h.ok (h1 x (Aj8 hx).1)).1,hs,fun d k=>Rp (by omega) hs k,hb⟩;have:=Aj9 r.l ids;omega
 have aa:Hid ((∀id∈Ai r.ids,(plc r.l id).isSome=true)/\(Ai r.ids).length=r.l.length):=by
  have dn:=Hu h.rows;exact ⟨dn.2,by rw [Gv];show (r.l.map Pn.id).length=_;rw [List.length_map]⟩
 have aj:Hid (∀cs,ClosedOk r.l cs->(∀id∈cs,(plc r.l id).isSome=true)/\cs.length<=200):=fun cs hc=>⟨hc.2,As7 (Ak0 h.rows hc) a3⟩;have ak:=lh (fun (d a v:Int) (hd:1<=d/\d<=4) (ha:0<=a/\a<=4) (hv:0<=v/\v<=4)=>Aq3 hcs hd ha hv)
 have ad:Hid (∀(y:OpL) (wy wz:World),y.op.ok->y.own wy (w.heap.size+2)->Fr Non w wy->Blk wy (w.heap.size+1) 44 zO->Fr (One (w.heap.size+1)) wy wz->((r.l=[]->An r.cards [] y.op=0)/\FewN y.op)->Ko r.cards r.l w (.returned (.agg y.cells)) wz):=by
  intro y wy wz h1 h2 h3 h4 h5 h6;refine ⟨y,rfl,h1,(h2.opBlk h4 h5).lower (by omega),h3.trans h5 (fun k hk e=>absurd hk (by have e2:k=w.heap.size+1:=e;omega)),h6.1,h6.2⟩
 have g0:Hid (r.cells[0]? =some (.slice r.cA r.cards.length r.cC)):=rfl;have g1:Hid (r.cells[1]? =some (.slice r.lA r.l.length r.lC)):=rfl;rw [ch] at g0;have a0:Hid (r.l.length=0->r.l=[]):=fun e=>List.length_eq_zero_iff.1 e;have ah:Hid (r.l=[]->r.l.length=0):=fun e=>by show _=_;rw [e];rfl
 clear h hcs ch;generalize Ko r.cards r.l w=POST at*;unfold SortPost at kA;generalize Ai r.ids=SI at*;generalize r.lA=LA at*;generalize r.lC=LC at*;generalize r.cA=CA at*;generalize r.cC=CC at*;generalize r.cells=CS at*;generalize r.cards=CD at*;generalize r.l=l at*;obtain ⟨N,hN⟩:=Aa l.length;rw [hN.out] at kA g1 a3 aa a0 ah;clear hN;go_enter func44,ntmps44;go_upto_region 1 with (fail)
 generalize (w.alloc (.cells CS 32)).alloc (.cells zO 44)=w0 at*;go_wp2_with fail
 go_loopw [5,6] (fun s v wr=>∃(j:Nat) (Ax:Option Addr) (cx:Nat) (ks:List Nat),v=.int .i64 (j:Int)/\s=.slice Ax j cx/\j<=4/\Hid (ks.length=j)/\Hid (∀x∈ks,x<1000000)/\Own wr w0.heap.size 3 1 Ax j cx (ks.map Qv)/\Fr Non w0 wr) (fun _ v _=>4-(intOf v).toNat)
 case atStart=>exact ⟨0,none,0,[],rfl,rfl,by omega,rfl,fun x hx=>absurd hx At0,Own.nil _ _ _ _,Fr.refl _ _⟩
 case round=>
 obtain ⟨j,Ax,cx,ks,rfl,rfl,hj,b5,a6,ap,hf⟩:=hrel;have a5:Fr Non w wr:=f0.trans hf zr
 by_cases hlt:j<4
 ·
  have i1:decide ((j:Int)<4)=true:=decide_eq_true (by omega);have dw:=As7 b2 hf.size;have b6:=ap.row;clear ad kA kH kC kS kL kO a8 aa aj ak a0 ah g0 g1 bg br
  as_aux_lemma=>
  go_upto_if 17 with (fail)
  go_cut [7] from 17 to 22 (fun s wc=>∃q:Nat,s=.int .i64 (q:Int)/\q<1000000/\Own wc w0.heap.size 3 1 Ax j cx (ks.map Qv)/\Fr Non w0 wc)
  case first=>
   by_cases hjn:j<n
   ·
    obtain ⟨b,ai,u,rfl,ds,hu,c0⟩:=hr.at hjn;obtain ⟨x,hx⟩:∃x,l0[j]? =some x:=⟨_,List.getElem?_eq_getElem (by rw [hn.out];exact hjn)⟩;rw [At7,hx] at hu;injection hu with hu
    subst hu;replace c0:cI w b (ai+j) x:=c0;have c1:=a5.cell c0 zq;have kx:=lh (bx.out x (At8 hx));obtain ⟨dl,cf⟩:=Ie (n:=x) (m:=1000000) (by decide);obtain ⟨p,hp⟩:∃p:Nat,C6 x 1000000=(p:Int):=⟨(C6 x 1000000).toNat,by omega⟩;rw [hp] at kx cf;have j1:(0:Int)<=j:=by omega
    have j2:(j:Int)<n:=by omega
    have j3:(j:Int).toNat=j:=by omega
    have t:decide ((j:Int)<(n:Int))=true:=decide_eq_true (by omega);have cw:Hid (p<1000000):=by show p<1000000;omega
    clear bx hx hok hp dl cf;go_wp2_with (go_at_call 39;(with_reducible refine (kx.out _).mono ?_);rintro _ v ⟨rfl,ew⟩;have fq:Fr Non wr v:=ew▸Fr.refl _ _;clear ew);go_meet;exact ⟨p,rfl,cw.out,ap.fr fq zr,hf.trans fq zr⟩
   ·
    have t:decide ((j:Int)<(n:Int))=false:=decide_eq_false (by omega);go_wp2_with fail;go_meet;exact ⟨0,rfl,by omega,ap,hf⟩
  case rest=>
   obtain ⟨q,rfl,hq,b9,fc⟩:=hcut;have bm:=As7 b2 fc.size;have au:=Blk.new wc 3 #[.int .i64 (q:Int)];have a2:=b9.alloc (.cells #[.int .i64 (q:Int)] 3);go_wp2_with (at_builtin;go_loud (refine Bg (base:=w0.heap.size) (.tmp 23) (.tmp 25) 22 rfl rfl rfl rfl Hd a2 (Rd.blk (n:=1) (size:=1) au rfl) (by simp [Value.oneCell']) (by omega) (by omega) (by rw [As9];have h8:=fc.size;omega) ?_);intro A2 c2 w4 b7 dg de);have fz:Fr Non w0 w4:=(fc.alloc _).trans dg (fun k hk e=>by have h9:=(b6 k e).1;have h8:=hf.size;omega)
   have ar:Own w4 w0.heap.size 3 1 A2 (j+1) c2 ((ks++[q]).map Qv):=by
    rw [List.map_append];exact b7
   go_roundw
   case rel=>exact ⟨j+1,A2,c2,ks++[q],by go_num,rfl,by omega,(by show _=_;rw [Au1,b5.out];rfl),(fun x hx=>by rcases List.mem_append.1 hx with h1|h1;exact a6.out x h1;obtain rfl:=List.mem_singleton.1 h1;exact hq),ar,fz⟩
   case measure=>simp [intOf];omega
 ·
  obtain rfl:j=4:=by omega
  have i1:decide ((4:Int)<4)=false:=rfl
  obtain ⟨k0,k1,k2,k3,rfl⟩:∃a b c d,ks=[a,b,c,d]:=by
   match ks,b5.out with
   |[a,b,c,d],_=>exact ⟨a,b,c,d,rfl⟩
  have q0:k0<1000000:=a6.out k0 (by simp);have q1:k1<1000000:=a6.out k1 (by simp);have q2:k2<1000000:=a6.out k2 (by simp);have q3:k3<1000000:=a6.out k3 (by simp);obtain ⟨_,h4|⟨b,ai,rfl,di,hc⟩⟩:=ap.rd
  · exact absurd h4 (by decide)
  have L0:cI wr b ai (k0:Int):=hc 0 _ rfl;have L1:cI wr b (ai+1) (k1:Int):=hc 1 _ rfl;have L2:cI wr b (ai+2) (k2:Int):=hc 2 _ rfl;have L3:cI wr b (ai+3) (k3:Int):=hc 3 _ rfl;replace bg:=bg.fr hf zq;replace br:=br.fr hf zq;have e0:((k0:Nat):Int).tmod 4=(k0:Int)%4:=As8 (by omega);have e1:((k1:Nat):Int).tmod 3=(k1:Int)%3:=As8 (by omega);have e2:((k2:Nat):Int).tmod 5=(k2:Int)%5:=As8 (by omega);have e3:((k3:Nat):Int).tmod 5=(k3:Int)%5:=As8 (by omega);have e4:((k2:Nat):Int).tmod 3=(k2:Int)%3:=As8 (by omega);have e5:((k1:Nat):Int).tdiv 3=(k1:Int)/3:=At9 (by omega);have e6:((k1:Nat):Int).tdiv 100=(k1:Int)/100:=At9 (by omega);have e7:IntKind.i64.wrap (1+(k0:Int)%4)=1+(k0:Int)%4:=IntWalk.i64_in _ (by omega);have e8:IntKind.i64.wrap ((k1:Int)/3)=(k1:Int)/3:=IntWalk.i64_in _ (by omega);have e9:IntKind.i64.wrap ((k1:Int)/100)=(k1:Int)/100:=IntWalk.i64_in _ (by omega);have bn:=As7 b2 hf.size;have d0:=(bg.cell 0).trans g0.out;have d1:=(bg.cell 1).trans g1.out;clear hc a6 b5 ap hf f0 bx hr hn hok hlt hj g0 g1 di;generalize wr=w1 at*;go_upto_region 9 with (fail)
  go_cut [8] from 27 to 39 (fun s wc=>∃(y0:OpL) (gO:Nat),s=.pointer (some ⟨gO,0,none⟩)/\Blk wc gO 44 y0.cells/\y0.by_=1+(k0:Int)%4/\y0.op.ok/\y0.own wc (w.heap.size+2)/\w1.heap.size<=gO/\Fr Non w1 wc)
  case first=>
   clear ad kA kH kC kS kL a8 aa aj ak a0 ah
   as_aux_lemma=>
   have G0:=d0;have F0:Fr Non w1 w1.drew:=(Fr.refl Non w1).drew;have kq:=lh (fun (w':World)=>kO.out (1+(k0:Int)%4) k3 w' ⟨by omega,by omega⟩ (by omega));have M0:=L0;have K0:=L3;refine Cn (S:=fun w'=>cS w' w.heap.size 0 CA 4 CC/\cI w' b ai (k0:Int)/\cI w' b (ai+3) (k3:Int)) 14 (by kernel_rfl) ?_;have uu:=aI G0 (aI M0 K0);refine tkG 0 uu (h:=tkG 1 uu (h:=tkG 2 uu (h:=tkG 3 uu (h:=tkG 4 uu (h:=tkG 5 uu (h:=tkG 6 uu (h:=tkG 7 uu (h:=tkG 8 uu (h:=tkG 9 uu (h:=tkG 10 uu (h:=tkG 11 uu (h:=?_))))))))))));clear uu;simp only [zl];refine R9 12 13 (by kernel_rfl) rfl rfl (fun K' hK=> ?_) (fun K' hK=> ?_)
   ·
    skip
    go_simp;go_wp2_with (go_at_call 91;(with_reducible refine (kq.out _).mono ?_);rintro _ v1 ⟨y0,rfl,aq,ae,ag,ab⟩;have F1:=F0.trans ab zr;have a2:=ag.lower (base':=w.heap.size+2) bn);have G1:=F1.cell G0 zq;have M1:=F1.cell M0 zq;have K1:=F1.cell K0 zq;refine hK.out _ _ ⟨G1,M1,K1⟩ (fun hZ=> ?_);clear hZ hK K';try simp only [Ad,zl]
    refine Bo 13 (by kernel_rfl) rfl (fun K' hK=> ?_);go_simp;have au:=Blk.new v1 44 zO;have a1:=a2.non ((Fr.refl Non v1).alloc (.cells zO 44));have F2:Fr Non w1 (v1.alloc (.cells zO 44)):=F1.alloc _;have bc:=F1.size;obtain ⟨ga,bo⟩:=Aa v1.heap.size;rw [bo.out] at au bc ⊢;generalize v1.alloc (.cells zO 44)=v2 at*;have G2:=F2.cell G0 zq;have M2:=F2.cell M0 zq;have K2:=F2.cell K0 zq;refine hK.out _ _ ⟨G2,M2,K2⟩ (fun hZ=> ?_);clear hZ hK K';try simp only [Ad,zl]
    have av:=Df y0;have bi:=Bp (P:=zp) ga 44 (cs:=y0.cells) hi (old:=zO) rfl av;refine Ci (by kernel_rfl) ?_;refine oG 14 (fun K' hK=> ?_);go_simp;have az:=a1.opBlk au (Gc y0.cells);have b3:=au.setRow (cs:=y0.cells);have F3:Fr Non w1 (v2.setRow ga y0.cells):=F2.setRow (fun hh=>absurd hh (by omega)) _;refine hK.out _ _ trivial (fun hZ=> ?_);clear hZ hK K';try simp only [Ad,zl]
    refine oD ?_;go_simp;go_wp2_with fail;go_meet;exact ⟨y0,ga,rfl,b3,aq,ae,az,bc,F3⟩
   ·
    skip
    go_simp;have bd:=(Blk.new w1 44 zO).drew;have F1:Fr Non w1 (w1.alloc (.cells zO 44)).drew:=((Fr.refl Non w1).alloc _).drew;have da:w.heap.size+2<=(w1.alloc (.cells zO 44)).drew.heap.size:=As7 bn F1.size;have bc:w1.heap.size<=w1.heap.size:=At3 _;obtain ⟨ga,bo⟩:∃x,Hid (w1.heap.size=x):=Aa _;rw [bo.out] at bd ⊢;have bc:w1.heap.size<=ga:=by rw [bo.out];exact At3 _
    generalize (w1.alloc (.cells zO 44)).drew=v1 at*;have G1:=F1.cell G0 zq;have M1:=F1.cell M0 zq;have K1:=F1.cell K0 zq;refine hK.out _ _ ⟨G1,M1,K1⟩ (fun hZ=> ?_);clear hZ hK K';try simp only [Ad,zl]
    refine Bo 12 (by kernel_rfl) rfl (fun K' hK=> ?_);go_simp;go_wp2_with (go_at_call 91;(with_reducible refine (kq.out _).mono ?_);rintro _ v2 ⟨y0,rfl,aq,ae,ag,ab⟩;have F2:=F1.trans ab zr;have a1:=ag.lower (base':=w.heap.size+2) da;have au:=bd.fr ab zq);have G2:=F2.cell G0 zq;have M2:=F2.cell M0 zq;have K2:=F2.cell K0 zq;refine hK.out _ _ ⟨G2,M2,K2⟩ (fun hZ=> ?_);clear hZ hK K';try simp only [Ad,zl]
    have av:=Df y0;have bi:=Bp (P:=zp) ga 44 (cs:=y0.cells) hi (old:=zO) rfl av;refine Ci (by kernel_rfl) ?_;refine oG 14 (fun K' hK=> ?_);go_simp;have az:=a1.opBlk au (Gc y0.cells);have b3:=au.setRow (cs:=y0.cells);have F3:Fr Non w1 (v2.setRow ga y0.cells):=F2.setRow (fun hh=>absurd hh (by omega)) _;refine hK.out _ _ trivial (fun hZ=> ?_);clear hZ hK K';try simp only [Ad,zl]
    refine oD ?_;go_simp;go_wp2_with fail;go_meet;exact ⟨y0,ga,rfl,b3,aq,ae,az,bc,F3⟩
  case rest=>
  obtain ⟨y0,gO,rfl,bO,aq,ae,ag,b8,f2⟩:=hcut;generalize wc=wb at*;have hD:1<=1+(k0:Int)%4/\1+(k0:Int)%4<=4:=by omega
  obtain ⟨D,cb⟩:∃D:Nat,1+(k0:Int)%4=(D:Int):=⟨(1+(k0:Int)%4).toNat,by omega⟩;rw [cb] at aq hD;have dv:1<=D/\D<=4:=by omega
  clear cb hD kO L0 d0 q0;have c6:=f2.cell d1 zq
  by_cases hz:N=0
  ·
   have t:((N:Int)==0)=true:=by simp [hz]
   clear kA kH kC kS kL a8 aa aj L1;have dp:=a0.out hz
   as_aux_lemma=>
   go_upto_region 11 with (fail)
   have F0:Fr Non w1 wb.drew:=f2.drew;have Y0:wb.cell? ⟨gO,0,none⟩=some (.int .i64 (D:Int)):=by rw [bO.cell 0];show some (Value.int .i64 y0.by_)=_;rw [aq]
   have M0:=f2.cell L2 zq;have K0:=f2.cell L3 zq;refine Cn (S:=fun w'=>cI w' gO 0 (D:Int)/\cI w' b (ai+2) (k2:Int)/\cI w' b (ai+3) (k3:Int)) 13 (by kernel_rfl) ?_;have uu:=aI Y0 (aI M0 K0);refine tkG 0 uu (h:=tkG 1 uu (h:=tkG 2 uu (h:=tkG 3 uu (h:=tkG 4 uu (h:=tkG 5 uu (h:=tkG 6 uu (h:=tkG 7 uu (h:=tkG 8 uu (h:=tkG 9 uu (h:=tkG 10 uu (h:=?_)))))))))));clear uu;simp only [zl];refine Bo 11 (by kernel_rfl) rfl (fun K' hK=> ?_);go_simp;have nP:=(Blk.new wb 94 #[.int .u64 5,.slice none 0 0]).drew;have ab:Fr Non wb (wb.alloc (.cells #[.int .u64 5,.slice none 0 0] 94)).drew:=((Fr.refl Non wb).alloc _).drew;have ct:=As7 bn f2.size;obtain ⟨gp,b4⟩:=Aa wb.heap.size;rw [b4.out] at nP ct ⊢;generalize (wb.alloc (.cells #[.int .u64 5,.slice none 0 0] 94)).drew=v1 at*;have Y1:=ab.cell Y0 zq;have M1:=ab.cell M0 zq;have K1:=ab.cell K0 zq;refine hK.out _ _ ⟨Y1,M1,K1⟩ (fun hZ=> ?_);clear hZ hK K';try simp only [Ad,zl]
   refine E1 (i:=12) (v:=?_) rfl (by kernel_rfl) (by kernel_rfl) (by kernel_rfl) (by kernel_rfl) (fun _ _ _ h=>h) (Or.inl ⟨by kernel_rfl,?_⟩) ⟨Y1,M1,K1⟩ ?_;rotate_left
   focus (intro w' du;refine Aq4 (D:=(D:Int)) (a:=(k2:Int)%5) (v:=(k3:Int)%5) (A:=some ⟨gp,0,none⟩) ?_ ?_ ?_ ?_ ?_;rfl;rfl;rfl;rfl;exact fun _=>rfl)
   simp only [zl];have bv:=bO.fr ab zq;have bi:=Bp (P:=zp) gO 44 (cs:=(fsL (D:Int) ((k2:Int)%5) ((k3:Int)%5) (some ⟨gp,0,none⟩)).cells) hi (old:=y0.cells) rfl (Df _);refine Ci (by kernel_rfl) ?_;refine oG 13 (fun K' hK=> ?_);go_simp;have c5:=bv.setRow (cs:=(fsL (D:Int) ((k2:Int)%5) ((k3:Int)%5) (some ⟨gp,0,none⟩)).cells)
   have oP:Own v1 (w.heap.size+2) 94 2 (some ⟨gp,0,none⟩) 1 1 (([⟨5,none,0,[]⟩]:List NdL).flatMap NdL.cells):=by
    have h5:=Own.blk (base:=w.heap.size+2) (n:=1) (size:=2) nP ct (by omega) rfl (by omega);simpa [NdL.cells] using h5
   have ba:(fsL (D:Int) ((k2:Int)%5) ((k3:Int)%5) (some ⟨gp,0,none⟩)).own (v1.setRow gO (fsL (D:Int) ((k2:Int)%5) ((k3:Int)%5) (some ⟨gp,0,none⟩)).cells) (w.heap.size+2):=(Aq1 (RowAt.of_own oP)).opBlk bv (Gc _);have fv:Fr Non w1 (v1.setRow gO (fsL (D:Int) ((k2:Int)%5) ((k3:Int)%5) (some ⟨gp,0,none⟩)).cells):=(f2.trans ab zr).setRow (fun hh=>absurd hh (by omega)) _;have af:(fsL (D:Int) ((k2:Int)%5) ((k3:Int)%5) (some ⟨gp,0,none⟩)).op.ok:=Aq0 ⟨by omega,by omega⟩ ⟨by omega,by omega⟩ ⟨by omega,by omega⟩;have dh:An CD [] (sgn (fsL (D:Int) ((k2:Int)%5) ((k3:Int)%5) (some ⟨gp,0,none⟩)).op)=0:=ak.out (D:Int) ((k2:Int)%5) ((k3:Int)%5) (by omega) (by omega) (by omega);have ac:FewN (fsL (D:Int) ((k2:Int)%5) ((k3:Int)%5) (some ⟨gp,0,none⟩)).op:=⟨Nat.zero_le _,(by show (1:Int)<=(D:Int);omega),(by show (D:Int)<=4;omega)⟩;have al:(fsL (D:Int) ((k2:Int)%5) ((k3:Int)%5) (some ⟨gp,0,none⟩)).by_=(D:Int):=rfl;generalize fsL (D:Int) ((k2:Int)%5) ((k3:Int)%5) (some ⟨gp,0,none⟩)=X at*;refine hK.out _ _ trivial (fun hZ=> ?_);clear hZ hK K';try simp only [Ad,zl]
   refine oD ?_;go_simp;generalize v1.setRow gO X.cells=v2 at*;clear bv nP oP Y0 Y1 M0 M1 K0 K1 bi ab;have dm:=Bk (P:=zp) gO 44 underlying44 rfl (cs:=X.cells) hi;have fw:Fr Non w v2:=a5.trans fv zr;have bz:=br.fr fv zq;have a4:=lh (Kn X D (w.heap.size+2) v2 al (by omega) ba af)
   have ao:Hid (∀y:OpL,y.op=sgn X.op->y.op.ok/\((l=[]->An CD [] y.op=0)/\FewN y.op)):=fun y e=>by
    rw [e];exact ⟨Mp af,fun _=>dh,FewN.sgn ac⟩
   have cv:(zp.info? 44).map (·.size)=some X.cells.size:=hi;clear ak a0 ah ba af al ac;unfold Gd at a4;generalize sgn X.op=SO at*;generalize X.cells=XC at*;go_wp2_with (go_at_call 15;(with_reducible refine (a4.out).mono ?_);rintro _ w5 ⟨y,rfl,bf,bj,f5⟩;go_loud (have bb:=bz.fr f5 zq;have aw:=lh (ao.out y bf);have hd:=lh (fun wz hz=>ad.out y w5 wz aw.out.1 bj (fw.trans f5 zr) bb hz aw.out.2);have bi:=Bp (P:=zp) (w.heap.size+1) 44 (cs:=y.cells) hi (old:=zO) rfl (Df y);have bt:(zp.info? 44).map (·.size)=some y.cells.size:=hi;clear ad aw bf bj ao a4;generalize y.cells=YC at*));have bu:=bb.setRow (cs:=YC);have bp:=lh (hd.out _ (Gc YC))
   (try simp only [Exit.inBlock,Exit.then])
   refine En (t:=44) rfl rfl bu rfl underlying44 bt rfl ?_;exact bp.out
  ·
   have t:((N:Int)==0)=false:=by simp [hz]
   clear L3 q3 ak;have cp:=bg.fr f2 zq;have cr:=f2.cell L1 zq;have bm:=As7 bn f2.size;have cl:Fr Non w wb:=a5.trans f2 zr;rw [<- aa.out.2] at kA;go_upto_region 14 with (go_at_call 22;(with_reducible refine (kA.out _ cl).mono ?_);rintro _ v0 ⟨A9,c9,rfl,o9,f9⟩)
   have ce:=f9.cell cr zq;have B0:=cp.fr f9 zq;have cg:Fr Non w v0:=cl.trans f9 zr;have ca:=As7 bm f9.size;replace o9:=o9.lower bm
   go_upto_if 65 with (fail)
   go_cut [9] from 65 to 76 (fun s wd=>∃(ids:List Id) (A9:Option Addr) (c9:Nat),s=.slice A9 ids.length c9/\Own wd (w.heap.size+2) 38 3 A9 ids.length c9 (ids.flatMap Id.cells)/\Hid (∀id∈ids,(plc l id).isSome=true)/\Hid (ids.length<=200)/\Fr Non wb wd)
   case first=>
    clear ad kH kS kL a8 a0 ah ae ag bO
    as_aux_lemma=>
    by_cases ht:k1%3=1
    ·
     have t2:((k1:Int)%3==1)=true:=by simp;omega
     go_upto_region 15 with (fail)
     have Q0:=ce;refine wp_region_held_drew (S:=fun w'=>Blk w' w.heap.size 32 CS/\cI w' b (ai+1) (k1:Int)) (by kernel_rfl) ⟨B0,Q0⟩ (fun hHeld=> ?_);clear hHeld;have uu:=aI B0 Q0;refine tkH 0 uu (h:=tkH 1 uu (h:=tkH 2 uu (h:=tkH 3 uu (h:=tkH 4 uu (h:=tkH 5 uu (h:=tkH 6 uu (h:=tkH 7 uu (h:=tkH 8 uu (h:=?_)))))))));clear uu;simp only [zl];refine oG 9 (fun K' hK=> ?_);go_simp;have nP:=(Blk.new v0 3 #[.int .i64 ((k1:Int)/3),.int .i64 ((k1:Int)/100)]).drew;have ab:Fr Non v0 (v0.alloc (.cells #[.int .i64 ((k1:Int)/3),.int .i64 ((k1:Int)/100)] 3)).drew:=((Fr.refl Non v0).alloc _).drew;obtain ⟨gp,b4⟩:=Aa v0.heap.size;rw [b4.out] at nP ⊢;generalize (v0.alloc (.cells #[.int .i64 ((k1:Int)/3),.int .i64 ((k1:Int)/100)] 3)).drew=v1 at*;have B1:=B0.fr ab zq;have Q1:=ab.cell Q0 zq;refine hK.out _ _ ⟨B1,Q1⟩ (fun hZ=> ?_);clear hZ hK K';try simp only [Ad,zl]
     have ci:=lh (kC.out _ 2 2 (some ⟨gp,0,none⟩) [(k1:Int)/3,(k1:Int)/100] v1 (cg.trans ab zr) rfl (Rd.blk (n:=2) (size:=1) nP rfl) (fun x hx=>by
      rcases List.mem_cons.1 hx with rfl|hx
      · exact ⟨by omega,by omega⟩
      ·
       obtain rfl:=List.mem_singleton.1 hx;exact ⟨by omega,by omega⟩))
     unfold J7 at ci;refine oG 10 (fun K' hK=> ?_);go_simp;go_wp2_with (go_at_call 26;(with_reducible refine (ci.out).mono ?_);rintro _ v2 ⟨cs,⟨A8,c8,rfl,o8,b1⟩,cy,dq⟩;have B2:=B1.fr b1 zq;have Q2:=b1.cell Q1 zq);refine hK.out _ _ ⟨B2,Q2⟩ (fun hZ=> ?_);clear hZ hK K';try simp only [Ad,zl]
     refine tkH 11 ⟨B2,Q2⟩ (h:=?_);simp only [zl];refine oD ?_;go_simp;have cc:=aj.out cs cy;go_wp2_with fail;go_meet;exact ⟨cs,A8,c8,rfl,o8.lower (As7 ca ab.size),cc.1,cc.2,(f9.trans ab zr).trans b1 zr⟩
    ·
     have t2:((k1:Int)%3==1)=false:=by simp;omega
     go_wp2_with fail;go_meet;exact ⟨SI,A9,c9,rfl,o9,aa.out.1,by show _<=_;rw [aa.out.2];exact a3,f9⟩
   case rest=>
   clear o9 ce B0 cg ca f9;obtain ⟨ids,A8,c8,rfl,o9,ck,cn,f3⟩:=hcut;generalize wc=wd at*;obtain ⟨p1,p2,p3,p4,p5⟩:=a8.out ids ck.out cn.out;have dj:=cn.out;have dr:=p4 (D:Int) ids.length;have bl:Fr Non w1 wd:=f2.trans f3 zr;have cu:=bO.fr f3 zq;have bh:=ag.non f3;have kh:=lh (kH.out _ ids.length c8 A8 ids wd (a5.trans bl zr) rfl o9.rd (by omega));have ks:=lh (fun (w':World) (ho:Own w' (w.heap.size+2) 38 3 A8 ids.length c8 (ids.flatMap Id.cells))=>kS.out _ ids.length c8 A8 ids (D:Int) w' rfl ho.rd (by omega) p3);have kl:=lh (fun (w':World) (hf:Fr Non w w') (ho:Own w' (w.heap.size+2) 38 3 A8 ids.length c8 (ids.flatMap Id.cells))=>kL.out _ ids.length c8 A8 ids w' hf rfl ho.rd (by omega));have bk:=lh (And.intro p1 p2);clear kA kH kC kS kL a8 aa aj L1 cr q1 p4 ck ag bO cp d1 c6 p1 p2 p3;unfold Ca at kh;generalize Fi l ids=HL at*;generalize Cl ids (D:Int) ids.length=SQ at*;generalize late l ids=LT at*;have c7:=bg.fr bl zq;have YC:y0.cells.size=27:=rfl;have dd:Hid (y0.cells[0]? =some (.int .i64 (D:Int))):=by show some (Value.int .i64 y0.by_)=_;rw [aq]
   have c3:Hid (y0.cells[1]? =some (.int .i64 y0.sq)):=rfl;have dc:Hid (y0.cells[3]? =some (.int .i64 y0.at_)):=rfl;have db:Hid (y0.cells[4]? =some (.slice y0.pastA y0.past.length y0.pastC)):=rfl;have dk:=As7 bm f3.size;generalize wd=w3 at*;go_upto_region 17 with (go_at_call 92;(with_reducible refine (kh.out).mono ?_);rintro _ v3 ⟨A4,c4,rfl,o4,f4⟩;have ay:=cu.fr f4 zq;have m4:=(ay.cell 4).trans db.out;have z4:=ay.frozen 4)
   have b0:Fr Non w1 (v3.setCell ⟨gO,4,none⟩ (.slice A4 HL.length c4)):=(bl.trans f4 zr).setNew b8 4 _;have bs:=ay.set 4 (.slice A4 HL.length c4);have bq:=Own.setFar (i:=4) (o9.fr f4 zr) ay (by decide) (.slice A4 HL.length c4);have cd:=Own.setFar (i:=4) (o4.lower dk) ay (by decide) (.slice A4 HL.length c4);have ar:=(bh.non f4).opBlk ay (Nf (i:=4) (.slice A4 HL.length c4));generalize v3.setCell ⟨gO,4,none⟩ (.slice A4 HL.length c4)=w4 at*;clear kh m4 z4 ay cu f4 o4 o9 bh bl c7;have df:=bg.fr b0 zq;have Y4:cI w4 gO 0 (D:Int):=(bs.cell 0).trans dd.out;go_upto_region 18 with (go_at_call 93;(with_reducible refine (ks.out _ bq).mono ?_);rintro _ v4 ⟨rfl,f5⟩;have ax:=bs.fr f5 zq;have m5:cI v4 gO 1 y0.sq:=(ax.cell 1).trans c3.out;have z5:=ax.frozen 1)
   have bw:Fr Non w1 (v4.setCell ⟨gO,1,none⟩ (.int .i64 (SQ+1))):=(b0.trans f5 zr).setNew b8 1 _;have co:=ax.set 1 (.int .i64 (SQ+1));have cq:=Own.setFar (i:=1) (bq.fr f5 zr) ax (by decide) (.int .i64 (SQ+1));have cj:=Own.setFar (i:=1) (cd.fr f5 zr) ax (by decide) (.int .i64 (SQ+1));have a9:=(ar.non f5).opBlk ax (Nf (i:=1) (.int .i64 (SQ+1)));generalize v4.setCell ⟨gO,1,none⟩ (.int .i64 (SQ+1))=w5 at*;clear ks m5 z5 ax bs f5 bq cd ar b0 Y4 df;have B0:=(bg.fr bw zq).drew;have M0:cI w5.drew b (ai+2) (k2:Int):=bw.cell L2 zq;have F0:Fr Non w1 w5.drew:=bw.drew;have dt:IntKind.i64.wrap (LT+(k2:Int)%3)=LT+(k2:Int)%3:=IntWalk.i64_in _ (by omega);refine Cn (S:=fun w'=>Blk w' w.heap.size 32 CS/\cI w' b (ai+2) (k2:Int)) 9 (by kernel_rfl) ?_;have uu:=aI B0 M0;refine tkG 0 uu (h:=tkG 1 uu (h:=tkG 3 uu (h:=tkG 4 uu (h:=tkG 5 uu (h:=tkG 6 uu (h:=?_))))));clear uu;simp only [zl];refine Bo 2 (by kernel_rfl) rfl (fun K' hK=> ?_);go_simp;go_wp2_with (go_at_call 94;(with_reducible refine (kl.out _ (a5.trans F0 zr) cq.drew).mono ?_);rintro _ v1 ⟨rfl,ab⟩;go_loud (have B1:=B0.fr ab zq;have M1:=ab.cell M0 zq));refine hK.out _ _ ⟨B1,M1⟩ (fun hZ=> ?_);clear hZ hK K';try simp only [Ad,zl]
   refine tkG 7 ⟨B1,M1⟩ (h:=tkG 8 ⟨B1,M1⟩ (h:=?_));simp only [zl];have fq:Fr Non w5 v1:=((Fr.refl Non w5).drew).trans ab zr;have a7:=co.fr fq zq;have m8:cI v1 gO 3 y0.at_:=(a7.cell 3).trans dc.out;have z8:=a7.frozen 3;refine Ci (by kernel_rfl) ?_;refine oG 9 (fun K' hK=> ?_);go_simp;have AT:(Value.int .i64 (LT+(k2:Int)%3))=.int .i64 (LT+(k2:Int)%3):=rfl;have fv:Fr Non w1 (v1.setCell ⟨gO,3,none⟩ (.int .i64 (LT+(k2:Int)%3))):=(F0.trans ab zr).setNew b8 3 _;have c5:Blk (v1.setCell ⟨gO,3,none⟩ (.int .i64 (LT+(k2:Int)%3))) gO 44 (nxL y0 A4 c4 HL (SQ+1) (LT+(k2:Int)%3)).cells:=a7.set 3 (.int .i64 (LT+(k2:Int)%3));have cm:=Own.setFar (i:=3) (cj.fr fq zr) a7 (by decide) (.int .i64 (LT+(k2:Int)%3));have be:=(a9.non fq).opBlk a7 (Nf (i:=3) (.int .i64 (LT+(k2:Int)%3)));have ba:=Ap9 (s:=SQ+1) (a:=LT+(k2:Int)%3) be (RowAt.of_own cm);have af:(nxL y0 A4 c4 HL (SQ+1) (LT+(k2:Int)%3)).op.ok:=Ap8 ae ⟨As7 bk.out.1 (by decide),bk.out.2⟩ ⟨by omega,by omega⟩ ⟨by omega,by omega⟩;have ac:FewN (nxL y0 A4 c4 HL (SQ+1) (LT+(k2:Int)%3)).op:=⟨bk.out.1,(by show (1:Int)<=y0.by_;rw [aq];omega),(by show y0.by_<=4;rw [aq];omega)⟩;have al:(nxL y0 A4 c4 HL (SQ+1) (LT+(k2:Int)%3)).by_=(D:Int):=aq;have cz:l≠[]:=fun e=>hz (ah.out e);generalize nxL y0 A4 c4 HL (SQ+1) (LT+(k2:Int)%3)=X at*;refine hK.out _ _ trivial (fun hZ=> ?_);clear hZ hK K';try simp only [Ad,zl]
   refine oD ?_;go_simp;generalize v1.setCell ⟨gO,3,none⟩ (.int .i64 (LT+(k2:Int)%3))=v2 at*;clear co a7 m8 z8 cm be cj a9 cq M0 M1 B0 B1 F0 fq ab kl bk ae AT;have dm:=Bk (P:=zp) gO 44 underlying44 rfl (cs:=X.cells) hi;have fw:Fr Non w v2:=a5.trans fv zr;have bz:=br.fr fv zq;have a4:=lh (Kn X D (w.heap.size+2) v2 al (by omega) ba af)
   have ao:Hid (∀y:OpL,y.op=sgn X.op->y.op.ok/\((l=[]->An CD [] y.op=0)/\FewN y.op)):=fun y e=>by
    rw [e];exact ⟨Mp af,fun e=>absurd e cz,FewN.sgn ac⟩
   have cv:(zp.info? 44).map (·.size)=some X.cells.size:=hi;clear a0 ah ba af al ac;unfold Gd at a4;generalize sgn X.op=SO at*;generalize X.cells=XC at*;go_wp2_with (go_at_call 15;(with_reducible refine (a4.out).mono ?_);rintro _ w5 ⟨y,rfl,bf,bj,f5⟩;go_loud (have bb:=bz.fr f5 zq;have aw:=lh (ao.out y bf);have hd:=lh (fun wz hz=>ad.out y w5 wz aw.out.1 bj (fw.trans f5 zr) bb hz aw.out.2);have bi:=Bp (P:=zp) (w.heap.size+1) 44 (cs:=y.cells) hi (old:=zO) rfl (Df y);have bt:(zp.info? 44).map (·.size)=some y.cells.size:=hi;clear ad aw bf bj ao a4;generalize y.cells=YC at*));have bu:=bb.setRow (cs:=YC);have bp:=lh (hd.out _ (Gc YC))
   (try simp only [Exit.inBlock,Exit.then])
   refine En (t:=44) rfl rfl bu rfl underlying44 bt rfl ?_;exact bp.out
end Oq
namespace Oq
attribute [local go_sem] At1 At2
attribute [local go_sem ↓] Cz Es
def rg0 (A:Option Addr) (c:Nat) (cs:List Cd):RG:=⟨A,c,cs,none,0,[],none,0,none,0,[],none,0,[],[]⟩
theorem Aq6 {A:Option Addr} {c:Nat} {cs:List Cd} {w:World} {base:Nat} (h:RowAt w base 104 5 A cs.length c (cs.flatMap Cd.cells)) (hf:cs.length<=1000) (hk:∀c∈cs,c.s<18446744073709551616):(rg0 A c cs).own w base where
 cards:=h
 ops:=RowAt.nil _ _ _ _
 each _ hx:=absurd hx At0
 same:=rfl
 ok _ hx:=absurd hx At0
 ids:=RowAt.nil _ _ _ _
 ups:=RowAt.nil _ _ _ _
 eachU _ hx:=absurd hx At0
 sameU:=rfl
 ins:=RowAt.nil _ _ _ _
 eachN _ hx:=absurd hx At0
 sameN:=rfl
 rows:=Rows.nil
 cfew:=hf
 cok:=hk
theorem Aq7 (n c:Nat) (A:Option Addr) (w:World):
  Calls zp 41 #[.slice A n c] w fun e w'=>e=.returned (.agg #[.slice A n c,.slice none 0 0,.slice none 0 0,.slice none 0 0,.slice none 0 0])/\Fr Non w w':=by
 have hG:(zp.info? 32).map (·.size)=some (#[.slice A n c,.slice none 0 0,.slice none 0 0,.slice none 0 0,.slice none 0 0]:Array Value).size:=Cx;have br:=Blk.new w 32 zG;have f0:Fr Non w (w.alloc (.cells zG 32)):=(Fr.refl Non w).alloc _;have hst:=Bp (P:=zp) w.heap.size 32 (cs:=#[.slice A n c,.slice none 0 0,.slice none 0 0,.slice none 0 0,.slice none 0 0]) hG (old:=zG) rfl (by simp [Value.oneCell']);go_enter func41,ntmps41;go_upto_region 1 with (fail)
 have hz2:=br.setRow (cs:=#[.slice A n c,.slice none 0 0,.slice none 0 0,.slice none 0 0,.slice none 0 0]);have fz:=f0.setRow (g:=w.heap.size) (fun hh=>absurd hh (by omega)) #[.slice A n c,.slice none 0 0,.slice none 0 0,.slice none 0 0,.slice none 0 0];go_wp2_with fail
 (try simp only [Exit.inBlock,Exit.then])
 refine En (t:=32) rfl rfl hz2 rfl underlying32 hG rfl ?_;exact ⟨rfl,fz⟩
theorem Aq8 {w:World} {B n c m:Nat} {A:Option Addr} {xs:List Value} (h:Rd w B 1 A n xs) (hm:m<=n) (hc:n<=c):Rd w B 1 (if c=m then A else A.map (fun x=>x.add m)) (n-m) (xs.drop m):=by
 have hl:=h.1;refine ⟨by rw [Au2];omega,?_⟩
 by_cases hz:n-m=0
 · exact .inl hz
 ·
  have hcm:¬c=m:=by omega
  rw [if_neg hcm]
  rcases h.2 with h0|⟨b,off,rfl,hb,hx⟩
  · exact absurd h0 (by omega)
  ·
   refine .inr ⟨b,off+m,by simp [Addr.add],hb,fun j u hu=> ?_⟩;rw [List.getElem?_drop] at hu;have h5:=hx (m+j) u hu;rw [<- Nat.add_assoc] at h5;exact h5
def Kp (w:World) (e:Ending) (w':World):Prop:=
 ∃r:RG,e=.returned (.agg r.cells)/\Fr Non w w'/\r.own w' w.heap.size/\r.cards=Bl 0 [1,2,3,1]/\r.l≠[]/\r.l.length<=14
theorem Aq9:∀c∈Bl 0 [1,2,3,1],c.s<18446744073709551616:=fun c hc=>by
 obtain ⟨xs,h1,_,_,h4⟩:=Mo [1,2,3,1] 0 (by decide);rw [<- h1] at hc;obtain ⟨x,hx,rfl⟩:=List.mem_map.1 hc;exact h4 x hx
end Oq
namespace Oq
attribute [local go_sem] At1 At2
attribute [local go_sem ↓] Cz Es Cq Ew
structure E6 (r:RG) (base oB:Nat) (wf v:World) (y:OpL):Prop where
 b:Blk v oB 44 y.cells
 own:y.own v base
 ok:y.op.ok
 few:FewN y.op
 first:r.l=[]->y.kind=1/\An r.cards [] y.op=0
 fr:Fr Non wf v
 new:wf.heap.size<=oB
theorem E6.non {r:RG} {base oB:Nat} {wf v v':World} {y:OpL} (s:E6 r base oB wf v y) (hf:Fr Non v v'):E6 r base oB wf v' y:=
 ⟨s.b.fr hf zq,s.own.non hf,s.ok,s.few,s.first,s.fr.trans hf zr,s.new⟩
theorem E6.put {r:RG} {base oB:Nat} {wf v:World} {y:OpL} (s:E6 r base oB wf v y) {z:OpL} {o:Op} (hk:y.kind≠1) (hz:z.op=sgn o) (ho:z.own v base) (hok:o.ok) (hfew:FewN o):E6 r base oB wf (v.setRow oB z.cells) z where
 b:=s.b.setRow
 own:=ho.opBlk s.b ((Fr.refl (One oB) v).setRow (fun _=>rfl) _)
 ok:=by rw [hz];exact Mp hok
 few:=by rw [hz];exact hfew.sgn
 first h:=absurd (s.first h).1 hk
 fr:=s.fr.setRow (fun hh=>absurd hh (by have:=s.new;omega)) _
 new:=s.new
theorem Ts:OpL.zero.op.ok:=by
 have z:I64 0:=⟨by decide,by decide⟩;have u:U64 0:=by unfold U64;decide
 have e:∀{α:Type} {P:α->Prop},(([]:List α).length<=1000/\∀x∈([]:List α),P x):=⟨by simp,fun _ h=>absurd h At0⟩;exact {by_:=z,sq:=z,kind:=z,at_:=z,past:=e,dev:=z,old:=z,mem:=z,role:=z,path:=e,epoch:=⟨z,z,u⟩,n:=z,body:=by decide,refs:=e,of:=⟨z,z,u⟩,guards:=e,need:=z,wait:=z,boxes:=e,pub:=u,hist:=e,r:=u,s:=u}
theorem Ar0 {w:World} {base:Nat} {y:OpL} (h:y.own w base) (D1 D2:Nat):({OpL.zero with by_:=y.by_,sq:=y.sq,kind:=2,at_:=y.at_,pastA:=y.pastA,pastC:=y.pastC,past:=y.past,dev:=1+(D1:Int),role:=1+(D2:Int)}:OpL).own w base:={OpL.zero_own w base with past:=h.past}
theorem Ar1 {w:World} {base:Nat} {y:OpL} (h:y.own w base) (D1 D2:Nat):({OpL.zero with by_:=y.by_,sq:=y.sq,kind:=13,at_:=y.at_,pastA:=y.pastA,pastC:=y.pastC,past:=y.past,dev:=1+(D1:Int),old:=1+(D2:Int),of:=⟨1,1,0⟩}:OpL).own w base:={OpL.zero_own w base with past:=h.past}
theorem Tt {y:OpL} (h:y.op.ok) {D1 D2:Nat} (h1:D1<=100) (h2:D2<=100):({OpL.zero with by_:=y.by_,sq:=y.sq,kind:=2,at_:=y.at_,pastA:=y.pastA,pastC:=y.pastC,past:=y.past,dev:=1+(D1:Int),role:=1+(D2:Int)}:OpL).op.ok:={Ts with by_:=h.by_,sq:=h.sq,kind:=(show I64 2 from ⟨by decide,by decide⟩),at_:=h.at_,past:=h.past,dev:=(show I64 (1+(D1:Int)) from ⟨by omega,by omega⟩),role:=(show I64 (1+(D2:Int)) from ⟨by omega,by omega⟩)}
theorem Ar2:(Id.mk 1 1 0).ok:=⟨⟨by decide,by decide⟩,⟨by decide,by decide⟩,(by show (0:Nat)<18446744073709551616;decide)⟩
theorem Tu {y:OpL} (h:y.op.ok) {D1 D2:Nat} (h1:D1<=100) (h2:D2<=100):({OpL.zero with by_:=y.by_,sq:=y.sq,kind:=13,at_:=y.at_,pastA:=y.pastA,pastC:=y.pastC,past:=y.past,dev:=1+(D1:Int),old:=1+(D2:Int),of:=⟨1,1,0⟩}:OpL).op.ok:={Ts with by_:=h.by_,sq:=h.sq,kind:=(show I64 13 from ⟨by decide,by decide⟩),at_:=h.at_,past:=h.past,dev:=(show I64 (1+(D1:Int)) from ⟨by omega,by omega⟩),old:=(show I64 (1+(D2:Int)) from ⟨by omega,by omega⟩),of:=Ar2}
theorem Ar3 {y:OpL} {base:Nat} {w:World} (h:y.own w base) (hok:y.op.ok) (hf:FewN y.op) {D1 D2:Nat} (h1:D1<=100) (h2:D2<=100):Calls zp 15 #[.agg #[.int .i64 y.by_,.int .i64 y.sq,.int .i64 2,.int .i64 y.at_,.slice y.pastA y.past.length y.pastC,.int .i64 (1+(D1:Int)),.int .i64 0,.int .i64 0,.int .i64 (1+(D2:Int)),.slice none 0 0,.int .i64 0,.int .i64 0,.int .u64 0,.int .i64 0,.slice none 0 0,.slice none 0 0,.int .i64 0,.int .i64 0,.int .u64 0,.slice none 0 0,.int .i64 0,.int .i64 0,.slice none 0 0,.int .u64 0,.slice none 0 0,.int .u64 0,.int .u64 0]] w (Gd ({OpL.zero with by_:=y.by_,sq:=y.sq,kind:=2,at_:=y.at_,pastA:=y.pastA,pastC:=y.pastC,past:=y.past,dev:=1+(D1:Int),role:=1+(D2:Int)}:OpL).op base w):=by
 obtain ⟨_,h3,h4⟩:=hf
 have h5:y.by_=((y.by_.toNat:Nat):Int):=by
  have:(1:Int)<=y.by_:=h3;omega
 exact Kn ({OpL.zero with by_:=y.by_,sq:=y.sq,kind:=2,at_:=y.at_,pastA:=y.pastA,pastC:=y.pastC,past:=y.past,dev:=1+(D1:Int),role:=1+(D2:Int)}:OpL) y.by_.toNat base w h5 (by have:y.by_<=4:=h4;omega) (Ar0 h D1 D2) (Tt hok h1 h2)
theorem Ar4 {y:OpL} {base:Nat} {w:World} (h:y.own w base) (hok:y.op.ok) (hf:FewN y.op) {D1 D2:Nat} (h1:D1<=100) (h2:D2<=100):Calls zp 15 #[.agg #[.int .i64 y.by_,.int .i64 y.sq,.int .i64 13,.int .i64 y.at_,.slice y.pastA y.past.length y.pastC,.int .i64 (1+(D1:Int)),.int .i64 (1+(D2:Int)),.int .i64 0,.int .i64 0,.slice none 0 0,.int .i64 0,.int .i64 0,.int .u64 0,.int .i64 0,.slice none 0 0,.slice none 0 0,.int .i64 1,.int .i64 1,.int .u64 0,.slice none 0 0,.int .i64 0,.int .i64 0,.slice none 0 0,.int .u64 0,.slice none 0 0,.int .u64 0,.int .u64 0]] w (Gd ({OpL.zero with by_:=y.by_,sq:=y.sq,kind:=13,at_:=y.at_,pastA:=y.pastA,pastC:=y.pastC,past:=y.past,dev:=1+(D1:Int),old:=1+(D2:Int),of:=⟨1,1,0⟩}:OpL).op base w):=by
 obtain ⟨_,h3,h4⟩:=hf
 have h5:y.by_=((y.by_.toNat:Nat):Int):=by
  have:(1:Int)<=y.by_:=h3;omega
 exact Kn ({OpL.zero with by_:=y.by_,sq:=y.sq,kind:=13,at_:=y.at_,pastA:=y.pastA,pastC:=y.pastC,past:=y.past,dev:=1+(D1:Int),old:=1+(D2:Int),of:=⟨1,1,0⟩}:OpL) y.by_.toNat base w h5 (by have:y.by_<=4:=h4;omega) (Ar1 h D1 D2) (Tu hok h1 h2)
theorem Kq (n a:Nat):(n:Int).tdiv (a:Int)=((n/a:Nat):Int):=by rw [At9 (Au3 _)];rfl
theorem Kr (n a:Nat):(n:Int).tmod (a:Int)=((n%a:Nat):Int):=by rw [As8 (Au3 _)];rfl
theorem Ar5 (B n c:Nat) (A:Option Addr) (l0:List Int) (w:World) (hn:Hid (l0.length=n)) (hr:Rd w B 1 A n (l0.map Iv)) (hnc:n<=c) (_hnm:c<=9223372036854775807) (hok:∀x∈l0,I64 x):
  Calls zp 76 #[.slice A n c] w (Kp w):=by
 have hG:∀r:RG,(zp.info? 32).map (·.size)=some r.cells.size:=fun r=>Cx;have kc:=lh (fun (w':World) (hr:Rd w' w'.heap.size 1 (some ⟨w.heap.size+1,0,none⟩) 4 (([1,2,3,1]:List Int).map Iv))=>Wy 4 4 (some ⟨w.heap.size+1,0,none⟩) [1,2,3,1] w' rfl (by decide) hr);have kn:=lh (fun (n' c':Nat) (A':Option Addr) (w':World)=>Aq7 n' c' A' w');have kx:=lh (fun (r:RG) (B' n' c':Nat) (A':Option Addr) (l1:List Int) (w':World) h hcs hn hr hok=>Aq5 w.heap.size B' n' c' r A' l1 w' h hcs hn hr hok);have ka:=lh (fun (r:RG) (x:OpL) (w':World) h (hx:x.own w' w.heap.size) hb hok=>Aj0 w.heap.size r x w' h hx.lies hb hok);have br:=(Blk.new w 32 zG).alloc (.cells #[.int .i64 1,.int .i64 2,.int .i64 3,.int .i64 1] 3);have bi:=Blk.new (w.alloc (.cells zG 32)) 3 #[.int .i64 1,.int .i64 2,.int .i64 3,.int .i64 1];rw [As9] at bi;have f0:Fr Non w ((w.alloc (.cells zG 32)).alloc (.cells #[.int .i64 1,.int .i64 2,.int .i64 3,.int .i64 1] 3)):=((Fr.refl Non w).alloc _).alloc _
 have c2:w.heap.size+2<=((w.alloc (.cells zG 32)).alloc (.cells #[.int .i64 1,.int .i64 2,.int .i64 3,.int .i64 1] 3)).heap.size:=by
  rw [As9,As9];exact At3 _
 go_enter func76,ntmps76;go_upto_region 1 with (fail)
 generalize hw0:(w.alloc (.cells zG 32)).alloc (.cells #[.int .i64 1,.int .i64 2,.int .i64 3,.int .i64 1] 3)=w0 at*;unfold Ps at kc
 have bs:Rd w0 w0.heap.size 1 (some ⟨w.heap.size+1,0,none⟩) 4 (([1,2,3,1]:List Int).map Iv):=by
  rw [<- hw0] at bi ⊢;exact Rd.blk (n:=4) (size:=1) bi rfl
 go_upto_region 2 with (first
  |(go_at_call 42;(with_reducible refine (kc.out _ bs).mono ?_);rintro _ w1 ⟨A1,c1,rfl,o1,f1⟩;have b8:=f0.trans f1 zr;have bv:=br.fr f1 zq)
  |(go_at_call 41;(with_reducible refine (kn.out _ _ _ _).mono ?_);rintro _ w2 ⟨rfl,f2⟩;have b2:=b8.trans f2 zr;have ak:=bv.fr f2 zq;have o2:=o1.fr f2 zr;have bn:=Blk.new w2 32 zG;have aj:=Bp (P:=zp) w2.heap.size 32 (cs:=#[.slice A1 4 c1,.slice none 0 0,.slice none 0 0,.slice none 0 0,.slice none 0 0]) (hG (rg0 A1 c1 (Bl 0 [1,2,3,1]))) (old:=zG) rfl (by simp [Value.oneCell'])))
 have ba:=(ak.alloc (.cells zG 32)).setRow_far (g':=w2.heap.size) (by have:=ak.lt;omega) (cs:=#[.slice A1 4 c1,.slice none 0 0,.slice none 0 0,.slice none 0 0,.slice none 0 0]);have be:Blk ((w2.alloc (.cells zG 32)).setRow w2.heap.size #[.slice A1 4 c1,.slice none 0 0,.slice none 0 0,.slice none 0 0,.slice none 0 0]) w2.heap.size 32 (rg0 A1 c1 (Bl 0 [1,2,3,1])).cells:=bn.setRow (cs:=#[.slice A1 4 c1,.slice none 0 0,.slice none 0 0,.slice none 0 0,.slice none 0 0]);have fG:Fr Non w2 ((w2.alloc (.cells zG 32)).setRow w2.heap.size #[.slice A1 4 c1,.slice none 0 0,.slice none 0 0,.slice none 0 0,.slice none 0 0]):=((Fr.refl Non w2).alloc _).setRow (fun hh=>absurd hh (by omega)) _;have cg:w.heap.size<w2.heap.size:=ak.lt;have f3:=b2.trans fG zr;have ar:(rg0 A1 c1 (Bl 0 [1,2,3,1])).own ((w2.alloc (.cells zG 32)).setRow w2.heap.size #[.slice A1 4 c1,.slice none 0 0,.slice none 0 0,.slice none 0 0,.slice none 0 0]) w.heap.size:=Aq6 ((RowAt.of_own (o2.fr fG zr)).lower (by omega)) (by decide) Aq9;clear aj bn ak bv br o1 o2 fG b8 b2 bs;obtain ⟨gv,ce⟩:=Aa w2.heap.size;rw [ce.out] at be ar ba f3 cg ⊢;generalize (w2.alloc (.cells zG 32)).setRow gv #[.slice A1 4 c1,.slice none 0 0,.slice none 0 0,.slice none 0 0,.slice none 0 0]=w3 at*;have ax:(rg0 A1 c1 (Bl 0 [1,2,3,1])).cards=Bl 0 [1,2,3,1]:=rfl;have bc:(rg0 A1 c1 (Bl 0 [1,2,3,1])).l=[]:=rfl;generalize rg0 A1 c1 (Bl 0 [1,2,3,1])=r0 at*;clear bi kc kn hw0 f0 c2;go_wp2_with fail
 go_loopw [4] (fun v wr=>∃(j:Nat) (r:RG),v=.int .i64 (j:Int)/\j<=14/\Blk wr gv 32 r.cells/\r.own wr w.heap.size/\r.cards=Bl 0 [1,2,3,1]/\Hid (((j=0/\r.l=[])\/(0<j/\r.l≠[]))/\r.l.length<=j)/\Blk wr w.heap.size 32 zG/\Fr Non w wr) (fun v _=>14-(intOf v).toNat)
 case atStart=>exact ⟨0,r0,rfl,by omega,be,ar,ax,⟨.inl ⟨rfl,bc⟩,by rw [bc];exact At3 _⟩,ba,f3⟩
 case round=>
 clear be ar ax bc ba f3 r0;obtain ⟨j,r,rfl,hj,bn,ro,a5,al,br,hf⟩:=hrel
 by_cases hgo:j<14/\(j=0\/4*j<n)
 ·
  have t1:decide ((j:Int)<14)=true:=decide_eq_true (by omega)
  have ht:((j:Int)==0)=true\/(((j:Int)==0)=false/\decide (4*(j:Int)<(n:Int))=true):=by
   by_cases h1:j=0
   · exact .inl (by simp [h1])
   · exact .inr ⟨by simp;omega,decide_eq_true (by omega)⟩
  have e1:IntKind.i64.wrap (4*(j:Int))=4*(j:Int):=IntWalk.i64_in _ (by omega);obtain ⟨m,hm⟩:∃m:Nat,min n (4*j)=m:=⟨_,rfl⟩;have e2:min (n:Int) (4*(j:Int))=(m:Int):=by omega
  have e3:min (4*(j:Int)) (n:Int)=(m:Int):=by omega
  have dc:m<=n:=by omega
  go_upto_region 3 with (fail)
  go_cut [25] from 13 to 25 (fun s wc=>wr=wc/\s=.bool true)
  case first=>
   rcases ht with t2|⟨t2,t3⟩
   all_goals
    go_wp2_with fail;go_meet;exact ⟨rfl,rfl⟩
  case rest=>
  obtain ⟨rfl,rfl⟩:=hcut;clear ht;go_upto_region 6 with (fail)
  have cc:w.heap.size<=wr.heap.size:=hf.size
  have a2:Rd w B 1 (if c=m then A else A.map (fun x=>x.add m)) (n-m) ((l0.drop m).map Iv):=by
   rw [List.map_drop];exact Aq8 hr dc hnc
  have kq:=lh (fun (w':World) (h':Fr Non wr w')=>kx.out r B (n-m) (c-m) (if c=m then A else A.map (fun x=>x.add m)) (l0.drop m) w' (ro.non h') a5 (by show (l0.drop m).length=n-m;rw [Au2,hn.out]) (a2.fr (hf.trans h' zr) zr) (fun x hx=>hok x (Au4 hx)));have ao:∀x∈l0.drop m,I64 x:=fun x hx=>hok x (Au4 hx);obtain ⟨AP,bg⟩:=Aa (if c=m then A else A.map (fun x=>x.add m));obtain ⟨L,hL⟩:=Aa (n-m);rw [hL.out,bg.out] at kq a2;rw [hL.out,bg.out];have dl:(L:Int)<=9223372036854775807:=by have:=hL.out;omega
  clear bg hL;have hl:=Bk (P:=zp) gv 32 underlying32 rfl (hG r);have ad:(zp.info? 44).map (·.size)=some 27:=by kernel_rfl
  unfold Ko at kq;go_upto_region 7 with (go_at_call 44;(with_reducible refine (kq.out _ (Fr.refl _ _)).mono ?_);rintro _ v1 ⟨y,rfl,a3,b7,f1,bf,bu⟩;(have bz:=Blk.new v1 44 zO);(have aj:=Bp (P:=zp) v1.heap.size 44 (cs:=y.cells) ad (old:=zO) rfl (Df y)))
  have bo:=bz.setRow (cs:=y.cells);have f2:Fr Non v1 ((v1.alloc (.cells zO 44)).setRow v1.heap.size y.cells):=((Fr.refl Non v1).alloc _).setRow (fun hh=>absurd hh (by omega)) _;have bh:=(b7.lower cc).non f2;have ap:wr.heap.size<=v1.heap.size:=f1.size;have f3:=f1.trans f2 zr;obtain ⟨oB,b1⟩:=Aa v1.heap.size;rw [b1.out] at bo f2 f3 bh ap ⊢;clear aj bz kq b7 f1 f2 hl b1;generalize (v1.alloc (.cells zO 44)).setRow oB y.cells=w4 at*;clear v1;have s4:E6 r w.heap.size oB wr w4 y:=⟨bo,bh,a3,bu,fun h=>⟨An5 (bf h),bf h⟩,f3,ap⟩;clear bo bh a3 bu bf f3 ap
  go_upto_if 40 with (fail)
  obtain ⟨T8,aw⟩:=Aa (decide (3<L));have t8:decide ((L:Int)>3)=T8:=by rw [<- aw.out];exact decide_eq_decide.2 (by omega)
  have cw:decide (3<L)=T8:=aw.out;have cn:decide ((3:Int)<(L:Int))=T8:=by rw [<- aw.out];exact decide_eq_decide.2 (by omega)
  go_cut [7] from 38 to 44 (fun s wc=>∃nn:Nat,s=.int .i64 (nn:Int)/\nn<=1000000/\Fr Non w4 wc)
  case first=>
   cases T8
   case false=>
    have h3:¬3<L:=of_decide_eq_false aw.out;have dk:¬(3:Int)<(L:Int):=by omega
    go_wp2_with fail;go_meet;exact ⟨0,rfl,by omega,Fr.refl _ _⟩
   case true=>
    have h3:3<L:=of_decide_eq_true aw.out;obtain ⟨b3,o3,u,rfl,_,hu,b9⟩:=a2.at h3;rw [At7] at hu;obtain ⟨q3,cb,rfl⟩:=Option.map_eq_some_iff.1 hu;have bp:=ao q3 (At8 cb);have b4:=lh (fun (v:World)=>Ig q3 1000000 v bp.1 bp.2 (by omega) (by omega));have db:=Ie (n:=q3) (m:=1000000) (by omega);obtain ⟨nn,ai⟩:∃nn:Nat,C6 q3 1000000=(nn:Int):=⟨(C6 q3 1000000).toNat,by omega⟩;rw [ai] at b4 db;replace ai:=lh ai;have dd:cI w4 b3 (o3+3) q3:=(hf.trans s4.fr zr).cell b9 zq;have i1:(3:Int)<(L:Int):=by omega
    clear hu cb bp b9 a2 ao;go_wp2_with (go_at_call 39;(with_reducible refine (b4.out _).mono ?_);rintro _ _ ⟨rfl,rfl⟩);go_meet;exact ⟨nn,rfl,by omega,Fr.refl _ _⟩
  case rest=>
  obtain ⟨nn,rfl,ai,f5⟩:=hcut;have s5:=s4.non f5;clear s4 f5 t8 cw cn aw a2 ao;generalize wc=w5 at*;have o2:cI w5 oB 2 y.kind:=s5.b.cell 2;obtain ⟨K1,ab⟩:=Aa (y.kind==1);obtain ⟨M1,ac⟩:=Aa (nn%3==1);obtain ⟨CC,aa⟩:=Aa (!K1&&M1);go_upto_region 10 with (fail)
  go_cut [52] from 45 to 52 (fun s wc=>w5=wc/\s=.bool CC)
  case first=>
   have c6:(y.kind==1)=K1:=ab.out;have dg:(y.kind !=1)=!K1:=by rw [<- ab.out];rfl
   have cj:(nn:Int).tmod 3=((nn%3:Nat):Int):=by rw [As8 (by omega)];rfl
   have cr:(((nn%3:Nat):Int)==1)=M1:=by rw [<- ac.out,Bool.eq_iff_iff,beq_iff_eq,beq_iff_eq];omega
   have cl:(nn%3==1)=M1:=ac.out;have bj:=aa.out;have cd:IntKind.i64.wrap ((nn%3:Nat):Int)=((nn%3:Nat):Int):=IntWalk.i64_in _ (by omega);generalize nn%3=NM at*
   cases K1
   all_goals
    cases M1
    all_goals
     go_wp2_with fail;go_meet;exact ⟨rfl,by rw [<- bj];rfl⟩
  case rest=>
  obtain ⟨rfl,rfl⟩:=hcut
  go_upto_if 52 with (fail)
  go_cut [] from 53 to 70 (fun wc=>∃z:OpL,E6 r w.heap.size oB wr wc z)
  case first=>
   cases CC
   case false=>
    go_wp2_with fail;go_meet;exact ⟨y,s5⟩
   case true=>
    have a4:y.kind≠1:=by
     rw [Au5,Au6] at aa;have h:=aa.out.1;rw [<- ab.out] at h;exact beq_eq_false_iff_ne.1 h
    obtain ⟨N1,ae⟩:=Aa (nn/3);obtain ⟨N2,ag⟩:=Aa (nn/15);have dh:(nn:Int).tdiv 3=(N1:Int):=by rw [<- ae.out];exact Kq nn 3
    have cq:(nn:Int).tdiv 15=(N2:Int):=by rw [<- ag.out];exact Kq nn 15
    have ci:(nn:Int)/3=(N1:Int):=by rw [<- ae.out];rfl
    have cm:(nn:Int)/15=(N2:Int):=by rw [<- ag.out];rfl
    have cf:N1<=1000000:=by rw [<- ae.out];exact As7 (At4 _ _) ai
    have df:N2<=1000000:=by rw [<- ag.out];exact As7 (At4 _ _) ai
    have ch:IntKind.i64.wrap (N1:Int)=(N1:Int):=IntWalk.i64_in _ (by omega);have cv:IntKind.i64.wrap (N2:Int)=(N2:Int):=IntWalk.i64_in _ (by omega);obtain ⟨D1,ah⟩:=Aa (N1%5);obtain ⟨D2,af⟩:=Aa (N2%3);have ck:(N1:Int).tmod 5=(D1:Int):=by rw [<- ah.out];exact Kr N1 5
    have dj:(N2:Int).tmod 3=(D2:Int):=by rw [<- af.out];exact Kr N2 3
    have di:(N1:Int)%5=(D1:Int):=by rw [<- ah.out];rfl
    have c9:(N2:Int)%3=(D2:Int):=by rw [<- af.out];rfl
    have ay:D1<=100:=by rw [<- ah.out];have:=At5 N1 (show 0<5 by decide);omega
    have a0:D2<=100:=by rw [<- af.out];have:=At5 N2 (show 0<3 by decide);omega
    have e5:IntKind.i64.wrap (D1:Int)=(D1:Int):=IntWalk.i64_in _ (by omega);have e6:IntKind.i64.wrap (D2:Int)=(D2:Int):=IntWalk.i64_in _ (by omega);have e7:IntKind.i64.wrap (1+(D1:Int))=1+(D1:Int):=IntWalk.i64_in _ (by omega);have e8:IntKind.i64.wrap (1+(D2:Int))=1+(D2:Int):=IntWalk.i64_in _ (by omega);clear ah af ae ag ab ac aa;have c0:cI w5 oB 0 y.by_:=s5.b.cell 0;have c1:cI w5 oB 1 y.sq:=s5.b.cell 1;have c3:cI w5 oB 3 y.at_:=s5.b.cell 3;have c4:cS w5 oB 4 y.pastA y.past.length y.pastC:=s5.b.cell 4;have a6:=lh (fun (v:World) (hv:Fr Non w5 v)=>Ar3 (s5.own.non hv) s5.ok s5.few ay a0);have aq:=lh (fun (v:World) (z:OpL) (hv:Fr Non w5 v) (h1:z.op=sgn ({OpL.zero with by_:=y.by_,sq:=y.sq,kind:=2,at_:=y.at_,pastA:=y.pastA,pastC:=y.pastC,past:=y.past,dev:=1+(D1:Int),role:=1+(D2:Int)}:OpL).op) (h2:z.own v w.heap.size)=>(s5.non hv).put (z:=z) a4 h1 h2 (Tt s5.ok ay a0) s5.few);have bY:=lh (fun (v:World) (hv:Fr Non w5 v)=>s5.b.fr hv zq);unfold Gd at a6;generalize ({OpL.zero with by_:=y.by_,sq:=y.sq,kind:=2,at_:=y.at_,pastA:=y.pastA,pastC:=y.pastC,past:=y.past,dev:=1+(D1:Int),role:=1+(D2:Int)}:OpL).op=OX at*;clear s5 a4;go_wp2_with (go_at_call 15;(with_reducible refine (a6.out _ (Fr.refl _ _)).mono ?_);rintro _ v6 ⟨z,rfl,hz,bl,f6⟩;(have de:=bY.out v6 f6);(have aj:=Bp (P:=zp) oB 44 (cs:=z.cells) ad (old:=y.cells) rfl (Df z)));go_meet;exact ⟨z,aq.out v6 z f6 hz bl⟩
  case rest=>
  obtain ⟨z,s6⟩:=hcut;clear s5 o2 ab ac aa;generalize wc=w6 at*;have o2:cI w6 oB 2 z.kind:=s6.b.cell 2;obtain ⟨K1,ab⟩:=Aa (z.kind==1);obtain ⟨M1,ac⟩:=Aa (nn%6==2);obtain ⟨CC,aa⟩:=Aa (!K1&&M1);go_upto_region 12 with (fail)
  go_cut [78] from 71 to 78 (fun s wc=>w6=wc/\s=.bool CC)
  case first=>
   have c6:(z.kind==1)=K1:=ab.out;have dg:(z.kind !=1)=!K1:=by rw [<- ab.out];rfl
   have cj:(nn:Int).tmod 6=((nn%6:Nat):Int):=by rw [As8 (by omega)];rfl
   have cr:(((nn%6:Nat):Int)==2)=M1:=by rw [<- ac.out,Bool.eq_iff_iff,beq_iff_eq,beq_iff_eq];omega
   have cl:(nn%6==2)=M1:=ac.out;have bj:=aa.out;have cd:IntKind.i64.wrap ((nn%6:Nat):Int)=((nn%6:Nat):Int):=IntWalk.i64_in _ (by omega);generalize nn%6=NM at*
   cases K1
   all_goals
    cases M1
    all_goals
     go_wp2_with fail;go_meet;exact ⟨rfl,by rw [<- bj];rfl⟩
  case rest=>
  obtain ⟨rfl,rfl⟩:=hcut
  go_upto_if 78 with (fail)
  go_cut [] from 79 to 97 (fun wc=>∃z':OpL,E6 r w.heap.size oB wr wc z')
  case first=>
   cases CC
   case false=>
    go_wp2_with fail;go_meet;exact ⟨z,s6⟩
   case true=>
    have a4:z.kind≠1:=by
     rw [Au5,Au6] at aa;have h:=aa.out.1;rw [<- ab.out] at h;exact beq_eq_false_iff_ne.1 h
    obtain ⟨N1,ae⟩:=Aa (nn/6);obtain ⟨N2,ag⟩:=Aa (nn/30);have dh:(nn:Int).tdiv 6=(N1:Int):=by rw [<- ae.out];exact Kq nn 6
    have cq:(nn:Int).tdiv 30=(N2:Int):=by rw [<- ag.out];exact Kq nn 30
    have ci:(nn:Int)/6=(N1:Int):=by rw [<- ae.out];rfl
    have cm:(nn:Int)/30=(N2:Int):=by rw [<- ag.out];rfl
    have cf:N1<=1000000:=by rw [<- ae.out];exact As7 (At4 _ _) ai
    have df:N2<=1000000:=by rw [<- ag.out];exact As7 (At4 _ _) ai
    have ch:IntKind.i64.wrap (N1:Int)=(N1:Int):=IntWalk.i64_in _ (by omega);have cv:IntKind.i64.wrap (N2:Int)=(N2:Int):=IntWalk.i64_in _ (by omega);obtain ⟨D1,ah⟩:=Aa (N1%5);obtain ⟨D2,af⟩:=Aa (N2%4);have ck:(N1:Int).tmod 5=(D1:Int):=by rw [<- ah.out];exact Kr N1 5
    have dj:(N2:Int).tmod 4=(D2:Int):=by rw [<- af.out];exact Kr N2 4
    have di:(N1:Int)%5=(D1:Int):=by rw [<- ah.out];rfl
    have c9:(N2:Int)%4=(D2:Int):=by rw [<- af.out];rfl
    have ay:D1<=100:=by rw [<- ah.out];have:=At5 N1 (show 0<5 by decide);omega
    have a0:D2<=100:=by rw [<- af.out];have:=At5 N2 (show 0<4 by decide);omega
    have e5:IntKind.i64.wrap (D1:Int)=(D1:Int):=IntWalk.i64_in _ (by omega);have e6:IntKind.i64.wrap (D2:Int)=(D2:Int):=IntWalk.i64_in _ (by omega);have e7:IntKind.i64.wrap (1+(D1:Int))=1+(D1:Int):=IntWalk.i64_in _ (by omega);have e8:IntKind.i64.wrap (1+(D2:Int))=1+(D2:Int):=IntWalk.i64_in _ (by omega);clear ah af ae ag ab ac aa;have c0:cI w6 oB 0 z.by_:=s6.b.cell 0;have c1:cI w6 oB 1 z.sq:=s6.b.cell 1;have c3:cI w6 oB 3 z.at_:=s6.b.cell 3;have c4:cS w6 oB 4 z.pastA z.past.length z.pastC:=s6.b.cell 4;have a6:=lh (fun (v:World) (hv:Fr Non w6 v)=>Ar4 (s6.own.non hv) s6.ok s6.few ay a0);have aq:=lh (fun (v:World) (z':OpL) (hv:Fr Non w6 v) (h1:z'.op=sgn ({OpL.zero with by_:=z.by_,sq:=z.sq,kind:=13,at_:=z.at_,pastA:=z.pastA,pastC:=z.pastC,past:=z.past,dev:=1+(D1:Int),old:=1+(D2:Int),of:=⟨1,1,0⟩}:OpL).op) (h2:z'.own v w.heap.size)=>(s6.non hv).put (z:=z') a4 h1 h2 (Tu s6.ok ay a0) s6.few);have bY:=lh (fun (v:World) (hv:Fr Non w6 v)=>s6.b.fr hv zq);unfold Gd at a6;generalize ({OpL.zero with by_:=z.by_,sq:=z.sq,kind:=13,at_:=z.at_,pastA:=z.pastA,pastC:=z.pastC,past:=z.past,dev:=1+(D1:Int),old:=1+(D2:Int),of:=⟨1,1,0⟩}:OpL).op=OX at*;clear s6 a4;go_wp2_with (go_at_call 15;(with_reducible refine (a6.out _ (Fr.refl _ _)).mono ?_);rintro _ v6 ⟨z',rfl,hz,bl,f6⟩;(have de:=bY.out v6 f6);(have aj:=Bp (P:=zp) oB 44 (cs:=z'.cells) ad (old:=z.cells) rfl (Df z')));go_meet;exact ⟨z',aq.out v6 z' f6 hz bl⟩
  case rest=>
  obtain ⟨z',s7⟩:=hcut;clear s6 o2 ab ac aa;generalize wc=w7 at*;have hl:=Bk (P:=zp) gv 32 underlying32 rfl (hG r);have cx:=Bk (P:=zp) oB 44 underlying44 rfl (cs:=z'.cells) ad;have bd:=bn.fr s7.fr zq;have b6:=br.fr s7.fr zq;have bk:=ro.non s7.fr;have c8:=s7.b;have bw:=hf.trans s7.fr zr;have a9:=lh (ka.out r z' w7 bk s7.own (As7 cc s7.fr.size) s7.ok);unfold Gx at a9;obtain ⟨E,bq⟩:=Aa (An r.cards r.l z'.op);rw [bq.out] at a9;have a1:=lh s7.first;clear s7 bn br ro hf kx ka;go_upto_region 15 with (go_at_call 43;(with_reducible refine (a9.out).mono ?_);rintro _ v8 ⟨r2,rfl,f8,b0,bt,a8⟩;(have bz:=Blk.new v8 32 zG);(have aj:=Bp (P:=zp) v8.heap.size 32 (cs:=r2.cells) (hG r2) (old:=zG) rfl (Eh r2)))
  have bN:=bz.setRow (cs:=r2.cells);have f9:Fr Non v8 ((v8.alloc (.cells zG 32)).setRow v8.heap.size r2.cells):=((Fr.refl Non v8).alloc _).setRow (fun hh=>absurd hh (by omega)) _;have bx:=b0.non f9;have av:=f8.trans f9 zr;have a7:=bd.fr av zq;have ak:=b6.fr av zq;have bb:=bw.trans av zr;have b5:=bk.non av;have cp:w7.heap.size<=v8.heap.size:=f8.size;obtain ⟨gN,az⟩:=Aa v8.heap.size;rw [az.out] at bN f9 bx av a7 ak bb b5 cp ⊢;have co:gv<w7.heap.size:=bd.lt;have bm:r2.cards=Bl 0 [1,2,3,1]:=by rw [bt];exact a5
  have ca:Hid ((E=0->r2.l≠[])/\r2.l.length<=j+1):=by
   have:=al.out.2;refine ⟨fun h=> ?_,?_⟩
   ·
    rw [a8,if_pos h];simp
   ·
    rw [a8]
    split
    ·
     rw [Au1,List.length_singleton];omega
    · omega
  have c5:Hid (j=0->E=0):=by
   intro h0;rw [<- bq.out]
   rcases al.out.1 with ⟨_,h5⟩|⟨h5,_⟩
   ·
    have:=(a1.out h5).2;rw [h5];exact this
   · omega
  clear aj bz hl cx bd b6 bk c8 bw a9 a1 f8 f9 av a8 bt az b0 bq;generalize (v8.alloc (.cells zG 32)).setRow gN r2.cells=w9 at*
  by_cases hE:E=0
  ·
   have tE:(E==0)=true:=by simp [hE]
   have a8:=Bk (P:=zp) gN 32 underlying32 rfl (hG r2);have c7:=Bp (P:=zp) gv 32 (hG r2) (old:=r.cells) rfl (Eh r2);have bz:=a7.setRow (cs:=r2.cells);have cu:=ak.setRow_far (g':=gv) (by omega) (cs:=r2.cells);have fz:=bb.setRow (g:=gv) (fun hh=>absurd hh (by omega)) r2.cells;have cy:=bx.keepP (Gc r2.cells) (Types.one a7) (by decide) (by decide) (by decide) (by decide) (by decide) (by decide) (by decide) (by decide) (by decide) (by decide) (by decide) (by decide);have au:=ca.out.1 hE;go_wp2_with fail;go_roundw
   case rel=>exact ⟨j+1,r2,by go_num,by omega,bz,cy,bm,⟨.inr ⟨by omega,au⟩,ca.out.2⟩,cu,fz⟩
   case measure=>simp [intOf];omega
  ·
   have tE:(E==0)=false:=by simp [hE]
   have da:¬j=0:=fun e=>hE (c5.out e)
   have au:r.l≠[]:=by
    rcases al.out.1 with ⟨h1,_⟩|⟨_,h1⟩
    · exact absurd h1 da
    · exact h1
   go_wp2_with fail;go_roundw
   case rel=>exact ⟨j+1,r,by go_num,by omega,a7,b5,a5,⟨.inr ⟨by omega,au⟩,Nat.le_succ_of_le al.out.2⟩,ak,bb⟩
   case measure=>simp [intOf];omega
 ·
  have au:r.l≠[]:=by
   rcases al.out.1 with ⟨h1,_⟩|⟨_,h1⟩
   · exact absurd ⟨by omega,.inl h1⟩ hgo
   · exact h1
  have hd:Hid (Kp w (.returned (.agg r.cells)) (wr.setRow w.heap.size r.cells)):=
   ⟨r,rfl,hf.setRow (g:=w.heap.size) (fun hh=>absurd hh (by omega)) r.cells,ro.keepP (Gc r.cells) (Types.one br) (by decide) (by decide) (by decide) (by decide) (by decide) (by decide) (by decide) (by decide) (by decide) (by decide) (by decide) (by decide),a5,au,As7 al.out.2 (by omega)⟩
  have ht:decide ((j:Int)<14)=false\/(decide ((j:Int)<14)=true/\((j:Int)==0)=false/\decide (4*(j:Int)<(n:Int))=false):=by
   by_cases h1:j<14
   · exact .inr ⟨decide_eq_true (by omega),by simp;omega,decide_eq_false (by omega)⟩
   · exact .inl (decide_eq_false (by omega))
  have hl:=Bk (P:=zp) gv 32 underlying32 rfl (hG r);have aj:=Bp (P:=zp) w.heap.size 32 (hG r) (old:=zG) rfl (Eh r);have cz:=hG r;have ct:=br.setRow (cs:=r.cells);clear al au ro a5 hgo kx ka hok hr hn;generalize Kp w=POST at*;generalize r.cells=CS at*
  rcases ht with t1|⟨t1,t2,t3⟩
  all_goals
   go_wp2_with fail
   (try simp only [Exit.inBlock,Exit.then])
   refine En (t:=32) rfl rfl ct rfl underlying32 cz rfl ?_;exact hd.out
end Oq
namespace Oq
attribute [local go_sem] At1 At2
attribute [local go_sem ↓] Cz Es
structure C4 (r:RG) (g:Gph) (b B0:Nat) (w:World):Prop where
 ro:r.own w B0
 hg:GAt w b g
 hp:g.pns=r.l
 few:r.l.length<=14
theorem C4.non {r:RG} {g:Gph} {b B0:Nat} {w w':World} (h:C4 r g b B0 w) (hf:Fr Non w w'):C4 r g b B0 w':=
 ⟨h.ro.non hf,h.hg.fr hf,h.hp,h.few⟩
theorem C4.chk {r:RG} {g:Gph} {b B0:Nat} {w:World} (h:C4 r g b B0 w):∀m∈g.pns,m.o.chk=0:=fun m hm=>by
 rw [h.hp] at hm;obtain ⟨i,hi⟩:=List.getElem?_of_mem hm;exact (h.ro.rows.ok i m hi).chk
theorem Ng {l:List Pn} {x:Id} (h:(plc l x).isSome=true):∃m∈l,m.id=x:=by
 obtain ⟨p,hp⟩:=Option.isSome_iff_exists.1 h;obtain ⟨m,h1,h2⟩:=Bt hp;exact ⟨m,At8 h1,h2⟩
theorem ClosedOk.len {l:List Pn} {ids:List Id} (h:ClosedOk l ids):ids.length<=l.length:=by
 have:=M3 (m:=l.map Pn.id) h.1 (fun x hx=>by
  obtain ⟨m,h1,h2⟩:=Ng (h.2 x hx);exact List.mem_map.2 ⟨m,h1,h2⟩)
 rwa [List.length_map] at this
theorem C4.idok {r:RG} {g:Gph} {b B0:Nat} {w:World} (h:C4 r g b B0 w) {x:Id} (hx:(plc r.l x).isSome=true):x.ok:=by
 obtain ⟨m,h1,h2⟩:=Ng hx;rw [<- h2];exact (h.ro.ok m h1).2
section
variable {r : RG} {g : Gph} {b B0 B n c : Nat} {A : Option Addr} {ids : List Id} {w : World}
theorem C4.order (h:C4 r g b B0 w) (hc:ClosedOk r.l ids) (hn:Hid (ids.length=n)) (hr:Rd w B 3 A n (ids.flatMap Id.cells)):
  Calls zp 27 #[.pointer (some ⟨g.gb,0,none⟩),.slice A n c] w (Ca (Af r.l ids) w):=by
 have:=S8 b g B n c A ids w h.hg hn hr (by rw [<- hn.out];exact As7 hc.len h.few) (fun x hx=>h.idok (hc.2 x hx)) hc.1;rwa [h.hp] at this
theorem C4.sen (h:C4 r g b B0 w) (hc:ClosedOk r.l ids) (hn:Hid (ids.length=n)) (hr:Rd w B 3 A n (ids.flatMap Id.cells)):
  Calls zp 29 #[.pointer (some ⟨g.gb,0,none⟩),.slice A n c] w (Gb (Cc r.l (Af r.l ids)) w):=by
 have:=Ap4 b g B n c A ids w h.hg hn hr (by rw [<- hn.out];exact As7 hc.len h.few) (fun x hx=>h.idok (hc.2 x hx)) hc.1 (by rw [h.hp];exact hc.2) h.chk;rwa [h.hp] at this
theorem C4.came (h:C4 r g b B0 w) (d:Int) (hc:ClosedOk r.l ids) (hn:Hid (ids.length=n)) (hr:Rd w B 3 A n (ids.flatMap Id.cells)):
  Calls zp 36 #[.pointer (some ⟨g.gb,0,none⟩),.slice A n c,.int .i64 d] w (H8 (Ea r.l (Af r.l ids) d) w):=by
 have:=Ap7 b g B n c A ids d w h.hg hn hr (by rw [<- hn.out];exact As7 hc.len h.few) (fun x hx=>h.idok (hc.2 x hx)) hc.1 (by rw [h.hp];exact hc.2) h.chk;rwa [h.hp] at this
theorem C4.less (h:C4 r g b B0 w) {x y:Id} (hx:(plc r.l x).isSome=true) (hy:(plc r.l y).isSome=true):
  Calls zp 33 #[.pointer (some ⟨g.gb,0,none⟩),.agg x.V,.agg y.V] w (Ae (Bj r.l x y) w):=by
 have:=An3 b g x y w h.hg (h.idok hx) (h.idok hy);rwa [h.hp] at this
theorem C4.all (h:C4 r g b B0 w):Calls zp 22 #[.agg r.cells] w (Ca (Ai r.ids) w):=
 (Ms B0 r w h.ro).mono fun _ _ k=>k.ids (by rw [Hv];exact Gu r)
end
theorem ClosedOk.perm {l:List Pn} {xs ys:List Id} (h:ClosedOk l xs) (hp:ys.Perm xs):ClosedOk l ys:=⟨hp.nodup_iff.2 h.1,fun x hx=>h.2 x (hp.mem_iff.1 hx)⟩
def Ge (w:World) (e:Ending) (w':World):Prop:=
 ∃(r:RG) (g:Gph) (b:Nat),e=.returned (.tuple #[.pointer (some ⟨g.gb,0,none⟩),.agg r.cells])/\C4 r g b w.heap.size w'/\r.cards=Bl 0 [1,2,3,1]/\r.l≠[]/\w.heap.size<=b/\Fr Non w w'
theorem Ar6 {P:Program} {fn:Func} {p q:Tmp} {ty t:TypeId} {d:TypeDesc} {cs:Array Value} {g:Nat} {tmps:Array Value} {w:World} (h:fn.results=#[.tmp p,.cell q ty])
  (ha:tmps.getD q undef=.pointer (some ⟨g,0,none⟩)) (hb:Blk w g t cs) (hd:(match d with| .struct _| .array _ _=>true|_=>false)=true) (hu:P.underlying ty=some d)
  (hi:(P.info? ty).map (·.size)=some cs.size):(results fn tmps).run P w=.ok (.tuple #[tmps.getD p undef,.agg cs]) w:=by
 have hl:(loadVar ty ⟨g,0,none⟩).run P w=.ok (.agg cs) w:=run_loadVar_row (P:=P) w g t ty cs (0,0) d hb hu (by cases d<;>first|rfl|exact hd) hi
 unfold results;rw [h];have ha':tmps[q]?.getD undef=.pointer (some ⟨g,0,none⟩):=by simpa using ha
 simp [asAddr,ha',hl]
theorem G7 (B n c:Nat) (A:Option Addr) (l0:List Int) (w:World) (hn:Hid (l0.length=n)) (hr:Rd w B 1 A n (l0.map Iv)) (hnc:n<=c) (hnm:c<=9223372036854775807) (hok:∀x∈l0,I64 x) (hk:KindsAt w):
  Calls zp 23 #[.slice A n c] w (Ge w):=by
 have aa:0<w.heap.size:=World.block_lt_of_cell? w _ (hk 0 (by decide));have hG:∀r:RG,(zp.info? 32).map (·.size)=some r.cells.size:=fun r=>Cx;have b3:=Blk.new w 32 zG;have f0:Fr Non w (w.alloc (.cells zG 32)):=(Fr.refl Non w).alloc _;have km:=lh (Ar5 B n c A l0 _ hn (hr.fr f0 zr) hnc hnm hok);have al:=lh (fun (r:RG) (w':World) (hf:Fr Non w w') (h:r.own w' w.heap.size) (hcs:r.cards=Bl 0 [1,2,3,1])=>I8 w.heap.size r w' h hcs (Au7 aa hf.size) (hk.fr hf));unfold Kp at km;clear hk hr hok hn aa;go_enter func23,ntmps23;go_upto_region 2 with (go_at_call 76;(with_reducible refine (km.out).mono ?_);rintro _ w1 ⟨r,rfl,f1,ro,ae,aq,ad⟩;(have bz:=Blk.new w1 32 zG);(have au:=Bp (P:=zp) w1.heap.size 32 (cs:=r.cells) (hG r) (old:=zG) rfl (Eh r)))
 have bv:=bz.setRow (cs:=r.cells);have f2:Fr Non w1 ((w1.alloc (.cells zG 32)).setRow w1.heap.size r.cells):=((Fr.refl Non w1).alloc _).setRow (fun hh=>absurd hh (by omega)) _;have af:r.own ((w1.alloc (.cells zG 32)).setRow w1.heap.size r.cells) w.heap.size:=(ro.lower f0.size).non f2;have ah:=f1.trans f2 zr;have ab:=b3.fr ah zq;have ac:=f0.trans ah zr;obtain ⟨gv,aj⟩:=Aa w1.heap.size;rw [aj.out] at bv af ab ac ⊢;clear au bz f2 ah ro f1 b3 km aj;generalize (w1.alloc (.cells zG 32)).setRow gv r.cells=w2 at*;have kf:=al.out r w2.drew ac.drew (af.non ((Fr.refl Non w2).drew)) ae;unfold J6 at kf;replace kf:=lh kf;have hl:=Bk (P:=zp) gv 32 underlying32 rfl (hG r);have ag:=Bp (P:=zp) w.heap.size 32 (cs:=r.cells) (hG r) (old:=zG) rfl (Eh r);have ak:=hG r;have ai:=lh ae;clear ae al f0 hG;have V0:=bv;have R0:=ab;have F0:Fr Non w2 w2.drew:=(Fr.refl Non w2).drew;obtain ⟨CS,ao⟩:=Aa r.cells;rw [ao.out] at kf hl ag V0 ak ⊢;have ap:=ab.lt;clear bv ab;refine Cn (S:=fun w'=>Blk w' gv 32 CS/\Blk w' w.heap.size 32 zG) 4 (by kernel_rfl) ?_;refine tkG 0 ⟨V0,R0⟩ (h:=tkG 2 ⟨V0,R0⟩ (h:=?_));simp only [zl];refine Bo 1 (by kernel_rfl) rfl (fun K hK=> ?_);go_simp;go_wp2_with (go_at_call 13;(with_reducible refine (kf.out).mono ?_);rintro _ v1 ⟨g,b,rfl,ax,hg,a1,az,a0⟩;have F1:=F0.trans a0 zr;have V1:=V0.fr F1 zq;have R1:=R0.fr F1 zq);refine hK.out _ _ ⟨V1,R1⟩ (fun hZ=> ?_);clear hZ hK K;try simp only [Ad,zl]
 refine tkG 3 ⟨V1,R1⟩ (h:=?_);simp only [zl];refine Ci (by kernel_rfl) ?_;refine oG 4 (fun K hK=> ?_);go_simp;refine hK.out _ _ trivial (fun hZ=> ?_);clear hZ hK K;try simp only [Ad,zl]
 refine oD ?_;go_simp;have av:=R1.setRow (cs:=CS);have fz:=(ac.trans F1 zr).setRow (g:=w.heap.size) (fun hh=>absurd hh (by omega)) CS;have aw:w.heap.size<b:=Au7 ap ax;have ay:GAt (v1.setRow w.heap.size CS) b g:=hg.over ((Fr.refl (One w.heap.size) v1).setRow (fun _=>rfl) CS) (fun k hk e=>by have e':k=w.heap.size:=e;omega);have ar:=(af.non F1).keepP ((Fr.refl (One w.heap.size) v1).setRow (fun _=>rfl) CS) (Types.one R1) (by decide) (by decide) (by decide) (by decide) (by decide) (by decide) (by decide) (by decide) (by decide) (by decide) (by decide) (by decide);go_wp2_with fail
 (try simp only [Exit.inBlock,Exit.then])
 refine bodyPost_ret (Ar6 rfl rfl av rfl underlying32 ak) rfl ?_;exact ⟨r,g,b,by rw [ao.out];rfl,⟨ar,ay,az,ad⟩,ai.out,aq,Nat.le_of_lt aw,fz⟩
end Oq
namespace Oq
attribute [local go_sem] At1 At2
attribute [local go_sem ↓] Cz Es Dw
theorem H9 (w:World) (hk:KindsAt w):Calls zp 30 #[] w (Ae true w):=by
 have bi:=Blk.new w 3 #[.int .i64 2,.int .i64 0,.int .i64 0,.int .i64 0,.int .i64 0,.int .i64 0,.int .i64 0,.int .i64 1];have f0:Fr Non w (w.alloc (.cells #[.int .i64 2,.int .i64 0,.int .i64 0,.int .i64 0,.int .i64 0,.int .i64 0,.int .i64 0,.int .i64 1] 3)):=(Fr.refl Non w).alloc _;have az:Rd (w.alloc (.cells #[.int .i64 2,.int .i64 0,.int .i64 0,.int .i64 0,.int .i64 0,.int .i64 0,.int .i64 0,.int .i64 1] 3)) (w.alloc (.cells #[.int .i64 2,.int .i64 0,.int .i64 0,.int .i64 0,.int .i64 0,.int .i64 0,.int .i64 0,.int .i64 1] 3)).heap.size 1 (some ⟨w.heap.size,0,none⟩) 8 (([2,0,0,0,0,0,0,1]:List Int).map Iv):=Rd.blk (n:=8) (size:=1) bi rfl;have km:=lh (G7 _ 8 8 (some ⟨w.heap.size,0,none⟩) [2,0,0,0,0,0,0,1] _ rfl az (by omega) (by omega) (by unfold I64;decide) (hk.fr f0));unfold Ge at km;unfold Ae;clear bi az hk;have hG:∀r:RG,(zp.info? 32).map (·.size)=some r.cells.size:=fun r=>Cx;go_enter func30,ntmps30;go_upto_region 2 with (go_at_call 23;(with_reducible refine (km.out).mono ?_);rintro _ w1 ⟨r,g,b,rfl,st,_,ao,_,f1⟩;(have bz:=Blk.new w1 32 zG);(have a7:=Bp (P:=zp) w1.heap.size 32 (cs:=r.cells) (hG r) (old:=zG) rfl (Eh r)))
 have bv:=bz.setRow (cs:=r.cells);have f2:Fr Non w1 ((w1.alloc (.cells zG 32)).setRow w1.heap.size r.cells):=((Fr.refl Non w1).alloc _).setRow (fun hh=>absurd hh (by omega)) _;have ai:=st.non f2;have ar:=(f0.trans f1 zr).trans f2 zr;obtain ⟨gv,a0⟩:=Aa w1.heap.size;rw [a0.out] at bv ai ar ⊢;clear a7 bz f2 f1 f0 st km a0;generalize (w1.alloc (.cells zG 32)).setRow gv r.cells=w2 at*;have hl:=Bk (P:=zp) gv 32 underlying32 rfl (hG r);have ah:=ai.ro.rows;have aw:ClosedOk r.l (Ai r.ids):=Hu ah;have ak:(Ai r.ids).Perm (r.l.map Pn.id):=Ee _;have al:Hid ((Ai r.ids).length=r.l.length):=by show _=_;rw [Hv];exact Gu r
 obtain ⟨n0,h0⟩:∃n0,r.l[0]? =some n0:=by
  cases hl0:r.l with
  |nil=>exact absurd hl0 ao
  |cons a t=>exact ⟨a,rfl⟩
 have aq:=lh (Tf ah h0 ak);have au:=lh (Tg ah h0 aq.out);have a2:Hid ((Af r.l (Ai r.ids)).length=r.l.length):=by show _=_;rw [Et];exact al.out
 have bd:r.l.length≠0:=fun e=>ao (List.length_eq_zero_iff.1 e);have tN:((r.l.length:Int)==0)=false:=by simp;exact ao
 obtain ⟨bi,oi,a5,i0,i1,i2⟩:∃(b off:Nat),r.iA=some ⟨b,off,none⟩/\cI w2 b off n0.id.b/\cI w2 b (off+1) n0.id.s/\w2.cell? ⟨b,off+2,none⟩=some (.int .u64 (n0.id.u:Int)):=by
  obtain ⟨m,b',o',e1,e2,e3,e4,e5⟩:=ai.ro.idAt (i:=0) (by omega);rw [h0] at e1;injection e1 with e1
  subst e1;rw [Au0,At6] at e3 e4 e5;exact ⟨b',o',e2,e3,e4,e5⟩
 obtain ⟨bl,ol,a4,j0⟩:∃(b off:Nat),r.lA=some ⟨b,off,none⟩/\w2.cell? ⟨b,off,none⟩=some (.int .i64 n0.o.by_):=by
  obtain ⟨x,b',o',_,e1,_,e2,_,e3⟩:=ai.ro.xAt h0;have e4:=e3 0 (by omega) (.int .i64 x.by_) rfl;simp only [Au0,At6] at e4;rw [<- e1];exact ⟨b',o',e2,e4⟩
 have kA:=lh (ai.all);have kO:=lh (fun (v:World) (hv:Fr Non w2 v) (A:Option Addr) (c:Nat) (hr:Rd v v.heap.size 3 A r.l.length ((Ai r.ids).flatMap Id.cells))=>(ai.non hv).order aw al (c:=c) hr);have kS:=lh (fun (v:World) (hv:Fr Non w2 v) (A:Option Addr) (c:Nat) (hr:Rd v v.heap.size 3 A r.l.length ((Ai r.ids).flatMap Id.cells))=>(ai.non hv).sen aw al (c:=c) hr);unfold Ca at kA kO;unfold Gb at kS;have g1:Hid (r.cells[1]? =some (.slice (some ⟨bl,ol,none⟩) r.l.length r.lC)):=by show _=_;rw [<- a4];rfl
 have g2:Hid (r.cells[2]? =some (.slice (some ⟨bi,oi,none⟩) r.l.length r.iC)):=by show _=_;rw [<- a5];rfl
 rw [al.out] at kA;rw [a2.out] at kO;obtain ⟨GB,a1⟩:=Aa g.gb;rw [a1.out] at kO kS ⊢;clear ai aw ak al a2 ah hG a1 ao a4 a5 h0;generalize Cc r.l (Af r.l (Ai r.ids))=SL at*;generalize Af r.l (Ai r.ids)=RS at*;generalize Ai r.ids=IDS at*;generalize r.l.length=N at*;generalize r.iC=IC at*;generalize r.lC=LC at*;generalize r.cells=CS at*;generalize n0.id=z at*;generalize n0.o.by_=D at*;have c2:cS w2 gv 2 (some ⟨bi,oi,none⟩) N IC:=(bv.cell 2).trans g2.out;go_upto_region 5 with (go_at_call 22;(with_reducible refine (kA.out).mono ?_);rintro _ w3 ⟨A3,c3,rfl,o3,f3⟩)
 go_upto_region 6 with (go_at_call 27;(with_reducible refine (kO.out _ f3 _ _ o3.rd).mono ?_);rintro _ w4 ⟨A4,c4,rfl,o4,f4⟩)
 have av:=f3.trans f4 zr;have a3:=o3.fr f4 zr;clear kA kO;go_upto_region 7 with (go_at_call 29;(with_reducible refine (kS.out _ av _ _ a3.rd).mono ?_);rintro _ w5 ⟨A5,c5,rfl,o5,f5⟩)
 have aj:=av.trans f5 zr;have fz:=ar.trans aj zr
 have ay:SL.length≠0:=fun e=>by
  have h:=au.out;rw [List.length_eq_zero_iff.1 e] at h
  cases h
 obtain ⟨b4,q4,rfl,_,X0,X1,X2⟩:=Id.at (o4.fr f5 zr).rd aq.out;rw [Au0,At6] at X0 X1 X2;obtain ⟨b5,q5,u5,rfl,_,ap,Y0⟩:=o5.rd.at (k:=0) (Nat.pos_of_ne_zero ay);rw [At7,au.out] at ap;injection ap with ap
 subst ap;rw [At6] at Y0;obtain ⟨SN,a6⟩:=Aa SL.length;rw [a6.out] at ay ⊢;have tS:((SN:Int)==0)=false:=by simp;exact ay
 have bf:Id.eq z z=true:=(Id.eq_iff z z).2 rfl;have ax:=bv.fr aj zq;have d1:cS w5 gv 1 (some ⟨bl,ol,none⟩) N LC:=(ax.cell 1).trans g1.out;have d2:cS w5 gv 2 (some ⟨bi,oi,none⟩) N IC:=(ax.cell 2).trans g2.out;have bb:=aj.cell i0 zq;have a8:=aj.cell i1 zq;have a9:=aj.cell i2 zq;have ba:=aj.cell j0 zq;have nN:(0:Int)<N:=by omega
 have nS:(0:Int)<SN:=by omega
 have be:0<N:=by omega
 have bc:0<SN:=by omega
 clear aq au kS o3 a3 o4 o5 f3 f4 f5 av aj ar bv ax hl g1 g2 i0 i1 i2 j0 c2 a6;go_upto_region 9 with (fail)
 have P0:=d1;have Q0:=d2;have ac:=bb;have aa:=a8;have ad:=a9;have J0:=ba;have ab:=X0;have ag:=X1;have ae:=X2;have af:=Y0;have F0:Fr Non w5 w5.drew:=(Fr.refl Non w5).drew;refine wp_region_held_drew (S:=fun w'=>cS w' gv 1 (some ⟨bl,ol,none⟩) N LC/\cS w' gv 2 (some ⟨bi,oi,none⟩) N IC/\cI w' bi oi z.b/\cI w' bi (oi+1) z.s/\cU w' bi (oi+2) z.u/\cI w' bl ol D/\cI w' b4 q4 z.b/\cI w' b4 (q4+1) z.s/\cU w' b4 (q4+2) z.u/\cI w' b5 q5 D) (by kernel_rfl) ⟨P0,Q0,ac,aa,ad,J0,ab,ag,ae,af⟩ (fun hHeld=> ?_);clear hHeld;have uu:=aI P0 (aI Q0 (aI ac (aI aa (aI ad (aI J0 (aI ab (aI ag (aI ae af))))))));refine tkH 0 uu (h:=tkH 1 uu (h:=tkH 2 uu (h:=tkH 3 uu (h:=tkH 4 uu (h:=tkH 5 uu (h:=tkH 6 uu (h:=tkH 7 uu (h:=tkH 8 uu (h:=tkH 9 uu (h:=tkH 10 uu (h:=tkH 11 uu (h:=?_))))))))))));clear uu;simp only [zl];have uu:=aI P0 (aI Q0 (aI ac (aI aa (aI ad (aI J0 (aI ab (aI ag (aI ae af))))))));refine tkH 12 uu (h:=tkH 13 uu (h:=tkH 14 uu (h:=tkH 15 uu (h:=tkH 16 uu (h:=tkH 17 uu (h:=tkH 18 uu (h:=tkH 19 uu (h:=?_))))))));clear uu;simp only [zl];refine oD ?_;go_simp;go_wp2_with fail
 go_ret
 exact ⟨rfl,fz.drew⟩
end Oq
end
end Go.Proofs.YtihfebhfgliojaaGreatDoor
