/-
  Contracts of the functions that the claim's statement reaches, walked one by one (part 19).
  Conditions: as each theorem says.
-/
import Derived.Test.YtihfebhfgliojaaGreatDoorRkU18
set_option maxRecDepth 100000
set_option maxHeartbeats 16000000
open Bool renaming not_false->Ax8,not_true->Ax9,and_eq_true->Az2,not_eq_true'->Az3
open Int renaming tmod_eq_emod_of_nonneg->Ax5,tdiv_eq_ediv_of_nonneg->Ay6,natCast_nonneg->Az0
open List renaming not_mem_nil->Ax4,getElem?_map->Ay4,mem_of_getElem?->Ay5,length_append->Ay8,length_drop->Ay9,mem_of_mem_drop->Az1
open Nat renaming le_trans->Ax3,zero_le->Ax6,le_refl->Ay0,div_le_self->Ay1,mod_lt->Ay2,add_zero->Ay3,zero_mul->Ay7,lt_of_lt_of_le->Az4
open Go.World renaming size_alloc->Ax7
open Go.Proofs.Tryz
open Go.Proofs.Tryz renaming prog->zp
open Go.Lib renaming hid->lh
open List renaming set->zl
open Go.Ending renaming returned->ze
namespace Go.Proofs.YtihfebhfgliojaaGreatDoor
open Go.RowKit
attribute [local go_sem ↓] Go.wp_at_zero Go.wp_at_succ
namespace Oq
def nxL (y:OpL) (A:Option Addr) (c:Nat) (ids:List Id) (s a:Int):OpL:={y with pastA:=A,pastC:=c,past:=ids,sq:=s,at_:=a}
theorem As1 {y:OpL} {A:Option Addr} {c:Nat} {ids:List Id} {s a:Int} (h:y.op.ok) (hi:ids.length<=1000/\∀x∈ids,x.ok) (hs:I64 s) (ha:I64 a):(nxL y A c ids s a).op.ok where
 by_:=h.by_
 sq:=hs
 kind:=h.kind
 at_:=ha
 past:=hi
 dev:=h.dev
 old:=h.old
 mem:=h.mem
 role:=h.role
 path:=h.path
 epoch:=h.epoch
 n:=h.n
 body:=h.body
 refs:=h.refs
 of:=h.of
 guards:=h.guards
 need:=h.need
 wait:=h.wait
 boxes:=h.boxes
 pub:=h.pub
 hist:=h.hist
 r:=h.r
 s:=h.s
theorem As2 {y:OpL} {A:Option Addr} {c:Nat} {ids:List Id} {s a:Int} {w:World} {base:Nat} (h:y.own w base) (hi:RowAt w base 38 3 A ids.length c (ids.flatMap Id.cells)):(nxL y A c ids s a).own w base:=
 ⟨hi,h.path,h.nodes,h.body,h.refs,h.guards,h.boxes,h.hist,h.seals⟩
def fsL (d a v:Int) (A:Option Addr):OpL:={OpL.zero with by_:=d,sq:=1,kind:=1,at_:=a,pathA:=A,pathC:=1,path:=[⟨5,none,0,[]⟩],need:=v}
theorem As3 {d a v:Int} {A:Option Addr} (hd:I64 d) (ha:I64 a) (hv:I64 v):(fsL d a v A).op.ok:=
 ⟨hd,(show I64 1 from ⟨by decide,by decide⟩),(show I64 1 from ⟨by decide,by decide⟩),ha,⟨Ax6 _,fun _ h=>absurd h Ax4⟩,z64,z64,z64,z64,⟨by show (1:Nat)<=1000;decide,fun x hx=>by obtain rfl:=List.mem_singleton.1 hx;exact Hk 5 (by decide)⟩,⟨z64,z64,Fx⟩,z64,Ax6 _,⟨Ax6 _,fun _ h=>absurd h Ax4⟩,⟨z64,z64,Fx⟩,
  ⟨Ax6 _,fun _ h=>absurd h Ax4⟩,hv,z64,⟨Ax6 _,fun _ h=>absurd h Ax4⟩,Fx,⟨Ax6 _,fun _ h=>absurd h Ax4⟩,Fx,Fx⟩
theorem As4 {d a v:Int} {A:Option Addr} {w:World} {base:Nat} (h:RowAt w base 94 2 A 1 1 (([⟨5,none,0,[]⟩]:List NdL).flatMap NdL.cells)):(fsL d a v A).own w base:=
 ⟨RowAt.nil _ _ _ _,h,(fun y hy=>by obtain rfl:=List.mem_singleton.1 hy;exact RowAt.nil _ _ _ _),RowAt.nil _ _ _ _,RowAt.nil _ _ _ _,RowAt.nil _ _ _ _,RowAt.nil _ _ _ _,RowAt.nil _ _ _ _,(fun _ h=>absurd h Ax4)⟩
theorem OpL.own.opBlk {x:OpL} {w w':World} {base g:Nat} {cs:Array Value} (h:x.own w base) (hb:Blk w g 44 cs) (hf:Fr (One g) w w'):x.own w' base:=
 h.keepP hf (Types.one hb) (by decide) (by decide) (by decide) (by decide) (by decide) (by decide) (by decide)
theorem N9 {w:World} {g i:Nat} (u:Value):Fr (One g) w (w.setCell ⟨g,i,none⟩ u):=(Fr.refl (One g) w).setCell (p:=⟨g,i,none⟩) (fun _=>rfl) u
theorem Gr {w:World} {g:Nat} (cs:Array Value):Fr (One g) w (w.setRow g cs):=(Fr.refl (One g) w).setRow (fun _=>rfl) cs
def Gt (o:Op) (base:Nat) (w:World) (e:Ending) (w':World):Prop:=∃y:OpL,e=.returned (.agg y.cells)/\y.op=sgn o/\y.own w' base/\Fr Non w w'
theorem Lb (x:OpL) (d base:Nat) (w:World) (hd:x.by_=(d:Int)) (hd':d<=1000) (ho:x.own w base) (hok:x.op.ok):
  Calls zp 15 #[.agg x.cells] w (Gt x.op base w):=by
 have h:=Xw x d w (by rw [hd,IntKind.wrap_u64];omega) (by omega) ho.at hok;refine Calls.mono h ?_;rintro r w' ⟨h1,h2⟩;exact ⟨_,h1,Af8 x x.op rfl d (by show x.by_.toNat=d;omega) _ rfl,Af9 (ho.non h2) _ _,h2⟩
theorem As5 {cards:List Cd} (hc:cards=Bm 0 [1,2,3,1]) {d:Int} (hd:1<=d/\d<=4):∃c,Ct cards d=some c/\c.s=Sg.pub (sec Bz d.toNat):=by
 subst hc;have h4:d=1\/d=2\/d=3\/d=4:=by omega
 rcases h4 with rfl|rfl|rfl|rfl
 · exact ⟨Da 0 1,rfl,rfl⟩
 · exact ⟨Da 1 2,rfl,rfl⟩
 · exact ⟨Da 2 3,rfl,rfl⟩
 · exact ⟨Da 3 1,rfl,rfl⟩
theorem As6 {cards:List Cd} (hc:cards=Bm 0 [1,2,3,1]) {d a v:Int} (hd:1<=d/\d<=4) (ha:0<=a/\a<=4) (hv:0<=v/\v<=4):An cards [] (sgn (Ko d a v))=0:=by
 obtain ⟨c,h1,h2⟩:=As5 hc hd;exact Am1 ⟨by omega,by omega⟩ ⟨by omega,by omega⟩ ⟨by omega,by omega⟩ h1 h2
def FewN (o:Op):Prop:=o.past.length<=500/\1<=o.by_/\o.by_<=4
theorem FewN.sgn {o:Op} (h:FewN o):FewN (sgn o):=by
 unfold FewN at*;rw [Af6,Af5];exact h
def Lc (cards:List Cd) (l:List Pn) (w:World) (e:Ending) (w':World):Prop:=
 ∃y:OpL,e=.returned (.agg y.cells)/\y.op.ok/\y.own w' w.heap.size/\Fr Non w w'/\(l=[]->An cards [] y.op=0)/\FewN y.op
end Oq
namespace Oq
attribute [local go_sem] Ax8 Ax9
attribute [local go_sem ↓] Cx Cj Fc
theorem As7 {f:Operand->Value} {d:Option Tmp} {pos:String} {after:Array Edge} {D a v:Int} {A:Option Addr} {w:World} (h0:f (.tmp 45)=.int .i64 D) (h1:f (.tmp 49)=.int .i64 a) (h2:f (.tmp 53)=.int .i64 v) (h3:f (.tmp 55)=.slice A 1 1) (h4:∀v,f (.const v)=v):
  Sem.run zp (execOp f ⟨d,.build 44 #[(0,.tmp 45),(2,.const (.int .i64 1)),(1,.const (.int .i64 1)),(3,.tmp 49),(16,.tmp 53),(9,.tmp 55)],44,pos,after,none⟩) w=Result.ok (Next.value (.agg (fsL D a v A).cells)) w:=by
 go_simp;rfl
theorem As8 (base B n c:Nat) (r:RG) (A:Option Addr) (l0:List Int) (w:World) (h:r.own w base) (hcs:r.cards=Bm 0 [1,2,3,1]) (hn:Hid (l0.length=n)) (hr:Rd w B 1 A n (l0.map Iv)) (hok:∀x∈l0,I64 x):
  Calls zp 44 #[.agg r.cells,.slice A n c] w (Lc r.cards r.l w):=by
 have az:=h.few;have co:r.cards.length=4:=by rw [hcs];rfl
 have hi:(zp.info? 44).map (·.size)=some 27:=by kernel_rfl
 have bg:=(Blk.new w 32 r.cells).alloc (.cells zO 44);have br:=Blk.new (w.alloc (.cells r.cells 32)) 44 zO;rw [Ax7] at br;have f0:Fr Non w ((w.alloc (.cells r.cells 32)).alloc (.cells zO 44)):=((Fr.refl Non w).alloc _).alloc _
 have bu:w.heap.size+2<=((w.alloc (.cells r.cells 32)).alloc (.cells zO 44)).heap.size:=by
  rw [Ax7,Ax7];exact Ay0 _
 have hl:=Bi (P:=zp) w.heap.size 32 underlying32 rfl (cs:=r.cells) Co;have kA:=lh (fun (w':World) (hf:Fr Non w w')=>Nj base r w' (h.non hf));have kH:=lh (fun (B' n' c':Nat) (A':Option Addr) (ids:List Id) (w':World) (hf:Fr Non w w') hn hr hnm=>Ai8 base r B' n' c' A' ids w' (h.non hf) hn hr hnm);have kC:=lh (fun (B' n' c':Nat) (A':Option Addr) (l1:List Int) (w':World) (hf:Fr Non w w') hn hr hnm=>Kj base r B' n' c' A' l1 w' (h.non hf) hn hr hnm);have kS:=lh (fun (B' n' c':Nat) (A':Option Addr) (ids:List Id) (d:Int) (w':World) hn hr hnm hs=>Ai2 r.cells B' n' c' A' ids d w' hn hr hnm hs);have kL:=lh (fun (B' n' c':Nat) (A':Option Addr) (ids:List Id) (w':World) (hf:Fr Non w w') hn hr hnm=>Ai3 base r B' n' c' A' ids w' (h.non hf) hn hr hnm);have kO:=lh (fun (b:Int) (m:Nat) (w':World) hb hn=>Al8 b m w' hb hn);have b0:=lh (fun (x:Int) (hx:x∈l0) (w':World)=>Im x 1000000 w' (hok x hx).1 (hok x hx).2 (by decide) (by decide))
 have a6:Hid (∀ids:List Id,(∀id∈ids,(plc r.l id).isSome=true)->ids.length<=200->(Fw r.l ids).length<=500/\(∀x∈Fw r.l ids,x.ok)/\(∀x∈ids,x.s<=2147483647)/\(∀d k,0<=Cs ids d k/\Cs ids d k<=2147483647)/\0<=late r.l ids/\late r.l ids<=2147483647):=by
  intro ids h1 h2;have hs:∀x∈ids,x.s<=2147483647:=fun x hx=>(Td h.rows h.ok (h1 x hx)).2.2;have hb:=Am2 h.rows ids;refine ⟨?_,fun x hx=>(Td h.rows h.ok (h1 x (Am3 hx).1)).1,hs,fun d k=>Sr (by omega) hs k,hb⟩;have:=Am4 r.l ids;omega
 have aa:Hid ((∀id∈Az r.ids,(plc r.l id).isSome=true)/\(Az r.ids).length=r.l.length):=by
  have dm:=Nl h.rows;exact ⟨dm.2,by rw [Hg];show (r.l.map Pn.id).length=_;rw [List.length_map]⟩
 have ap:Hid (∀cs,ClosedOk r.l cs->(∀id∈cs,(plc r.l id).isSome=true)/\cs.length<=200):=fun cs hc=>⟨hc.2,Ax3 (Am5 h.rows hc) az⟩;have aj:=lh (fun (d a v:Int) (hd:1<=d/\d<=4) (ha:0<=a/\a<=4) (hv:0<=v/\v<=4)=>As6 hcs hd ha hv)
 have af:Hid (∀(y:OpL) (wy wz:World),y.op.ok->y.own wy (w.heap.size+2)->Fr Non w wy->Blk wy (w.heap.size+1) 44 zO->Fr (One (w.heap.size+1)) wy wz->((r.l=[]->An r.cards [] y.op=0)/\FewN y.op)->Lc r.cards r.l w (.returned (.agg y.cells)) wz):=by
  intro y wy wz h1 h2 h3 h4 h5 h6;refine ⟨y,rfl,h1,(h2.opBlk h4 h5).lower (by omega),h3.trans h5 (fun k hk e=>absurd hk (by have e2:k=w.heap.size+1:=e;omega)),h6.1,h6.2⟩
 have g0:Hid (r.cells[0]? =some (.slice r.cA r.cards.length r.cC)):=rfl;have g1:Hid (r.cells[1]? =some (.slice r.lA r.l.length r.lC)):=rfl;rw [co] at g0;have a1:Hid (r.l.length=0->r.l=[]):=fun e=>List.length_eq_zero_iff.1 e;have ah:Hid (r.l=[]->r.l.length=0):=fun e=>by show _=_;rw [e];rfl
 clear h hcs co;generalize Lc r.cards r.l w=POST at*;unfold SortPost at kA;generalize Az r.ids=SI at*;generalize r.lA=LA at*;generalize r.lC=LC at*;generalize r.cA=CA at*;generalize r.cC=CC at*;generalize r.cells=CS at*;generalize r.cards=CD at*;generalize r.l=l at*;obtain ⟨N,hN⟩:=Aa l.length;rw [hN.out] at kA g1 az aa a1 ah;clear hN;go_enter func44,ntmps44;go_upto_region 1 with (fail)
 generalize (w.alloc (.cells CS 32)).alloc (.cells zO 44)=w0 at*;go_wp2_with fail
 go_loopw [5,6] (fun s v wr=>∃(j:Nat) (Ax:Option Addr) (cx:Nat) (ks:List Nat),v=.int .i64 (j:Int)/\s=.slice Ax j cx/\j<=4/\Hid (ks.length=j)/\Hid (∀x∈ks,x<1000000)/\Own wr w0.heap.size 3 1 Ax j cx (ks.map Qv)/\Fr Non w0 wr) (fun _ v _=>4-(intOf v).toNat)
 case atStart=>exact ⟨0,none,0,[],rfl,rfl,by omega,rfl,fun x hx=>absurd hx Ax4,Own.nil _ _ _ _,Fr.refl _ _⟩
 case round=>
 obtain ⟨j,Ax,cx,ks,rfl,rfl,hj,b9,a5,ao,hf⟩:=hrel;have a8:Fr Non w wr:=f0.trans hf zr
 by_cases hlt:j<4
 ·
  have i1:decide ((j:Int)<4)=true:=decide_eq_true (by omega);have du:=Ax3 bu hf.size;have b8:=ao.row;clear af kA kH kC kS kL kO a6 aa ap aj a1 ah g0 g1 bg br
  as_aux_lemma=>
  go_upto_if 17 with (fail)
  go_cut [7] from 17 to 22 (fun s wc=>∃q:Nat,s=.int .i64 (q:Int)/\q<1000000/\Own wc w0.heap.size 3 1 Ax j cx (ks.map Qv)/\Fr Non w0 wc)
  case first=>
   by_cases hjn:j<n
   ·
    obtain ⟨b,ai,u,rfl,dp,hu,c0⟩:=hr.at hjn;obtain ⟨x,hx⟩:∃x,l0[j]? =some x:=⟨_,List.getElem?_eq_getElem (by rw [hn.out];exact hjn)⟩;rw [Ay4,hx] at hu;injection hu with hu
    subst hu;replace c0:cI w b (ai+j) x:=c0;have c1:=a8.cell c0 zq;have kx:=lh (b0.out x (Ay5 hx));obtain ⟨de,cq⟩:=Il (n:=x) (m:=1000000) (by decide);obtain ⟨p,hp⟩:∃p:Nat,Dh x 1000000=(p:Int):=⟨(Dh x 1000000).toNat,by omega⟩;rw [hp] at kx cq;obtain ⟨j1,j2,j3⟩:=ix j n
    have t:decide ((j:Int)<(n:Int))=true:=decide_eq_true (by omega);have cw:Hid (p<1000000):=by show p<1000000;omega
    clear b0 hx hok hp de cq;go_wp2_with (go_at_call 39;(with_reducible refine (kx.out _).mono ?_);rintro _ v ⟨rfl,ew⟩;have fq:Fr Non wr v:=ew▸Fr.refl _ _;clear ew);go_meet;exact ⟨p,rfl,cw.out,ao.fr fq zr,hf.trans fq zr⟩
   ·
    have t:decide ((j:Int)<(n:Int))=false:=decide_eq_false (by omega);go_wp2_with fail;go_meet;exact ⟨0,rfl,by omega,ao,hf⟩
  case rest=>
   obtain ⟨q,rfl,hq,bp,fc⟩:=hcut;have bm:=Ax3 bu fc.size;have au:=Blk.new wc 3 #[.int .i64 (q:Int)];have aw:=bp.alloc (.cells #[.int .i64 (q:Int)] 3);go_wp2_with (at_builtin;go_loud (refine Bc (base:=w0.heap.size) (.tmp 23) (.tmp 25) 22 rfl rfl rfl rfl Es aw (Rd.blk (n:=1) (size:=1) au rfl) (by simp [Value.oneCell']) (by omega) (by omega) (by rw [Ax7];have h8:=fc.size;omega) ?_);intro A2 c2 w4 b2 dd c6);have fz:Fr Non w0 w4:=(fc.alloc _).trans dd (fun k hk e=>by have h9:=(b8 k e).1;have h8:=hf.size;omega)
   have ar:Own w4 w0.heap.size 3 1 A2 (j+1) c2 ((ks++[q]).map Qv):=by
    rw [List.map_append];exact b2
   go_roundw
   case rel=>exact ⟨j+1,A2,c2,ks++[q],by go_num,rfl,by omega,(by show _=_;rw [Ay8,b9.out];rfl),(fun x hx=>by rcases List.mem_append.1 hx with h1|h1;exact a5.out x h1;obtain rfl:=List.mem_singleton.1 h1;exact hq),ar,fz⟩
   case measure=>simp [intOf];omega
 ·
  obtain rfl:j=4:=by omega
  have i1:decide ((4:Int)<4)=false:=rfl
  obtain ⟨k0,k1,k2,k3,rfl⟩:∃a b c d,ks=[a,b,c,d]:=by
   match ks,b9.out with
   |[a,b,c,d],_=>exact ⟨a,b,c,d,rfl⟩
  have q0:k0<1000000:=a5.out k0 (by simp);have q1:k1<1000000:=a5.out k1 (by simp);have q2:k2<1000000:=a5.out k2 (by simp);have q3:k3<1000000:=a5.out k3 (by simp);obtain ⟨_,h4|⟨b,ai,rfl,c5,hc⟩⟩:=ao.rd
  · exact absurd h4 (by decide)
  have L0:cI wr b ai (k0:Int):=hc 0 _ rfl;have L1:cI wr b (ai+1) (k1:Int):=hc 1 _ rfl;have L2:cI wr b (ai+2) (k2:Int):=hc 2 _ rfl;have L3:cI wr b (ai+3) (k3:Int):=hc 3 _ rfl;replace bg:=bg.fr hf zq;replace br:=br.fr hf zq;have e0:((k0:Nat):Int).tmod 4=(k0:Int)%4:=Ax5 (by omega);have e1:((k1:Nat):Int).tmod 3=(k1:Int)%3:=Ax5 (by omega);have e2:((k2:Nat):Int).tmod 5=(k2:Int)%5:=Ax5 (by omega);have e3:((k3:Nat):Int).tmod 5=(k3:Int)%5:=Ax5 (by omega);have e4:((k2:Nat):Int).tmod 3=(k2:Int)%3:=Ax5 (by omega);have e5:((k1:Nat):Int).tdiv 3=(k1:Int)/3:=Ay6 (by omega);have e6:((k1:Nat):Int).tdiv 100=(k1:Int)/100:=Ay6 (by omega);have e7:=iw (1+(k0:Int)%4);have e8:=iw ((k1:Int)/3);have e9:=iw ((k1:Int)/100);have bo:=Ax3 bu hf.size;have d0:=(bg.cell 0).trans g0.out;have d1:=(bg.cell 1).trans g1.out;clear hc a5 b9 ao hf f0 b0 hr hn hok hlt hj g0 g1 c5;generalize wr=w1 at*;go_upto_region 9 with (fail)
  go_cut [8] from 27 to 39 (fun s wc=>∃(y0:OpL) (gO:Nat),s=.pointer (some ⟨gO,0,none⟩)/\Blk wc gO 44 y0.cells/\y0.by_=1+(k0:Int)%4/\y0.op.ok/\y0.own wc (w.heap.size+2)/\w1.heap.size<=gO/\Fr Non w1 wc)
  case first=>
   clear af kA kH kC kS kL a6 aa ap aj a1 ah
   as_aux_lemma=>
   have G0:=d0;have F0:Fr Non w1 w1.drew:=(Fr.refl Non w1).drew;have kq:=lh (fun (w':World)=>kO.out (1+(k0:Int)%4) k3 w' ⟨by omega,by omega⟩ (by omega));have M0:=L0;have K0:=L3;refine Cr (S:=fun w'=>cS w' w.heap.size 0 CA 4 CC/\cI w' b ai (k0:Int)/\cI w' b (ai+3) (k3:Int)) 14 (by kernel_rfl) ?_;have uu:=aI G0 (aI M0 K0);refine tkG 0 uu (h:=tkG 1 uu (h:=tkG 2 uu (h:=tkG 3 uu (h:=tkG 4 uu (h:=tkG 5 uu (h:=tkG 6 uu (h:=tkG 7 uu (h:=tkG 8 uu (h:=tkG 9 uu (h:=tkG 10 uu (h:=tkG 11 uu (h:=?_))))))))))));clear uu;simp only [zl];refine Ta 12 13 (by kernel_rfl) rfl rfl (fun K' hK=> ?_) (fun K' hK=> ?_)
   ·
    skip
    go_simp;go_wp2_with (go_at_call 91;(with_reducible refine (kq.out _).mono ?_);rintro _ v1 ⟨y0,rfl,aq,ag,ae,ab⟩;have F1:=F0.trans ab zr;have aw:=ae.lower (base':=w.heap.size+2) bo);obtain ⟨G1,M1,K1⟩:=zk3 F1 G0 M0 K0;refine hK.out _ _ ⟨G1,M1,K1⟩ (fun hZ=> ?_);clear hZ hK K';try simp only [Ac,zl]
    refine Bl 13 (by kernel_rfl) rfl (fun K' hK=> ?_);go_simp;have au:=Blk.new v1 44 zO;have ay:=aw.non ((Fr.refl Non v1).alloc (.cells zO 44));have F2:Fr Non w1 (v1.alloc (.cells zO 44)):=F1.alloc _;have bd:=F1.size;obtain ⟨ga,bk⟩:=Aa v1.heap.size;rw [bk.out] at au bd ⊢;generalize v1.alloc (.cells zO 44)=v2 at*;obtain ⟨G2,M2,K2⟩:=zk3 F2 G0 M0 K0;refine hK.out _ _ ⟨G2,M2,K2⟩ (fun hZ=> ?_);clear hZ hK K';try simp only [Ac,zl]
    have a0:=Dr y0;have bj:=Br (P:=zp) ga 44 (cs:=y0.cells) hi (old:=zO) rfl a0;refine Ck (by kernel_rfl) ?_;refine oG 14 (fun K' hK=> ?_);go_simp;have av:=ay.opBlk au (Gr y0.cells);have b3:=au.setRow (cs:=y0.cells);have F3:Fr Non w1 (v2.setRow ga y0.cells):=F2.setRow (fun hh=>absurd hh (by omega)) _;refine hK.out _ _ trivial (fun hZ=> ?_);clear hZ hK K';try simp only [Ac,zl]
    refine oD ?_;go_simp;go_wp2_with fail;go_meet;exact ⟨y0,ga,rfl,b3,aq,ag,av,bd,F3⟩
   ·
    skip
    go_simp;have be:=(Blk.new w1 44 zO).drew;have F1:Fr Non w1 (w1.alloc (.cells zO 44)).drew:=((Fr.refl Non w1).alloc _).drew;have df:w.heap.size+2<=(w1.alloc (.cells zO 44)).drew.heap.size:=Ax3 bo F1.size;have bd:w1.heap.size<=w1.heap.size:=Ay0 _;obtain ⟨ga,bk⟩:∃x,Hid (w1.heap.size=x):=Aa _;rw [bk.out] at be ⊢;have bd:w1.heap.size<=ga:=by rw [bk.out];exact Ay0 _
    generalize (w1.alloc (.cells zO 44)).drew=v1 at*;obtain ⟨G1,M1,K1⟩:=zk3 F1 G0 M0 K0;refine hK.out _ _ ⟨G1,M1,K1⟩ (fun hZ=> ?_);clear hZ hK K';try simp only [Ac,zl]
    refine Bl 12 (by kernel_rfl) rfl (fun K' hK=> ?_);go_simp;go_wp2_with (go_at_call 91;(with_reducible refine (kq.out _).mono ?_);rintro _ v2 ⟨y0,rfl,aq,ag,ae,ab⟩;have F2:=F1.trans ab zr;have ay:=ae.lower (base':=w.heap.size+2) df;have au:=be.fr ab zq);obtain ⟨G2,M2,K2⟩:=zk3 F2 G0 M0 K0;refine hK.out _ _ ⟨G2,M2,K2⟩ (fun hZ=> ?_);clear hZ hK K';try simp only [Ac,zl]
    have a0:=Dr y0;have bj:=Br (P:=zp) ga 44 (cs:=y0.cells) hi (old:=zO) rfl a0;refine Ck (by kernel_rfl) ?_;refine oG 14 (fun K' hK=> ?_);go_simp;have av:=ay.opBlk au (Gr y0.cells);have b3:=au.setRow (cs:=y0.cells);have F3:Fr Non w1 (v2.setRow ga y0.cells):=F2.setRow (fun hh=>absurd hh (by omega)) _;refine hK.out _ _ trivial (fun hZ=> ?_);clear hZ hK K';try simp only [Ac,zl]
    refine oD ?_;go_simp;go_wp2_with fail;go_meet;exact ⟨y0,ga,rfl,b3,aq,ag,av,bd,F3⟩
  case rest=>
  obtain ⟨y0,gO,rfl,bO,aq,ag,ae,bs,f2⟩:=hcut;generalize wc=wb at*;have hD:1<=1+(k0:Int)%4/\1+(k0:Int)%4<=4:=by omega
  obtain ⟨D,cf⟩:∃D:Nat,1+(k0:Int)%4=(D:Int):=⟨(1+(k0:Int)%4).toNat,by omega⟩;rw [cf] at aq hD;have dq:1<=D/\D<=4:=by omega
  clear cf hD kO L0 d0 q0;have dc:=f2.cell d1 zq
  by_cases hz:N=0
  ·
   have t:((N:Int)==0)=true:=by simp [hz]
   clear kA kH kC kS kL a6 aa ap L1;have dv:=a1.out hz
   as_aux_lemma=>
   go_upto_region 11 with (fail)
   have F0:Fr Non w1 wb.drew:=f2.drew;have Y0:wb.cell? ⟨gO,0,none⟩=some (.int .i64 (D:Int)):=by rw [bO.cell 0];show some (Value.int .i64 y0.by_)=_;rw [aq]
   obtain ⟨M0,K0⟩:=zk2 f2 L2 L3;refine Cr (S:=fun w'=>cI w' gO 0 (D:Int)/\cI w' b (ai+2) (k2:Int)/\cI w' b (ai+3) (k3:Int)) 13 (by kernel_rfl) ?_;have uu:=aI Y0 (aI M0 K0);refine tkG 0 uu (h:=tkG 1 uu (h:=tkG 2 uu (h:=tkG 3 uu (h:=tkG 4 uu (h:=tkG 5 uu (h:=tkG 6 uu (h:=tkG 7 uu (h:=tkG 8 uu (h:=tkG 9 uu (h:=tkG 10 uu (h:=?_)))))))))));clear uu;simp only [zl];refine Bl 11 (by kernel_rfl) rfl (fun K' hK=> ?_);go_simp;have nP:=(Blk.new wb 94 #[.int .u64 5,.slice none 0 0]).drew;have ab:Fr Non wb (wb.alloc (.cells #[.int .u64 5,.slice none 0 0] 94)).drew:=((Fr.refl Non wb).alloc _).drew;have cm:=Ax3 bo f2.size;obtain ⟨gp,b5⟩:=Aa wb.heap.size;rw [b5.out] at nP cm ⊢;generalize (wb.alloc (.cells #[.int .u64 5,.slice none 0 0] 94)).drew=v1 at*;obtain ⟨Y1,M1,K1⟩:=zk3 ab Y0 M0 K0;refine hK.out _ _ ⟨Y1,M1,K1⟩ (fun hZ=> ?_);clear hZ hK K';try simp only [Ac,zl]
   refine Fi (i:=12) (v:=?_) rfl (by kernel_rfl) (by kernel_rfl) (by kernel_rfl) (by kernel_rfl) (fun _ _ _ h=>h) (Or.inl ⟨by kernel_rfl,?_⟩) ⟨Y1,M1,K1⟩ ?_;rotate_left
   focus (intro w' ds;refine As7 (D:=(D:Int)) (a:=(k2:Int)%5) (v:=(k3:Int)%5) (A:=some ⟨gp,0,none⟩) ?_ ?_ ?_ ?_ ?_;rfl;rfl;rfl;rfl;exact fun _=>rfl)
   simp only [zl];have bv:=bO.fr ab zq;have bj:=Br (P:=zp) gO 44 (cs:=(fsL (D:Int) ((k2:Int)%5) ((k3:Int)%5) (some ⟨gp,0,none⟩)).cells) hi (old:=y0.cells) rfl (Dr _);refine Ck (by kernel_rfl) ?_;refine oG 13 (fun K' hK=> ?_);go_simp;have cy:=bv.setRow (cs:=(fsL (D:Int) ((k2:Int)%5) ((k3:Int)%5) (some ⟨gp,0,none⟩)).cells)
   have oP:Own v1 (w.heap.size+2) 94 2 (some ⟨gp,0,none⟩) 1 1 (([⟨5,none,0,[]⟩]:List NdL).flatMap NdL.cells):=by
    have h5:=Own.blk (base:=w.heap.size+2) (n:=1) (size:=2) nP cm (by omega) rfl (by omega);simpa [NdL.cells] using h5
   have bh:(fsL (D:Int) ((k2:Int)%5) ((k3:Int)%5) (some ⟨gp,0,none⟩)).own (v1.setRow gO (fsL (D:Int) ((k2:Int)%5) ((k3:Int)%5) (some ⟨gp,0,none⟩)).cells) (w.heap.size+2):=(As4 (RowAt.of_own oP)).opBlk bv (Gr _);have fv:Fr Non w1 (v1.setRow gO (fsL (D:Int) ((k2:Int)%5) ((k3:Int)%5) (some ⟨gp,0,none⟩)).cells):=(f2.trans ab zr).setRow (fun hh=>absurd hh (by omega)) _;have ad:(fsL (D:Int) ((k2:Int)%5) ((k3:Int)%5) (some ⟨gp,0,none⟩)).op.ok:=As3 ⟨by omega,by omega⟩ ⟨by omega,by omega⟩ ⟨by omega,by omega⟩;have di:An CD [] (sgn (fsL (D:Int) ((k2:Int)%5) ((k3:Int)%5) (some ⟨gp,0,none⟩)).op)=0:=aj.out (D:Int) ((k2:Int)%5) ((k3:Int)%5) (by omega) (by omega) (by omega);have ac:FewN (fsL (D:Int) ((k2:Int)%5) ((k3:Int)%5) (some ⟨gp,0,none⟩)).op:=⟨Ax6 _,(by show (1:Int)<=(D:Int);omega),(by show (D:Int)<=4;omega)⟩;have ak:(fsL (D:Int) ((k2:Int)%5) ((k3:Int)%5) (some ⟨gp,0,none⟩)).by_=(D:Int):=rfl;generalize fsL (D:Int) ((k2:Int)%5) ((k3:Int)%5) (some ⟨gp,0,none⟩)=X at*;refine hK.out _ _ trivial (fun hZ=> ?_);clear hZ hK K';try simp only [Ac,zl]
   refine oD ?_;go_simp;generalize v1.setRow gO X.cells=v2 at*;clear bv nP oP Y0 Y1 M0 M1 K0 K1 bj ab;have dg:=Bi (P:=zp) gO 44 underlying44 rfl (cs:=X.cells) hi;have fw:Fr Non w v2:=a8.trans fv zr;have bz:=br.fr fv zq;have ax:=lh (Lb X D (w.heap.size+2) v2 ak (by omega) bh ad)
   have al:Hid (∀y:OpL,y.op=sgn X.op->y.op.ok/\((l=[]->An CD [] y.op=0)/\FewN y.op)):=fun y e=>by
    rw [e];exact ⟨Ng ad,fun _=>di,FewN.sgn ac⟩
   have da:(zp.info? 44).map (·.size)=some X.cells.size:=hi;clear aj a1 ah bh ad ak ac;unfold Gt at ax;generalize sgn X.op=SO at*;generalize X.cells=XC at*;go_wp2_with (go_at_call 15;(with_reducible refine (ax.out).mono ?_);rintro _ w5 ⟨y,rfl,ba,a9,f5⟩;go_loud (have bb:=bz.fr f5 zq;have a4:=lh (al.out y ba);have hd:=lh (fun wz hz=>af.out y w5 wz a4.out.1 a9 (fw.trans f5 zr) bb hz a4.out.2);have bj:=Br (P:=zp) (w.heap.size+1) 44 (cs:=y.cells) hi (old:=zO) rfl (Dr y);have bt:(zp.info? 44).map (·.size)=some y.cells.size:=hi;clear af a4 ba a9 al ax;generalize y.cells=YC at*));have b6:=bb.setRow (cs:=YC);have bq:=lh (hd.out _ (Gr YC))
   (try simp only [Exit.inBlock,Exit.then])
   refine Ez (t:=44) rfl rfl b6 rfl underlying44 bt rfl ?_;exact bq.out
  ·
   have t:((N:Int)==0)=false:=by simp [hz]
   clear L3 q3 aj;have cu:=bg.fr f2 zq;have ch:=f2.cell L1 zq;have bm:=Ax3 bo f2.size;have cb:Fr Non w wb:=a8.trans f2 zr;rw [<- aa.out.2] at kA;go_upto_region 14 with (go_at_call 22;(with_reducible refine (kA.out _ cb).mono ?_);rintro _ v0 ⟨A9,c9,rfl,o9,f9⟩)
   have cc:=f9.cell ch zq;have B0:=cu.fr f9 zq;have cr:Fr Non w v0:=cb.trans f9 zr;have ce:=Ax3 bm f9.size;replace o9:=o9.lower bm
   go_upto_if 65 with (fail)
   go_cut [9] from 65 to 76 (fun s wd=>∃(ids:List Id) (A9:Option Addr) (c9:Nat),s=.slice A9 ids.length c9/\Own wd (w.heap.size+2) 38 3 A9 ids.length c9 (ids.flatMap Id.cells)/\Hid (∀id∈ids,(plc l id).isSome=true)/\Hid (ids.length<=200)/\Fr Non wb wd)
   case first=>
    clear af kH kS kL a6 a1 ah ag ae bO
    as_aux_lemma=>
    by_cases ht:k1%3=1
    ·
     have t2:((k1:Int)%3==1)=true:=by simp;omega
     go_upto_region 15 with (fail)
     have Q0:=cc;refine wp_region_held_drew (S:=fun w'=>Blk w' w.heap.size 32 CS/\cI w' b (ai+1) (k1:Int)) (by kernel_rfl) ⟨B0,Q0⟩ (fun hHeld=> ?_);clear hHeld;have uu:=aI B0 Q0;refine tkH 0 uu (h:=tkH 1 uu (h:=tkH 2 uu (h:=tkH 3 uu (h:=tkH 4 uu (h:=tkH 5 uu (h:=tkH 6 uu (h:=tkH 7 uu (h:=tkH 8 uu (h:=?_)))))))));clear uu;simp only [zl];refine oG 9 (fun K' hK=> ?_);go_simp;have nP:=(Blk.new v0 3 #[.int .i64 ((k1:Int)/3),.int .i64 ((k1:Int)/100)]).drew;have ab:Fr Non v0 (v0.alloc (.cells #[.int .i64 ((k1:Int)/3),.int .i64 ((k1:Int)/100)] 3)).drew:=((Fr.refl Non v0).alloc _).drew;obtain ⟨gp,b5⟩:=Aa v0.heap.size;rw [b5.out] at nP ⊢;generalize (v0.alloc (.cells #[.int .i64 ((k1:Int)/3),.int .i64 ((k1:Int)/100)] 3)).drew=v1 at*;have B1:=B0.fr ab zq;have Q1:=ab.cell Q0 zq;refine hK.out _ _ ⟨B1,Q1⟩ (fun hZ=> ?_);clear hZ hK K';try simp only [Ac,zl]
     have ck:=lh (kC.out _ 2 2 (some ⟨gp,0,none⟩) [(k1:Int)/3,(k1:Int)/100] v1 (cr.trans ab zr) rfl (Rd.blk (n:=2) (size:=1) nP rfl) (fun x hx=>by
      rcases List.mem_cons.1 hx with rfl|hx
      · exact ⟨by omega,by omega⟩
      ·
       obtain rfl:=List.mem_singleton.1 hx;exact ⟨by omega,by omega⟩))
     unfold Ki at ck;refine oG 10 (fun K' hK=> ?_);go_simp;go_wp2_with (go_at_call 26;(with_reducible refine (ck.out).mono ?_);rintro _ v2 ⟨cs,⟨A8,c8,rfl,o8,b7⟩,dk,dt⟩;have B2:=B1.fr b7 zq;have Q2:=b7.cell Q1 zq);refine hK.out _ _ ⟨B2,Q2⟩ (fun hZ=> ?_);clear hZ hK K';try simp only [Ac,zl]
     refine tkH 11 ⟨B2,Q2⟩ (h:=?_);simp only [zl];refine oD ?_;go_simp;have cn:=ap.out cs dk;go_wp2_with fail;go_meet;exact ⟨cs,A8,c8,rfl,o8.lower (Ax3 ce ab.size),cn.1,cn.2,(f9.trans ab zr).trans b7 zr⟩
    ·
     have t2:((k1:Int)%3==1)=false:=by simp;omega
     go_wp2_with fail;go_meet;exact ⟨SI,A9,c9,rfl,o9,aa.out.1,by show _<=_;rw [aa.out.2];exact az,f9⟩
   case rest=>
   clear o9 cc B0 cr ce f9;obtain ⟨ids,A8,c8,rfl,o9,ci,ct,f3⟩:=hcut;generalize wc=wd at*;obtain ⟨p1,p2,p3,p4,p5⟩:=a6.out ids ci.out ct.out;have dh:=ct.out;have dr:=p4 (D:Int) ids.length;have bn:Fr Non w1 wd:=f2.trans f3 zr;have cj:=bO.fr f3 zq;have bf:=ae.non f3;have kh:=lh (kH.out _ ids.length c8 A8 ids wd (a8.trans bn zr) rfl o9.rd (by omega));have ks:=lh (fun (w':World) (ho:Own w' (w.heap.size+2) 38 3 A8 ids.length c8 (ids.flatMap Id.cells))=>kS.out _ ids.length c8 A8 ids (D:Int) w' rfl ho.rd (by omega) p3);have kl:=lh (fun (w':World) (hf:Fr Non w w') (ho:Own w' (w.heap.size+2) 38 3 A8 ids.length c8 (ids.flatMap Id.cells))=>kL.out _ ids.length c8 A8 ids w' hf rfl ho.rd (by omega));have bl:=lh (And.intro p1 p2);clear kA kH kC kS kL a6 aa ap L1 ch q1 p4 ci ae bO cu d1 dc p1 p2 p3;unfold Bp at kh;generalize Fw l ids=HL at*;generalize Cs ids (D:Int) ids.length=SQ at*;generalize late l ids=LT at*;have dj:=bg.fr bn zq;have YC:y0.cells.size=27:=rfl;have c7:Hid (y0.cells[0]? =some (.int .i64 (D:Int))):=by show some (Value.int .i64 y0.by_)=_;rw [aq]
   have db:Hid (y0.cells[1]? =some (.int .i64 y0.sq)):=rfl;have dn:Hid (y0.cells[3]? =some (.int .i64 y0.at_)):=rfl;have dl:Hid (y0.cells[4]? =some (.slice y0.pastA y0.past.length y0.pastC)):=rfl;have cz:=Ax3 bm f3.size;generalize wd=w3 at*;go_upto_region 17 with (go_at_call 92;(with_reducible refine (kh.out).mono ?_);rintro _ v3 ⟨A4,c4,rfl,o4,f4⟩;have a3:=cj.fr f4 zq;have m4:=(a3.cell 4).trans dl.out;have z4:=a3.frozen 4)
   have bw:Fr Non w1 (v3.setCell ⟨gO,4,none⟩ (.slice A4 HL.length c4)):=(bn.trans f4 zr).setNew bs 4 _;have b4:=a3.set 4 (.slice A4 HL.length c4);have bx:=Own.setFar (i:=4) (o9.fr f4 zr) a3 (by decide) (.slice A4 HL.length c4);have cg:=Own.setFar (i:=4) (o4.lower cz) a3 (by decide) (.slice A4 HL.length c4);have ar:=(bf.non f4).opBlk a3 (N9 (i:=4) (.slice A4 HL.length c4));generalize v3.setCell ⟨gO,4,none⟩ (.slice A4 HL.length c4)=w4 at*;clear kh m4 z4 a3 cj f4 o4 o9 bf bn dj;have cv:=bg.fr bw zq;have Y4:cI w4 gO 0 (D:Int):=(b4.cell 0).trans c7.out;go_upto_region 18 with (go_at_call 93;(with_reducible refine (ks.out _ bx).mono ?_);rintro _ v4 ⟨rfl,f5⟩;have a2:=b4.fr f5 zq;have m5:cI v4 gO 1 y0.sq:=(a2.cell 1).trans db.out;have z5:=a2.frozen 1)
   have b1:Fr Non w1 (v4.setCell ⟨gO,1,none⟩ (.int .i64 (SQ+1))):=(bw.trans f5 zr).setNew bs 1 _;have cd:=a2.set 1 (.int .i64 (SQ+1));have ca:=Own.setFar (i:=1) (bx.fr f5 zr) a2 (by decide) (.int .i64 (SQ+1));have cl:=Own.setFar (i:=1) (cg.fr f5 zr) a2 (by decide) (.int .i64 (SQ+1));have bc:=(ar.non f5).opBlk a2 (N9 (i:=1) (.int .i64 (SQ+1)));generalize v4.setCell ⟨gO,1,none⟩ (.int .i64 (SQ+1))=w5 at*;clear ks m5 z5 a2 b4 f5 bx cg ar bw Y4 cv;have B0:=(bg.fr b1 zq).drew;have M0:cI w5.drew b (ai+2) (k2:Int):=b1.cell L2 zq;have F0:Fr Non w1 w5.drew:=b1.drew;have dw:=iw (LT+(k2:Int)%3);refine Cr (S:=fun w'=>Blk w' w.heap.size 32 CS/\cI w' b (ai+2) (k2:Int)) 9 (by kernel_rfl) ?_;have uu:=aI B0 M0;refine tkG 0 uu (h:=tkG 1 uu (h:=tkG 3 uu (h:=tkG 4 uu (h:=tkG 5 uu (h:=tkG 6 uu (h:=?_))))));clear uu;simp only [zl];refine Bl 2 (by kernel_rfl) rfl (fun K' hK=> ?_);go_simp;go_wp2_with (go_at_call 94;(with_reducible refine (kl.out _ (a8.trans F0 zr) ca.drew).mono ?_);rintro _ v1 ⟨rfl,ab⟩;go_loud (have B1:=B0.fr ab zq;have M1:=ab.cell M0 zq));refine hK.out _ _ ⟨B1,M1⟩ (fun hZ=> ?_);clear hZ hK K';try simp only [Ac,zl]
   refine tkG 7 ⟨B1,M1⟩ (h:=tkG 8 ⟨B1,M1⟩ (h:=?_));simp only [zl];have fq:Fr Non w5 v1:=((Fr.refl Non w5).drew).trans ab zr;have a7:=cd.fr fq zq;have m8:cI v1 gO 3 y0.at_:=(a7.cell 3).trans dn.out;have z8:=a7.frozen 3;refine Ck (by kernel_rfl) ?_;refine oG 9 (fun K' hK=> ?_);go_simp;have AT:(Value.int .i64 (LT+(k2:Int)%3))=.int .i64 (LT+(k2:Int)%3):=rfl;have fv:Fr Non w1 (v1.setCell ⟨gO,3,none⟩ (.int .i64 (LT+(k2:Int)%3))):=(F0.trans ab zr).setNew bs 3 _;have cy:Blk (v1.setCell ⟨gO,3,none⟩ (.int .i64 (LT+(k2:Int)%3))) gO 44 (nxL y0 A4 c4 HL (SQ+1) (LT+(k2:Int)%3)).cells:=a7.set 3 (.int .i64 (LT+(k2:Int)%3));have cp:=Own.setFar (i:=3) (cl.fr fq zr) a7 (by decide) (.int .i64 (LT+(k2:Int)%3));have bi:=(bc.non fq).opBlk a7 (N9 (i:=3) (.int .i64 (LT+(k2:Int)%3)));have bh:=As2 (s:=SQ+1) (a:=LT+(k2:Int)%3) bi (RowAt.of_own cp);have ad:(nxL y0 A4 c4 HL (SQ+1) (LT+(k2:Int)%3)).op.ok:=As1 ag ⟨Ax3 bl.out.1 (by decide),bl.out.2⟩ ⟨by omega,by omega⟩ ⟨by omega,by omega⟩;have ac:FewN (nxL y0 A4 c4 HL (SQ+1) (LT+(k2:Int)%3)).op:=⟨bl.out.1,(by show (1:Int)<=y0.by_;rw [aq];omega),(by show y0.by_<=4;rw [aq];omega)⟩;have ak:(nxL y0 A4 c4 HL (SQ+1) (LT+(k2:Int)%3)).by_=(D:Int):=aq;have c3:l≠[]:=fun e=>hz (ah.out e);generalize nxL y0 A4 c4 HL (SQ+1) (LT+(k2:Int)%3)=X at*;refine hK.out _ _ trivial (fun hZ=> ?_);clear hZ hK K';try simp only [Ac,zl]
   refine oD ?_;go_simp;generalize v1.setCell ⟨gO,3,none⟩ (.int .i64 (LT+(k2:Int)%3))=v2 at*;clear cd a7 m8 z8 cp bi cl bc ca M0 M1 B0 B1 F0 fq ab kl bl ag AT;have dg:=Bi (P:=zp) gO 44 underlying44 rfl (cs:=X.cells) hi;have fw:Fr Non w v2:=a8.trans fv zr;have bz:=br.fr fv zq;have ax:=lh (Lb X D (w.heap.size+2) v2 ak (by omega) bh ad)
   have al:Hid (∀y:OpL,y.op=sgn X.op->y.op.ok/\((l=[]->An CD [] y.op=0)/\FewN y.op)):=fun y e=>by
    rw [e];exact ⟨Ng ad,fun e=>absurd e c3,FewN.sgn ac⟩
   have da:(zp.info? 44).map (·.size)=some X.cells.size:=hi;clear a1 ah bh ad ak ac;unfold Gt at ax;generalize sgn X.op=SO at*;generalize X.cells=XC at*;go_wp2_with (go_at_call 15;(with_reducible refine (ax.out).mono ?_);rintro _ w5 ⟨y,rfl,ba,a9,f5⟩;go_loud (have bb:=bz.fr f5 zq;have a4:=lh (al.out y ba);have hd:=lh (fun wz hz=>af.out y w5 wz a4.out.1 a9 (fw.trans f5 zr) bb hz a4.out.2);have bj:=Br (P:=zp) (w.heap.size+1) 44 (cs:=y.cells) hi (old:=zO) rfl (Dr y);have bt:(zp.info? 44).map (·.size)=some y.cells.size:=hi;clear af a4 ba a9 al ax;generalize y.cells=YC at*));have b6:=bb.setRow (cs:=YC);have bq:=lh (hd.out _ (Gr YC))
   (try simp only [Exit.inBlock,Exit.then])
   refine Ez (t:=44) rfl rfl b6 rfl underlying44 bt rfl ?_;exact bq.out
end Oq
namespace Oq
attribute [local go_sem] Ax8 Ax9
attribute [local go_sem ↓] Cx E5
def rg0 (A:Option Addr) (c:Nat) (cs:List Cd):RG:=⟨A,c,cs,none,0,[],none,0,none,0,[],none,0,[],[]⟩
theorem As9 {A:Option Addr} {c:Nat} {cs:List Cd} {w:World} {base:Nat} (h:RowAt w base 104 5 A cs.length c (cs.flatMap Cd.cells)) (hf:cs.length<=1000) (hk:∀c∈cs,c.s<18446744073709551616):(rg0 A c cs).own w base where
 cards:=h
 ops:=RowAt.nil _ _ _ _
 each _ hx:=absurd hx Ax4
 same:=rfl
 ok _ hx:=absurd hx Ax4
 ids:=RowAt.nil _ _ _ _
 ups:=RowAt.nil _ _ _ _
 eachU _ hx:=absurd hx Ax4
 sameU:=rfl
 ins:=RowAt.nil _ _ _ _
 eachN _ hx:=absurd hx Ax4
 sameN:=rfl
 rows:=Rows.nil
 cfew:=hf
 cok:=hk
theorem At0 (n c:Nat) (A:Option Addr) (w:World):
  Calls zp 41 #[.slice A n c] w fun e w'=>e=.returned (.agg #[.slice A n c,.slice none 0 0,.slice none 0 0,.slice none 0 0,.slice none 0 0])/\Fr Non w w':=by
 have hG:(zp.info? 32).map (·.size)=some (#[.slice A n c,.slice none 0 0,.slice none 0 0,.slice none 0 0,.slice none 0 0]:Array Value).size:=Co;have br:=Blk.new w 32 zG;have f0:Fr Non w (w.alloc (.cells zG 32)):=(Fr.refl Non w).alloc _;have hst:=Br (P:=zp) w.heap.size 32 (cs:=#[.slice A n c,.slice none 0 0,.slice none 0 0,.slice none 0 0,.slice none 0 0]) hG (old:=zG) rfl (by simp [Value.oneCell']);go_enter func41,ntmps41;go_upto_region 1 with (fail)
 have hz2:=br.setRow (cs:=#[.slice A n c,.slice none 0 0,.slice none 0 0,.slice none 0 0,.slice none 0 0]);have fz:=f0.setRow (g:=w.heap.size) (fun hh=>absurd hh (by omega)) #[.slice A n c,.slice none 0 0,.slice none 0 0,.slice none 0 0,.slice none 0 0];go_wp2_with fail
 (try simp only [Exit.inBlock,Exit.then])
 refine Ez (t:=32) rfl rfl hz2 rfl underlying32 hG rfl ?_;exact ⟨rfl,fz⟩
theorem At1 {w:World} {B n c m:Nat} {A:Option Addr} {xs:List Value} (h:Rd w B 1 A n xs) (hm:m<=n) (hc:n<=c):Rd w B 1 (if c=m then A else A.map (fun x=>x.add m)) (n-m) (xs.drop m):=by
 have hl:=h.1;refine ⟨by rw [Ay9];omega,?_⟩
 by_cases hz:n-m=0
 · exact .inl hz
 ·
  have hcm:¬c=m:=by omega
  rw [if_neg hcm]
  rcases h.2 with h0|⟨b,off,rfl,hb,hx⟩
  · exact absurd h0 (by omega)
  ·
   refine .inr ⟨b,off+m,by simp [Addr.add],hb,fun j u hu=> ?_⟩;rw [List.getElem?_drop] at hu;have h5:=hx (m+j) u hu;rw [<- Nat.add_assoc] at h5;exact h5
def Le (w:World) (e:Ending) (w':World):Prop:=
 ∃r:RG,e=.returned (.agg r.cells)/\Fr Non w w'/\r.own w' w.heap.size/\r.cards=Bm 0 [1,2,3,1]/\r.l≠[]/\r.l.length<=14
theorem At2:∀c∈Bm 0 [1,2,3,1],c.s<18446744073709551616:=fun c hc=>by
 obtain ⟨xs,h1,_,_,h4⟩:=Nf [1,2,3,1] 0 (by decide);rw [<- h1] at hc;obtain ⟨x,hx,rfl⟩:=List.mem_map.1 hc;exact h4 x hx
end Oq
namespace Oq
attribute [local go_sem] Ax8 Ax9
attribute [local go_sem ↓] Cx E5 Cj Fc
structure Fo (r:RG) (base oB:Nat) (wf v:World) (y:OpL):Prop where
 b:Blk v oB 44 y.cells
 own:y.own v base
 ok:y.op.ok
 few:FewN y.op
 first:r.l=[]->y.kind=1/\An r.cards [] y.op=0
 fr:Fr Non wf v
 new:wf.heap.size<=oB
theorem Fo.non {r:RG} {base oB:Nat} {wf v v':World} {y:OpL} (s:Fo r base oB wf v y) (hf:Fr Non v v'):Fo r base oB wf v' y:=
 ⟨s.b.fr hf zq,s.own.non hf,s.ok,s.few,s.first,s.fr.trans hf zr,s.new⟩
theorem Fo.put {r:RG} {base oB:Nat} {wf v:World} {y:OpL} (s:Fo r base oB wf v y) {z:OpL} {o:Op} (hk:y.kind≠1) (hz:z.op=sgn o) (ho:z.own v base) (hok:o.ok) (hfew:FewN o):Fo r base oB wf (v.setRow oB z.cells) z where
 b:=s.b.setRow
 own:=ho.opBlk s.b ((Fr.refl (One oB) v).setRow (fun _=>rfl) _)
 ok:=by rw [hz];exact Ng hok
 few:=by rw [hz];exact hfew.sgn
 first h:=absurd (s.first h).1 hk
 fr:=s.fr.setRow (fun hh=>absurd hh (by have:=s.new;omega)) _
 new:=s.new
theorem Uk:OpL.zero.op.ok:=by
 have z:I64 0:=⟨by decide,by decide⟩;have u:U64 0:=by unfold U64;decide
 have e:∀{α:Type} {P:α->Prop},(([]:List α).length<=1000/\∀x∈([]:List α),P x):=⟨by simp,fun _ h=>absurd h Ax4⟩;exact {by_:=z,sq:=z,kind:=z,at_:=z,past:=e,dev:=z,old:=z,mem:=z,role:=z,path:=e,epoch:=⟨z,z,u⟩,n:=z,body:=by decide,refs:=e,of:=⟨z,z,u⟩,guards:=e,need:=z,wait:=z,boxes:=e,pub:=u,hist:=e,r:=u,s:=u}
theorem At3 {w:World} {base:Nat} {y:OpL} (h:y.own w base) (D1 D2:Nat):({OpL.zero with by_:=y.by_,sq:=y.sq,kind:=2,at_:=y.at_,pastA:=y.pastA,pastC:=y.pastC,past:=y.past,dev:=1+(D1:Int),role:=1+(D2:Int)}:OpL).own w base:={OpL.zero_own w base with past:=h.past}
theorem At4 {w:World} {base:Nat} {y:OpL} (h:y.own w base) (D1 D2:Nat):({OpL.zero with by_:=y.by_,sq:=y.sq,kind:=13,at_:=y.at_,pastA:=y.pastA,pastC:=y.pastC,past:=y.past,dev:=1+(D1:Int),old:=1+(D2:Int),of:=⟨1,1,0⟩}:OpL).own w base:={OpL.zero_own w base with past:=h.past}
theorem Ul {y:OpL} (h:y.op.ok) {D1 D2:Nat} (h1:D1<=100) (h2:D2<=100):({OpL.zero with by_:=y.by_,sq:=y.sq,kind:=2,at_:=y.at_,pastA:=y.pastA,pastC:=y.pastC,past:=y.past,dev:=1+(D1:Int),role:=1+(D2:Int)}:OpL).op.ok:={Uk with by_:=h.by_,sq:=h.sq,kind:=(show I64 2 from ⟨by decide,by decide⟩),at_:=h.at_,past:=h.past,dev:=(show I64 (1+(D1:Int)) from ⟨by omega,by omega⟩),role:=(show I64 (1+(D2:Int)) from ⟨by omega,by omega⟩)}
theorem At5:(Id.mk 1 1 0).ok:=⟨⟨by decide,by decide⟩,⟨by decide,by decide⟩,(by show (0:Nat)<18446744073709551616;decide)⟩
theorem Um {y:OpL} (h:y.op.ok) {D1 D2:Nat} (h1:D1<=100) (h2:D2<=100):({OpL.zero with by_:=y.by_,sq:=y.sq,kind:=13,at_:=y.at_,pastA:=y.pastA,pastC:=y.pastC,past:=y.past,dev:=1+(D1:Int),old:=1+(D2:Int),of:=⟨1,1,0⟩}:OpL).op.ok:={Uk with by_:=h.by_,sq:=h.sq,kind:=(show I64 13 from ⟨by decide,by decide⟩),at_:=h.at_,past:=h.past,dev:=(show I64 (1+(D1:Int)) from ⟨by omega,by omega⟩),old:=(show I64 (1+(D2:Int)) from ⟨by omega,by omega⟩),of:=At5}
theorem At6 {y:OpL} {base:Nat} {w:World} (h:y.own w base) (hok:y.op.ok) (hf:FewN y.op) {D1 D2:Nat} (h1:D1<=100) (h2:D2<=100):Calls zp 15 #[.agg #[.int .i64 y.by_,.int .i64 y.sq,.int .i64 2,.int .i64 y.at_,.slice y.pastA y.past.length y.pastC,.int .i64 (1+(D1:Int)),.int .i64 0,.int .i64 0,.int .i64 (1+(D2:Int)),.slice none 0 0,.int .i64 0,.int .i64 0,.int .u64 0,.int .i64 0,.slice none 0 0,.slice none 0 0,.int .i64 0,.int .i64 0,.int .u64 0,.slice none 0 0,.int .i64 0,.int .i64 0,.slice none 0 0,.int .u64 0,.slice none 0 0,.int .u64 0,.int .u64 0]] w (Gt ({OpL.zero with by_:=y.by_,sq:=y.sq,kind:=2,at_:=y.at_,pastA:=y.pastA,pastC:=y.pastC,past:=y.past,dev:=1+(D1:Int),role:=1+(D2:Int)}:OpL).op base w):=by
 obtain ⟨_,h3,h4⟩:=hf
 have h5:y.by_=((y.by_.toNat:Nat):Int):=by
  have:(1:Int)<=y.by_:=h3;omega
 exact Lb ({OpL.zero with by_:=y.by_,sq:=y.sq,kind:=2,at_:=y.at_,pastA:=y.pastA,pastC:=y.pastC,past:=y.past,dev:=1+(D1:Int),role:=1+(D2:Int)}:OpL) y.by_.toNat base w h5 (by have:y.by_<=4:=h4;omega) (At3 h D1 D2) (Ul hok h1 h2)
theorem At7 {y:OpL} {base:Nat} {w:World} (h:y.own w base) (hok:y.op.ok) (hf:FewN y.op) {D1 D2:Nat} (h1:D1<=100) (h2:D2<=100):Calls zp 15 #[.agg #[.int .i64 y.by_,.int .i64 y.sq,.int .i64 13,.int .i64 y.at_,.slice y.pastA y.past.length y.pastC,.int .i64 (1+(D1:Int)),.int .i64 (1+(D2:Int)),.int .i64 0,.int .i64 0,.slice none 0 0,.int .i64 0,.int .i64 0,.int .u64 0,.int .i64 0,.slice none 0 0,.slice none 0 0,.int .i64 1,.int .i64 1,.int .u64 0,.slice none 0 0,.int .i64 0,.int .i64 0,.slice none 0 0,.int .u64 0,.slice none 0 0,.int .u64 0,.int .u64 0]] w (Gt ({OpL.zero with by_:=y.by_,sq:=y.sq,kind:=13,at_:=y.at_,pastA:=y.pastA,pastC:=y.pastC,past:=y.past,dev:=1+(D1:Int),old:=1+(D2:Int),of:=⟨1,1,0⟩}:OpL).op base w):=by
 obtain ⟨_,h3,h4⟩:=hf
 have h5:y.by_=((y.by_.toNat:Nat):Int):=by
  have:(1:Int)<=y.by_:=h3;omega
 exact Lb ({OpL.zero with by_:=y.by_,sq:=y.sq,kind:=13,at_:=y.at_,pastA:=y.pastA,pastC:=y.pastC,past:=y.past,dev:=1+(D1:Int),old:=1+(D2:Int),of:=⟨1,1,0⟩}:OpL) y.by_.toNat base w h5 (by have:y.by_<=4:=h4;omega) (At4 h D1 D2) (Um hok h1 h2)
theorem Lf (n a:Nat):(n:Int).tdiv (a:Int)=((n/a:Nat):Int):=by rw [Ay6 (Az0 _)];rfl
theorem Lg (n a:Nat):(n:Int).tmod (a:Int)=((n%a:Nat):Int):=by rw [Ax5 (Az0 _)];rfl
theorem At8 (B n c:Nat) (A:Option Addr) (l0:List Int) (w:World) (hn:Hid (l0.length=n)) (hr:Rd w B 1 A n (l0.map Iv)) (hnc:n<=c) (_hnm:c<=9223372036854775807) (hok:∀x∈l0,I64 x):
  Calls zp 76 #[.slice A n c] w (Le w):=by
 have hG:∀r:RG,(zp.info? 32).map (·.size)=some r.cells.size:=fun r=>Co;have kc:=lh (fun (w':World) (hr:Rd w' w'.heap.size 1 (some ⟨w.heap.size+1,0,none⟩) 4 (([1,2,3,1]:List Int).map Iv))=>Xy 4 4 (some ⟨w.heap.size+1,0,none⟩) [1,2,3,1] w' rfl (by decide) hr);have kn:=lh (fun (n' c':Nat) (A':Option Addr) (w':World)=>At0 n' c' A' w');have kx:=lh (fun (r:RG) (B' n' c':Nat) (A':Option Addr) (l1:List Int) (w':World) h hcs hn hr hok=>As8 w.heap.size B' n' c' r A' l1 w' h hcs hn hr hok);have ka:=lh (fun (r:RG) (x:OpL) (w':World) h (hx:x.own w' w.heap.size) hb hok=>Al5 w.heap.size r x w' h hx.lies hb hok);have br:=(Blk.new w 32 zG).alloc (.cells #[.int .i64 1,.int .i64 2,.int .i64 3,.int .i64 1] 3);have bi:=Blk.new (w.alloc (.cells zG 32)) 3 #[.int .i64 1,.int .i64 2,.int .i64 3,.int .i64 1];rw [Ax7] at bi;have f0:Fr Non w ((w.alloc (.cells zG 32)).alloc (.cells #[.int .i64 1,.int .i64 2,.int .i64 3,.int .i64 1] 3)):=((Fr.refl Non w).alloc _).alloc _
 have cr:w.heap.size+2<=((w.alloc (.cells zG 32)).alloc (.cells #[.int .i64 1,.int .i64 2,.int .i64 3,.int .i64 1] 3)).heap.size:=by
  rw [Ax7,Ax7];exact Ay0 _
 go_enter func76,ntmps76;go_upto_region 1 with (fail)
 generalize hw0:(w.alloc (.cells zG 32)).alloc (.cells #[.int .i64 1,.int .i64 2,.int .i64 3,.int .i64 1] 3)=w0 at*;unfold Qo at kc
 have b9:Rd w0 w0.heap.size 1 (some ⟨w.heap.size+1,0,none⟩) 4 (([1,2,3,1]:List Int).map Iv):=by
  rw [<- hw0] at bi ⊢;exact Rd.blk (n:=4) (size:=1) bi rfl
 go_upto_region 2 with (first
  |(go_at_call 42;(with_reducible refine (kc.out _ b9).mono ?_);rintro _ w1 ⟨A1,c1,rfl,o1,f1⟩;have ca:=f0.trans f1 zr;have bv:=br.fr f1 zq)
  |(go_at_call 41;(with_reducible refine (kn.out _ _ _ _).mono ?_);rintro _ w2 ⟨rfl,f2⟩;have cc:=ca.trans f2 zr;have aj:=bv.fr f2 zq;have o2:=o1.fr f2 zr;have bn:=Blk.new w2 32 zG;have ak:=Br (P:=zp) w2.heap.size 32 (cs:=#[.slice A1 4 c1,.slice none 0 0,.slice none 0 0,.slice none 0 0,.slice none 0 0]) (hG (rg0 A1 c1 (Bm 0 [1,2,3,1]))) (old:=zG) rfl (by simp [Value.oneCell'])))
 have bm:=(aj.alloc (.cells zG 32)).setRow_far (g':=w2.heap.size) (by have:=aj.lt;omega) (cs:=#[.slice A1 4 c1,.slice none 0 0,.slice none 0 0,.slice none 0 0,.slice none 0 0]);have bd:Blk ((w2.alloc (.cells zG 32)).setRow w2.heap.size #[.slice A1 4 c1,.slice none 0 0,.slice none 0 0,.slice none 0 0,.slice none 0 0]) w2.heap.size 32 (rg0 A1 c1 (Bm 0 [1,2,3,1])).cells:=bn.setRow (cs:=#[.slice A1 4 c1,.slice none 0 0,.slice none 0 0,.slice none 0 0,.slice none 0 0]);have fG:Fr Non w2 ((w2.alloc (.cells zG 32)).setRow w2.heap.size #[.slice A1 4 c1,.slice none 0 0,.slice none 0 0,.slice none 0 0,.slice none 0 0]):=((Fr.refl Non w2).alloc _).setRow (fun hh=>absurd hh (by omega)) _;have cg:w.heap.size<w2.heap.size:=aj.lt;have f3:=cc.trans fG zr;have al:(rg0 A1 c1 (Bm 0 [1,2,3,1])).own ((w2.alloc (.cells zG 32)).setRow w2.heap.size #[.slice A1 4 c1,.slice none 0 0,.slice none 0 0,.slice none 0 0,.slice none 0 0]) w.heap.size:=As9 ((RowAt.of_own (o2.fr fG zr)).lower (by omega)) (by decide) At2;clear ak bn aj bv br o1 o2 fG ca cc b9;obtain ⟨gv,di⟩:=Aa w2.heap.size;rw [di.out] at bd al bm f3 cg ⊢;generalize (w2.alloc (.cells zG 32)).setRow gv #[.slice A1 4 c1,.slice none 0 0,.slice none 0 0,.slice none 0 0,.slice none 0 0]=w3 at*;have a4:(rg0 A1 c1 (Bm 0 [1,2,3,1])).cards=Bm 0 [1,2,3,1]:=rfl;have bh:(rg0 A1 c1 (Bm 0 [1,2,3,1])).l=[]:=rfl;generalize rg0 A1 c1 (Bm 0 [1,2,3,1])=r0 at*;clear bi kc kn hw0 f0 cr;go_wp2_with fail
 go_loopw [4] (fun v wr=>∃(j:Nat) (r:RG),v=.int .i64 (j:Int)/\j<=14/\Blk wr gv 32 r.cells/\r.own wr w.heap.size/\r.cards=Bm 0 [1,2,3,1]/\Hid (((j=0/\r.l=[])\/(0<j/\r.l≠[]))/\r.l.length<=j)/\Blk wr w.heap.size 32 zG/\Fr Non w wr) (fun v _=>14-(intOf v).toNat)
 case atStart=>exact ⟨0,r0,rfl,by omega,bd,al,a4,⟨.inl ⟨rfl,bh⟩,by rw [bh];exact Ay0 _⟩,bm,f3⟩
 case round=>
 clear bd al a4 bh bm f3 r0;obtain ⟨j,r,rfl,hj,bn,ro,a5,ar,br,hf⟩:=hrel
 by_cases hgo:j<14/\(j=0\/4*j<n)
 ·
  have t1:decide ((j:Int)<14)=true:=decide_eq_true (by omega)
  have ht:((j:Int)==0)=true\/(((j:Int)==0)=false/\decide (4*(j:Int)<(n:Int))=true):=by
   by_cases h1:j=0
   · exact .inl (by simp [h1])
   · exact .inr ⟨by simp;omega,decide_eq_true (by omega)⟩
  have e1:=iw (4*(j:Int));obtain ⟨m,hm⟩:∃m:Nat,min n (4*j)=m:=⟨_,rfl⟩;have e2:min (n:Int) (4*(j:Int))=(m:Int):=by omega
  have e3:min (4*(j:Int)) (n:Int)=(m:Int):=by omega
  have cn:m<=n:=by omega
  go_upto_region 3 with (fail)
  go_cut [25] from 13 to 25 (fun s wc=>wr=wc/\s=.bool true)
  case first=>
   rcases ht with t2|⟨t2,t3⟩
   all_goals
    go_wp2_with fail;go_meet;exact ⟨rfl,rfl⟩
  case rest=>
  obtain ⟨rfl,rfl⟩:=hcut;clear ht;go_upto_region 6 with (fail)
  have b2:w.heap.size<=wr.heap.size:=hf.size
  have a3:Rd w B 1 (if c=m then A else A.map (fun x=>x.add m)) (n-m) ((l0.drop m).map Iv):=by
   rw [List.map_drop];exact At1 hr cn hnc
  have kq:=lh (fun (w':World) (h':Fr Non wr w')=>kx.out r B (n-m) (c-m) (if c=m then A else A.map (fun x=>x.add m)) (l0.drop m) w' (ro.non h') a5 (by show (l0.drop m).length=n-m;rw [Ay9,hn.out]) (a3.fr (hf.trans h' zr) zr) (fun x hx=>hok x (Az1 hx)));have aq:∀x∈l0.drop m,I64 x:=fun x hx=>hok x (Az1 hx);obtain ⟨AP,be⟩:=Aa (if c=m then A else A.map (fun x=>x.add m));obtain ⟨L,hL⟩:=Aa (n-m);rw [hL.out,be.out] at kq a3;rw [hL.out,be.out];have dl:(L:Int)<=9223372036854775807:=by have:=hL.out;omega
  clear be hL;have hl:=Bi (P:=zp) gv 32 underlying32 rfl (hG r);have ah:(zp.info? 44).map (·.size)=some 27:=by kernel_rfl
  unfold Lc at kq;go_upto_region 7 with (go_at_call 44;(with_reducible refine (kq.out _ (Fr.refl _ _)).mono ?_);rintro _ v1 ⟨y,rfl,a0,bs,f1,bj,bt⟩;(have bz:=Blk.new v1 44 zO);(have ak:=Br (P:=zp) v1.heap.size 44 (cs:=y.cells) ah (old:=zO) rfl (Dr y)))
  have bo:=bz.setRow (cs:=y.cells);have f2:Fr Non v1 ((v1.alloc (.cells zO 44)).setRow v1.heap.size y.cells):=((Fr.refl Non v1).alloc _).setRow (fun hh=>absurd hh (by omega)) _;have ba:=(bs.lower b2).non f2;have ao:wr.heap.size<=v1.heap.size:=f1.size;have f3:=f1.trans f2 zr;obtain ⟨oB,bu⟩:=Aa v1.heap.size;rw [bu.out] at bo f2 f3 ba ao ⊢;clear ak bz kq bs f1 f2 hl bu;generalize (v1.alloc (.cells zO 44)).setRow oB y.cells=w4 at*;clear v1;have s4:Fo r w.heap.size oB wr w4 y:=⟨bo,ba,a0,bt,fun h=>⟨Ap9 (bj h),bj h⟩,f3,ao⟩;clear bo ba a0 bt bj f3 ao
  go_upto_if 40 with (fail)
  obtain ⟨T8,av⟩:=Aa (decide (3<L));have t8:decide ((L:Int)>3)=T8:=by rw [<- av.out];exact decide_eq_decide.2 (by omega)
  have cu:decide (3<L)=T8:=av.out;have dd:decide ((3:Int)<(L:Int))=T8:=by rw [<- av.out];exact decide_eq_decide.2 (by omega)
  go_cut [7] from 38 to 44 (fun s wc=>∃nn:Nat,s=.int .i64 (nn:Int)/\nn<=1000000/\Fr Non w4 wc)
  case first=>
   cases T8
   case false=>
    have h3:¬3<L:=of_decide_eq_false av.out;have dk:¬(3:Int)<(L:Int):=by omega
    go_wp2_with fail;go_meet;exact ⟨0,rfl,by omega,Fr.refl _ _⟩
   case true=>
    have h3:3<L:=of_decide_eq_true av.out;obtain ⟨b3,o3,u,rfl,_,hu,b8⟩:=a3.at h3;rw [Ay4] at hu;obtain ⟨q3,b5,rfl⟩:=Option.map_eq_some_iff.1 hu;have bl:=aq q3 (Ay5 b5);have b6:=lh (fun (v:World)=>Im q3 1000000 v bl.1 bl.2 (by omega) (by omega));have ck:=Il (n:=q3) (m:=1000000) (by omega);obtain ⟨nn,ai⟩:∃nn:Nat,Dh q3 1000000=(nn:Int):=⟨(Dh q3 1000000).toNat,by omega⟩;rw [ai] at b6 ck;replace ai:=lh ai;have c5:cI w4 b3 (o3+3) q3:=(hf.trans s4.fr zr).cell b8 zq;have i1:(3:Int)<(L:Int):=by omega
    clear hu b5 bl b8 a3 aq;go_wp2_with (go_at_call 39;(with_reducible refine (b6.out _).mono ?_);rintro _ _ ⟨rfl,rfl⟩);go_meet;exact ⟨nn,rfl,by omega,Fr.refl _ _⟩
  case rest=>
  obtain ⟨nn,rfl,ai,f5⟩:=hcut;have s5:=s4.non f5;clear s4 f5 t8 cu dd av a3 aq;generalize wc=w5 at*;have o2:cI w5 oB 2 y.kind:=s5.b.cell 2;obtain ⟨K1,ab⟩:=Aa (y.kind==1);obtain ⟨M1,ae⟩:=Aa (nn%3==1);obtain ⟨CC,aa⟩:=Aa (!K1&&M1);go_upto_region 10 with (fail)
  go_cut [52] from 45 to 52 (fun s wc=>w5=wc/\s=.bool CC)
  case first=>
   have da:(y.kind==1)=K1:=ab.out;have ct:(y.kind !=1)=!K1:=by rw [<- ab.out];rfl
   have dj:(nn:Int).tmod 3=((nn%3:Nat):Int):=by rw [Ax5 (by omega)];rfl
   have cp:(((nn%3:Nat):Int)==1)=M1:=by rw [<- ae.out,Bool.eq_iff_iff,beq_iff_eq,beq_iff_eq];omega
   have db:(nn%3==1)=M1:=ae.out;have bg:=aa.out;have cx:=iw ((nn%3:Nat):Int);generalize nn%3=NM at*
   cases K1
   all_goals
    cases M1
    all_goals
     go_wp2_with fail;go_meet;exact ⟨rfl,by rw [<- bg];rfl⟩
  case rest=>
  obtain ⟨rfl,rfl⟩:=hcut
  go_upto_if 52 with (fail)
  go_cut [] from 53 to 70 (fun wc=>∃z:OpL,Fo r w.heap.size oB wr wc z)
  case first=>
   cases CC
   case false=>
    go_wp2_with fail;go_meet;exact ⟨y,s5⟩
   case true=>
    have ax:y.kind≠1:=by
     rw [Az2,Az3] at aa;have h:=aa.out.1;rw [<- ab.out] at h;exact beq_eq_false_iff_ne.1 h
    obtain ⟨N1,ac⟩:=Aa (nn/3);obtain ⟨N2,ag⟩:=Aa (nn/15);have de:(nn:Int).tdiv 3=(N1:Int):=by rw [<- ac.out];exact Lf nn 3
    have ch:(nn:Int).tdiv 15=(N2:Int):=by rw [<- ag.out];exact Lf nn 15
    have cm:(nn:Int)/3=(N1:Int):=by rw [<- ac.out];rfl
    have cl:(nn:Int)/15=(N2:Int):=by rw [<- ag.out];rfl
    have dg:N1<=1000000:=by rw [<- ac.out];exact Ax3 (Ay1 _ _) ai
    have c9:N2<=1000000:=by rw [<- ag.out];exact Ax3 (Ay1 _ _) ai
    have cz:=iw (N1:Int);have c6:=iw (N2:Int);obtain ⟨D1,ad⟩:=Aa (N1%5);obtain ⟨D2,af⟩:=Aa (N2%3);have dh:(N1:Int).tmod 5=(D1:Int):=by rw [<- ad.out];exact Lg N1 5
    have cy:(N2:Int).tmod 3=(D2:Int):=by rw [<- af.out];exact Lg N2 3
    have c2:(N1:Int)%5=(D1:Int):=by rw [<- ad.out];rfl
    have cj:(N2:Int)%3=(D2:Int):=by rw [<- af.out];rfl
    have a6:D1<=100:=by rw [<- ad.out];have:=Ay2 N1 (show 0<5 by decide);omega
    have a1:D2<=100:=by rw [<- af.out];have:=Ay2 N2 (show 0<3 by decide);omega
    have e5:=iw (D1:Int);have e6:=iw (D2:Int);have e7:=iw (1+(D1:Int));have e8:=iw (1+(D2:Int));clear ad af ac ag ab ae aa;have c0:cI w5 oB 0 y.by_:=s5.b.cell 0;have c1:cI w5 oB 1 y.sq:=s5.b.cell 1;have c3:cI w5 oB 3 y.at_:=s5.b.cell 3;have c4:cS w5 oB 4 y.pastA y.past.length y.pastC:=s5.b.cell 4;have az:=lh (fun (v:World) (hv:Fr Non w5 v)=>At6 (s5.own.non hv) s5.ok s5.few a6 a1);have ap:=lh (fun (v:World) (z:OpL) (hv:Fr Non w5 v) (h1:z.op=sgn ({OpL.zero with by_:=y.by_,sq:=y.sq,kind:=2,at_:=y.at_,pastA:=y.pastA,pastC:=y.pastC,past:=y.past,dev:=1+(D1:Int),role:=1+(D2:Int)}:OpL).op) (h2:z.own v w.heap.size)=>(s5.non hv).put (z:=z) ax h1 h2 (Ul s5.ok a6 a1) s5.few);have bY:=lh (fun (v:World) (hv:Fr Non w5 v)=>s5.b.fr hv zq);unfold Gt at az;generalize ({OpL.zero with by_:=y.by_,sq:=y.sq,kind:=2,at_:=y.at_,pastA:=y.pastA,pastC:=y.pastC,past:=y.past,dev:=1+(D1:Int),role:=1+(D2:Int)}:OpL).op=OX at*;clear s5 ax;go_wp2_with (go_at_call 15;(with_reducible refine (az.out _ (Fr.refl _ _)).mono ?_);rintro _ v6 ⟨z,rfl,hz,bb,f6⟩;(have cd:=bY.out v6 f6);(have ak:=Br (P:=zp) oB 44 (cs:=z.cells) ah (old:=y.cells) rfl (Dr z)));go_meet;exact ⟨z,ap.out v6 z f6 hz bb⟩
  case rest=>
  obtain ⟨z,s6⟩:=hcut;clear s5 o2 ab ae aa;generalize wc=w6 at*;have o2:cI w6 oB 2 z.kind:=s6.b.cell 2;obtain ⟨K1,ab⟩:=Aa (z.kind==1);obtain ⟨M1,ae⟩:=Aa (nn%6==2);obtain ⟨CC,aa⟩:=Aa (!K1&&M1);go_upto_region 12 with (fail)
  go_cut [78] from 71 to 78 (fun s wc=>w6=wc/\s=.bool CC)
  case first=>
   have da:(z.kind==1)=K1:=ab.out;have ct:(z.kind !=1)=!K1:=by rw [<- ab.out];rfl
   have dj:(nn:Int).tmod 6=((nn%6:Nat):Int):=by rw [Ax5 (by omega)];rfl
   have cp:(((nn%6:Nat):Int)==2)=M1:=by rw [<- ae.out,Bool.eq_iff_iff,beq_iff_eq,beq_iff_eq];omega
   have db:(nn%6==2)=M1:=ae.out;have bg:=aa.out;have cx:=iw ((nn%6:Nat):Int);generalize nn%6=NM at*
   cases K1
   all_goals
    cases M1
    all_goals
     go_wp2_with fail;go_meet;exact ⟨rfl,by rw [<- bg];rfl⟩
  case rest=>
  obtain ⟨rfl,rfl⟩:=hcut
  go_upto_if 78 with (fail)
  go_cut [] from 79 to 97 (fun wc=>∃z':OpL,Fo r w.heap.size oB wr wc z')
  case first=>
   cases CC
   case false=>
    go_wp2_with fail;go_meet;exact ⟨z,s6⟩
   case true=>
    have ax:z.kind≠1:=by
     rw [Az2,Az3] at aa;have h:=aa.out.1;rw [<- ab.out] at h;exact beq_eq_false_iff_ne.1 h
    obtain ⟨N1,ac⟩:=Aa (nn/6);obtain ⟨N2,ag⟩:=Aa (nn/30);have de:(nn:Int).tdiv 6=(N1:Int):=by rw [<- ac.out];exact Lf nn 6
    have ch:(nn:Int).tdiv 30=(N2:Int):=by rw [<- ag.out];exact Lf nn 30
    have cm:(nn:Int)/6=(N1:Int):=by rw [<- ac.out];rfl
    have cl:(nn:Int)/30=(N2:Int):=by rw [<- ag.out];rfl
    have dg:N1<=1000000:=by rw [<- ac.out];exact Ax3 (Ay1 _ _) ai
    have c9:N2<=1000000:=by rw [<- ag.out];exact Ax3 (Ay1 _ _) ai
    have cz:=iw (N1:Int);have c6:=iw (N2:Int);obtain ⟨D1,ad⟩:=Aa (N1%5);obtain ⟨D2,af⟩:=Aa (N2%4);have dh:(N1:Int).tmod 5=(D1:Int):=by rw [<- ad.out];exact Lg N1 5
    have cy:(N2:Int).tmod 4=(D2:Int):=by rw [<- af.out];exact Lg N2 4
    have c2:(N1:Int)%5=(D1:Int):=by rw [<- ad.out];rfl
    have cj:(N2:Int)%4=(D2:Int):=by rw [<- af.out];rfl
    have a6:D1<=100:=by rw [<- ad.out];have:=Ay2 N1 (show 0<5 by decide);omega
    have a1:D2<=100:=by rw [<- af.out];have:=Ay2 N2 (show 0<4 by decide);omega
    have e5:=iw (D1:Int);have e6:=iw (D2:Int);have e7:=iw (1+(D1:Int));have e8:=iw (1+(D2:Int));clear ad af ac ag ab ae aa;have c0:cI w6 oB 0 z.by_:=s6.b.cell 0;have c1:cI w6 oB 1 z.sq:=s6.b.cell 1;have c3:cI w6 oB 3 z.at_:=s6.b.cell 3;have c4:cS w6 oB 4 z.pastA z.past.length z.pastC:=s6.b.cell 4;have az:=lh (fun (v:World) (hv:Fr Non w6 v)=>At7 (s6.own.non hv) s6.ok s6.few a6 a1);have ap:=lh (fun (v:World) (z':OpL) (hv:Fr Non w6 v) (h1:z'.op=sgn ({OpL.zero with by_:=z.by_,sq:=z.sq,kind:=13,at_:=z.at_,pastA:=z.pastA,pastC:=z.pastC,past:=z.past,dev:=1+(D1:Int),old:=1+(D2:Int),of:=⟨1,1,0⟩}:OpL).op) (h2:z'.own v w.heap.size)=>(s6.non hv).put (z:=z') ax h1 h2 (Um s6.ok a6 a1) s6.few);have bY:=lh (fun (v:World) (hv:Fr Non w6 v)=>s6.b.fr hv zq);unfold Gt at az;generalize ({OpL.zero with by_:=z.by_,sq:=z.sq,kind:=13,at_:=z.at_,pastA:=z.pastA,pastC:=z.pastC,past:=z.past,dev:=1+(D1:Int),old:=1+(D2:Int),of:=⟨1,1,0⟩}:OpL).op=OX at*;clear s6 ax;go_wp2_with (go_at_call 15;(with_reducible refine (az.out _ (Fr.refl _ _)).mono ?_);rintro _ v6 ⟨z',rfl,hz,bb,f6⟩;(have cd:=bY.out v6 f6);(have ak:=Br (P:=zp) oB 44 (cs:=z'.cells) ah (old:=z.cells) rfl (Dr z')));go_meet;exact ⟨z',ap.out v6 z' f6 hz bb⟩
  case rest=>
  obtain ⟨z',s7⟩:=hcut;clear s6 o2 ab ae aa;generalize wc=w7 at*;have hl:=Bi (P:=zp) gv 32 underlying32 rfl (hG r);have ce:=Bi (P:=zp) oB 44 underlying44 rfl (cs:=z'.cells) ah;have bf:=bn.fr s7.fr zq;have b4:=br.fr s7.fr zq;have bk:=ro.non s7.fr;have cv:=s7.b;have b7:=hf.trans s7.fr zr;have a7:=lh (ka.out r z' w7 bk s7.own (Ax3 b2 s7.fr.size) s7.ok);unfold Hj at a7;obtain ⟨E,bq⟩:=Aa (An r.cards r.l z'.op);rw [bq.out] at a7;have ay:=lh s7.first;clear s7 bn br ro hf kx ka;go_upto_region 15 with (go_at_call 43;(with_reducible refine (a7.out).mono ?_);rintro _ v8 ⟨r2,rfl,f8,bx,b0,a9⟩;(have bz:=Blk.new v8 32 zG);(have ak:=Br (P:=zp) v8.heap.size 32 (cs:=r2.cells) (hG r2) (old:=zG) rfl (E6 r2)))
  have bN:=bz.setRow (cs:=r2.cells);have f9:Fr Non v8 ((v8.alloc (.cells zG 32)).setRow v8.heap.size r2.cells):=((Fr.refl Non v8).alloc _).setRow (fun hh=>absurd hh (by omega)) _;have bw:=bx.non f9;have au:=f8.trans f9 zr;have a8:=bf.fr au zq;have aj:=b4.fr au zq;have bp:=b7.trans au zr;have b1:=bk.non au;have cf:w7.heap.size<=v8.heap.size:=f8.size;obtain ⟨gN,a2⟩:=Aa v8.heap.size;rw [a2.out] at bN f9 bw au a8 aj bp b1 cf ⊢;have c7:gv<w7.heap.size:=bf.lt;have bc:r2.cards=Bm 0 [1,2,3,1]:=by rw [b0];exact a5
  have cb:Hid ((E=0->r2.l≠[])/\r2.l.length<=j+1):=by
   have:=ar.out.2;refine ⟨fun h=> ?_,?_⟩
   ·
    rw [a9,if_pos h];simp
   ·
    rw [a9]
    split
    ·
     rw [Ay8,List.length_singleton];omega
    · omega
  have cq:Hid (j=0->E=0):=by
   intro h0;rw [<- bq.out]
   rcases ar.out.1 with ⟨_,h5⟩|⟨h5,_⟩
   ·
    have:=(ay.out h5).2;rw [h5];exact this
   · omega
  clear ak bz hl ce bf b4 bk cv b7 a7 ay f8 f9 au a9 b0 a2 bx bq;generalize (v8.alloc (.cells zG 32)).setRow gN r2.cells=w9 at*
  by_cases hE:E=0
  ·
   have tE:(E==0)=true:=by simp [hE]
   have a9:=Bi (P:=zp) gN 32 underlying32 rfl (hG r2);have co:=Br (P:=zp) gv 32 (hG r2) (old:=r.cells) rfl (E6 r2);have bz:=a8.setRow (cs:=r2.cells);have df:=aj.setRow_far (g':=gv) (by omega) (cs:=r2.cells);have fz:=bp.setRow (g:=gv) (fun hh=>absurd hh (by omega)) r2.cells;have cw:=bw.keepP (Gr r2.cells) (Types.one a8) (by decide) (by decide) (by decide) (by decide) (by decide) (by decide) (by decide) (by decide) (by decide) (by decide) (by decide) (by decide);have aw:=cb.out.1 hE;go_wp2_with fail;go_roundw
   case rel=>exact ⟨j+1,r2,by go_num,by omega,bz,cw,bc,⟨.inr ⟨by omega,aw⟩,cb.out.2⟩,df,fz⟩
   case measure=>simp [intOf];omega
  ·
   have tE:(E==0)=false:=by simp [hE]
   have c8:¬j=0:=fun e=>hE (cq.out e)
   have aw:r.l≠[]:=by
    rcases ar.out.1 with ⟨h1,_⟩|⟨_,h1⟩
    · exact absurd h1 c8
    · exact h1
   go_wp2_with fail;go_roundw
   case rel=>exact ⟨j+1,r,by go_num,by omega,a8,b1,a5,⟨.inr ⟨by omega,aw⟩,Nat.le_succ_of_le ar.out.2⟩,aj,bp⟩
   case measure=>simp [intOf];omega
 ·
  have aw:r.l≠[]:=by
   rcases ar.out.1 with ⟨h1,_⟩|⟨_,h1⟩
   · exact absurd ⟨by omega,.inl h1⟩ hgo
   · exact h1
  have hd:Hid (Le w (.returned (.agg r.cells)) (wr.setRow w.heap.size r.cells)):=
   ⟨r,rfl,hf.setRow (g:=w.heap.size) (fun hh=>absurd hh (by omega)) r.cells,ro.keepP (Gr r.cells) (Types.one br) (by decide) (by decide) (by decide) (by decide) (by decide) (by decide) (by decide) (by decide) (by decide) (by decide) (by decide) (by decide),a5,aw,Ax3 ar.out.2 (by omega)⟩
  have ht:decide ((j:Int)<14)=false\/(decide ((j:Int)<14)=true/\((j:Int)==0)=false/\decide (4*(j:Int)<(n:Int))=false):=by
   by_cases h1:j<14
   · exact .inr ⟨decide_eq_true (by omega),by simp;omega,decide_eq_false (by omega)⟩
   · exact .inl (decide_eq_false (by omega))
  have hl:=Bi (P:=zp) gv 32 underlying32 rfl (hG r);have ak:=Br (P:=zp) w.heap.size 32 (hG r) (old:=zG) rfl (E6 r);have ci:=hG r;have dc:=br.setRow (cs:=r.cells);clear ar aw ro a5 hgo kx ka hok hr hn;generalize Le w=POST at*;generalize r.cells=CS at*
  rcases ht with t1|⟨t1,t2,t3⟩
  all_goals
   go_wp2_with fail
   (try simp only [Exit.inBlock,Exit.then])
   refine Ez (t:=32) rfl rfl dc rfl underlying32 ci rfl ?_;exact hd.out
end Oq
namespace Oq
attribute [local go_sem] Ax8 Ax9
attribute [local go_sem ↓] Cx E5
structure Ci (r:RG) (g:Gph) (b B0:Nat) (w:World):Prop where
 ro:r.own w B0
 hg:GAt w b g
 hp:g.pns=r.l
 few:r.l.length<=14
theorem Ci.non {r:RG} {g:Gph} {b B0:Nat} {w w':World} (h:Ci r g b B0 w) (hf:Fr Non w w'):Ci r g b B0 w':=
 ⟨h.ro.non hf,h.hg.fr hf,h.hp,h.few⟩
theorem Ci.chk {r:RG} {g:Gph} {b B0:Nat} {w:World} (h:Ci r g b B0 w):∀m∈g.pns,m.o.chk=0:=fun m hm=>by
 rw [h.hp] at hm;obtain ⟨i,hi⟩:=List.getElem?_of_mem hm;exact (h.ro.rows.ok i m hi).chk
theorem Oa {l:List Pn} {x:Id} (h:(plc l x).isSome=true):∃m∈l,m.id=x:=by
 obtain ⟨p,hp⟩:=Option.isSome_iff_exists.1 h;obtain ⟨m,h1,h2⟩:=Bk hp;exact ⟨m,Ay5 h1,h2⟩
theorem ClosedOk.len {l:List Pn} {ids:List Id} (h:ClosedOk l ids):ids.length<=l.length:=by
 have:=Hl (m:=l.map Pn.id) h.1 (fun x hx=>by
  obtain ⟨m,h1,h2⟩:=Oa (h.2 x hx);exact List.mem_map.2 ⟨m,h1,h2⟩)
 rwa [List.length_map] at this
theorem Ci.idok {r:RG} {g:Gph} {b B0:Nat} {w:World} (h:Ci r g b B0 w) {x:Id} (hx:(plc r.l x).isSome=true):x.ok:=by
 obtain ⟨m,h1,h2⟩:=Oa hx;rw [<- h2];exact (h.ro.ok m h1).2
section
variable {r : RG} {g : Gph} {b B0 B n c : Nat} {A : Option Addr} {ids : List Id} {w : World}
theorem Ci.order (h:Ci r g b B0 w) (hc:ClosedOk r.l ids) (hn:Hid (ids.length=n)) (hr:Rd w B 3 A n (ids.flatMap Id.cells)):
  Calls zp 27 #[.pointer (some ⟨g.gb,0,none⟩),.slice A n c] w (Bp (Af r.l ids) w):=by
 have:=N5 b g B n c A ids w h.hg hn hr (by rw [<- hn.out];exact Ax3 hc.len h.few) (fun x hx=>h.idok (hc.2 x hx)) hc.1;rwa [h.hp] at this
theorem Ci.sen (h:Ci r g b B0 w) (hc:ClosedOk r.l ids) (hn:Hid (ids.length=n)) (hr:Rd w B 3 A n (ids.flatMap Id.cells)):
  Calls zp 29 #[.pointer (some ⟨g.gb,0,none⟩),.slice A n c] w (Ex (Ce r.l (Af r.l ids)) w):=by
 have:=Uj b g B n c A ids w h.hg hn hr (by rw [<- hn.out];exact Ax3 hc.len h.few) (fun x hx=>h.idok (hc.2 x hx)) hc.1 (by rw [h.hp];exact hc.2) h.chk;rwa [h.hp] at this
theorem Ci.less (h:Ci r g b B0 w) {x y:Id} (hx:(plc r.l x).isSome=true) (hy:(plc r.l y).isSome=true):
  Calls zp 33 #[.pointer (some ⟨g.gb,0,none⟩),.agg x.V,.agg y.V] w (Ag (Bg r.l x y) w):=by
 have:=Ap7 b g x y w h.hg (h.idok hx) (h.idok hy);rwa [h.hp] at this
theorem Ci.all (h:Ci r g b B0 w):Calls zp 22 #[.agg r.cells] w (Bp (Az r.ids) w):=
 (Nj B0 r w h.ro).mono fun _ _ k=>k.ids (by rw [Nq];exact Kh r)
end
theorem ClosedOk.perm {l:List Pn} {xs ys:List Id} (h:ClosedOk l xs) (hp:ys.Perm xs):ClosedOk l ys:=⟨hp.nodup_iff.2 h.1,fun x hx=>h.2 x (hp.mem_iff.1 hx)⟩
def Ii (w:World) (e:Ending) (w':World):Prop:=
 ∃(r:RG) (g:Gph) (b:Nat),e=.returned (.tuple #[.pointer (some ⟨g.gb,0,none⟩),.agg r.cells])/\Ci r g b w.heap.size w'/\r.cards=Bm 0 [1,2,3,1]/\r.l≠[]/\w.heap.size<=b/\Fr Non w w'
theorem At9 {P:Program} {fn:Func} {p q:Tmp} {ty t:TypeId} {d:TypeDesc} {cs:Array Value} {g:Nat} {tmps:Array Value} {w:World} (h:fn.results=#[.tmp p,.cell q ty])
  (ha:tmps.getD q undef=.pointer (some ⟨g,0,none⟩)) (hb:Blk w g t cs) (hd:(match d with| .struct _| .array _ _=>true|_=>false)=true) (hu:P.underlying ty=some d)
  (hi:(P.info? ty).map (·.size)=some cs.size):(results fn tmps).run P w=.ok (.tuple #[tmps.getD p undef,.agg cs]) w:=by
 have hl:(loadVar ty ⟨g,0,none⟩).run P w=.ok (.agg cs) w:=run_loadVar_row (P:=P) w g t ty cs (0,0) d hb hu (by cases d<;>first|rfl|exact hd) hi
 unfold results;rw [h];have ha':tmps[q]?.getD undef=.pointer (some ⟨g,0,none⟩):=by simpa using ha
 simp [asAddr,ha',hl]
theorem Lh (B n c:Nat) (A:Option Addr) (l0:List Int) (w:World) (hn:Hid (l0.length=n)) (hr:Rd w B 1 A n (l0.map Iv)) (hnc:n<=c) (hnm:c<=9223372036854775807) (hok:∀x∈l0,I64 x) (hk:KindsAt w):
  Calls zp 23 #[.slice A n c] w (Ii w):=by
 have aa:0<w.heap.size:=World.block_lt_of_cell? w _ (hk 0 (by decide));have hG:∀r:RG,(zp.info? 32).map (·.size)=some r.cells.size:=fun r=>Co;have b3:=Blk.new w 32 zG;have f0:Fr Non w (w.alloc (.cells zG 32)):=(Fr.refl Non w).alloc _;have km:=lh (At8 B n c A l0 _ hn (hr.fr f0 zr) hnc hnm hok);have ak:=lh (fun (r:RG) (w':World) (hf:Fr Non w w') (h:r.own w' w.heap.size) (hcs:r.cards=Bm 0 [1,2,3,1])=>Jh w.heap.size r w' h hcs (Az4 aa hf.size) (hk.fr hf));unfold Le at km;clear hk hr hok hn aa;go_enter func23,ntmps23;go_upto_region 2 with (go_at_call 76;(with_reducible refine (km.out).mono ?_);rintro _ w1 ⟨r,rfl,f1,ro,ah,au,ag⟩;(have bz:=Blk.new w1 32 zG);(have a0:=Br (P:=zp) w1.heap.size 32 (cs:=r.cells) (hG r) (old:=zG) rfl (E6 r)))
 have bv:=bz.setRow (cs:=r.cells);have f2:Fr Non w1 ((w1.alloc (.cells zG 32)).setRow w1.heap.size r.cells):=((Fr.refl Non w1).alloc _).setRow (fun hh=>absurd hh (by omega)) _;have ai:r.own ((w1.alloc (.cells zG 32)).setRow w1.heap.size r.cells) w.heap.size:=(ro.lower f0.size).non f2;have ac:=f1.trans f2 zr;have ab:=b3.fr ac zq;have af:=f0.trans ac zr;obtain ⟨gv,ao⟩:=Aa w1.heap.size;rw [ao.out] at bv ai ab af ⊢;clear a0 bz f2 ac ro f1 b3 km ao;generalize (w1.alloc (.cells zG 32)).setRow gv r.cells=w2 at*;have kf:=ak.out r w2.drew af.drew (ai.non ((Fr.refl Non w2).drew)) ah;unfold Kg at kf;replace kf:=lh kf;have hl:=Bi (P:=zp) gv 32 underlying32 rfl (hG r);have ae:=Br (P:=zp) w.heap.size 32 (cs:=r.cells) (hG r) (old:=zG) rfl (E6 r);have al:=hG r;have ad:=lh ah;clear ah ak f0 hG;have V0:=bv;have R0:=ab;have F0:Fr Non w2 w2.drew:=(Fr.refl Non w2).drew;obtain ⟨CS,aj⟩:=Aa r.cells;rw [aj.out] at kf hl ae V0 al ⊢;have ap:=ab.lt;clear bv ab;refine Cr (S:=fun w'=>Blk w' gv 32 CS/\Blk w' w.heap.size 32 zG) 4 (by kernel_rfl) ?_;refine tkG 0 ⟨V0,R0⟩ (h:=tkG 2 ⟨V0,R0⟩ (h:=?_));simp only [zl];refine Bl 1 (by kernel_rfl) rfl (fun K hK=> ?_);go_simp;go_wp2_with (go_at_call 13;(with_reducible refine (kf.out).mono ?_);rintro _ v1 ⟨g,b,rfl,av,hg,a1,ay,aw⟩;have F1:=F0.trans aw zr;have V1:=V0.fr F1 zq;have R1:=R0.fr F1 zq);refine hK.out _ _ ⟨V1,R1⟩ (fun hZ=> ?_);clear hZ hK K;try simp only [Ac,zl]
 refine tkG 3 ⟨V1,R1⟩ (h:=?_);simp only [zl];refine Ck (by kernel_rfl) ?_;refine oG 4 (fun K hK=> ?_);go_simp;refine hK.out _ _ trivial (fun hZ=> ?_);clear hZ hK K;try simp only [Ac,zl]
 refine oD ?_;go_simp;have aq:=R1.setRow (cs:=CS);have fz:=(af.trans F1 zr).setRow (g:=w.heap.size) (fun hh=>absurd hh (by omega)) CS;have ar:w.heap.size<b:=Az4 ap av;have ax:GAt (v1.setRow w.heap.size CS) b g:=hg.over ((Fr.refl (One w.heap.size) v1).setRow (fun _=>rfl) CS) (fun k hk e=>by have e':k=w.heap.size:=e;omega);have az:=(ai.non F1).keepP ((Fr.refl (One w.heap.size) v1).setRow (fun _=>rfl) CS) (Types.one R1) (by decide) (by decide) (by decide) (by decide) (by decide) (by decide) (by decide) (by decide) (by decide) (by decide) (by decide) (by decide);go_wp2_with fail
 (try simp only [Exit.inBlock,Exit.then])
 refine bodyPost_ret (At9 rfl rfl aq rfl underlying32 al) rfl ?_;exact ⟨r,g,b,by rw [aj.out];rfl,⟨az,ax,ay,ag⟩,ad.out,au,Nat.le_of_lt ar,fz⟩
end Oq
namespace Oq
attribute [local go_sem] Ax8 Ax9
attribute [local go_sem ↓] Cx E5 Eu
theorem Ob (w:World) (hk:KindsAt w):Calls zp 30 #[] w (Ag true w):=by
 have bi:=Blk.new w 3 #[.int .i64 2,.int .i64 0,.int .i64 0,.int .i64 0,.int .i64 0,.int .i64 0,.int .i64 0,.int .i64 1];have f0:Fr Non w (w.alloc (.cells #[.int .i64 2,.int .i64 0,.int .i64 0,.int .i64 0,.int .i64 0,.int .i64 0,.int .i64 0,.int .i64 1] 3)):=(Fr.refl Non w).alloc _;have a5:Rd (w.alloc (.cells #[.int .i64 2,.int .i64 0,.int .i64 0,.int .i64 0,.int .i64 0,.int .i64 0,.int .i64 0,.int .i64 1] 3)) (w.alloc (.cells #[.int .i64 2,.int .i64 0,.int .i64 0,.int .i64 0,.int .i64 0,.int .i64 0,.int .i64 0,.int .i64 1] 3)).heap.size 1 (some ⟨w.heap.size,0,none⟩) 8 (([2,0,0,0,0,0,0,1]:List Int).map Iv):=Rd.blk (n:=8) (size:=1) bi rfl;have km:=lh (Lh _ 8 8 (some ⟨w.heap.size,0,none⟩) [2,0,0,0,0,0,0,1] _ rfl a5 (by omega) (by omega) (by unfold I64;decide) (hk.fr f0));unfold Ii at km;unfold Ag;clear bi a5 hk;have hG:∀r:RG,(zp.info? 32).map (·.size)=some r.cells.size:=fun r=>Co;go_enter func30,ntmps30;go_upto_region 2 with (go_at_call 23;(with_reducible refine (km.out).mono ?_);rintro _ w1 ⟨r,g,b,rfl,st,_,ao,_,f1⟩;(have bz:=Blk.new w1 32 zG);(have bb:=Br (P:=zp) w1.heap.size 32 (cs:=r.cells) (hG r) (old:=zG) rfl (E6 r)))
 have bv:=bz.setRow (cs:=r.cells);have f2:Fr Non w1 ((w1.alloc (.cells zG 32)).setRow w1.heap.size r.cells):=((Fr.refl Non w1).alloc _).setRow (fun hh=>absurd hh (by omega)) _;have ai:=st.non f2;have av:=(f0.trans f1 zr).trans f2 zr;obtain ⟨gv,a6⟩:=Aa w1.heap.size;rw [a6.out] at bv ai av ⊢;clear bb bz f2 f1 f0 st km a6;generalize (w1.alloc (.cells zG 32)).setRow gv r.cells=w2 at*;have hl:=Bi (P:=zp) gv 32 underlying32 rfl (hG r);have ah:=ai.ro.rows;have ay:ClosedOk r.l (Az r.ids):=Nl ah;have ak:(Az r.ids).Perm (r.l.map Pn.id):=E1 _;have al:Hid ((Az r.ids).length=r.l.length):=by show _=_;rw [Nq];exact Kh r
 obtain ⟨n0,h0⟩:∃n0,r.l[0]? =some n0:=by
  cases hl0:r.l with
  |nil=>exact absurd hl0 ao
  |cons a t=>exact ⟨a,rfl⟩
 have aw:=lh (Aq5 ah h0 ak);have ar:=lh (Aq6 ah h0 aw.out);have az:Hid ((Af r.l (Az r.ids)).length=r.l.length):=by show _=_;rw [E7];exact al.out
 have bf:r.l.length≠0:=fun e=>ao (List.length_eq_zero_iff.1 e);have tN:((r.l.length:Int)==0)=false:=by simp;exact ao
 obtain ⟨bi,oi,a4,i0,i1,i2⟩:∃(b off:Nat),r.iA=some ⟨b,off,none⟩/\cI w2 b off n0.id.b/\cI w2 b (off+1) n0.id.s/\w2.cell? ⟨b,off+2,none⟩=some (.int .u64 (n0.id.u:Int)):=by
  obtain ⟨m,b',o',e1,e2,e3,e4,e5⟩:=ai.ro.idAt (i:=0) (by omega);rw [h0] at e1;injection e1 with e1
  subst e1;rw [Ay7,Ay3] at e3 e4 e5;exact ⟨b',o',e2,e3,e4,e5⟩
 obtain ⟨bl,ol,a0,j0⟩:∃(b off:Nat),r.lA=some ⟨b,off,none⟩/\w2.cell? ⟨b,off,none⟩=some (.int .i64 n0.o.by_):=by
  obtain ⟨x,b',o',_,e1,_,e2,_,e3⟩:=ai.ro.xAt h0;have e4:=e3 0 (by omega) (.int .i64 x.by_) rfl;simp only [Ay7,Ay3] at e4;rw [<- e1];exact ⟨b',o',e2,e4⟩
 have kA:=lh (ai.all);have kO:=lh (fun (v:World) (hv:Fr Non w2 v) (A:Option Addr) (c:Nat) (hr:Rd v v.heap.size 3 A r.l.length ((Az r.ids).flatMap Id.cells))=>(ai.non hv).order ay al (c:=c) hr);have kS:=lh (fun (v:World) (hv:Fr Non w2 v) (A:Option Addr) (c:Nat) (hr:Rd v v.heap.size 3 A r.l.length ((Az r.ids).flatMap Id.cells))=>(ai.non hv).sen ay al (c:=c) hr);unfold Bp at kA kO;unfold Ex at kS;have g1:Hid (r.cells[1]? =some (.slice (some ⟨bl,ol,none⟩) r.l.length r.lC)):=by show _=_;rw [<- a0];rfl
 have g2:Hid (r.cells[2]? =some (.slice (some ⟨bi,oi,none⟩) r.l.length r.iC)):=by show _=_;rw [<- a4];rfl
 rw [al.out] at kA;rw [az.out] at kO;obtain ⟨GB,a1⟩:=Aa g.gb;rw [a1.out] at kO kS ⊢;clear ai ay ak al az ah hG a1 ao a0 a4 h0;generalize Ce r.l (Af r.l (Az r.ids))=SL at*;generalize Af r.l (Az r.ids)=RS at*;generalize Az r.ids=IDS at*;generalize r.l.length=N at*;generalize r.iC=IC at*;generalize r.lC=LC at*;generalize r.cells=CS at*;generalize n0.id=z at*;generalize n0.o.by_=D at*;have c2:cS w2 gv 2 (some ⟨bi,oi,none⟩) N IC:=(bv.cell 2).trans g2.out;go_upto_region 5 with (go_at_call 22;(with_reducible refine (kA.out).mono ?_);rintro _ w3 ⟨A3,c3,rfl,o3,f3⟩)
 go_upto_region 6 with (go_at_call 27;(with_reducible refine (kO.out _ f3 _ _ o3.rd).mono ?_);rintro _ w4 ⟨A4,c4,rfl,o4,f4⟩)
 have au:=f3.trans f4 zr;have a3:=o3.fr f4 zr;clear kA kO;go_upto_region 7 with (go_at_call 29;(with_reducible refine (kS.out _ au _ _ a3.rd).mono ?_);rintro _ w5 ⟨A5,c5,rfl,o5,f5⟩)
 have aj:=au.trans f5 zr;have fz:=av.trans aj zr
 have aq:SL.length≠0:=fun e=>by
  have h:=ar.out;rw [List.length_eq_zero_iff.1 e] at h
  cases h
 obtain ⟨b4,q4,rfl,_,X0,X1,X2⟩:=Id.at (o4.fr f5 zr).rd aw.out;rw [Ay7,Ay3] at X0 X1 X2;obtain ⟨b5,q5,u5,rfl,_,ap,Y0⟩:=o5.rd.at (k:=0) (Nat.pos_of_ne_zero aq);rw [Ay4,ar.out] at ap;injection ap with ap
 subst ap;rw [Ay3] at Y0;obtain ⟨SN,a2⟩:=Aa SL.length;rw [a2.out] at aq ⊢;have tS:((SN:Int)==0)=false:=by simp;exact aq
 have bc:Id.eq z z=true:=(Id.eq_iff z z).2 rfl;have ax:=bv.fr aj zq;have d1:cS w5 gv 1 (some ⟨bl,ol,none⟩) N LC:=(ax.cell 1).trans g1.out;have d2:cS w5 gv 2 (some ⟨bi,oi,none⟩) N IC:=(ax.cell 2).trans g2.out;obtain ⟨a9,a7,ba,a8⟩:=zk4 aj i0 i1 i2 j0;have nN:(0:Int)<N:=by omega
 have nS:(0:Int)<SN:=by omega
 have be:0<N:=by omega
 have bd:0<SN:=by omega
 clear aw ar kS o3 a3 o4 o5 f3 f4 f5 au aj av bv ax hl g1 g2 i0 i1 i2 j0 c2 a2;go_upto_region 9 with (fail)
 have P0:=d1;have Q0:=d2;have aa:=a9;have ag:=a7;have ab:=ba;have J0:=a8;have ae:=X0;have ac:=X1;have af:=X2;have ad:=Y0;have F0:Fr Non w5 w5.drew:=(Fr.refl Non w5).drew;refine wp_region_held_drew (S:=fun w'=>cS w' gv 1 (some ⟨bl,ol,none⟩) N LC/\cS w' gv 2 (some ⟨bi,oi,none⟩) N IC/\cI w' bi oi z.b/\cI w' bi (oi+1) z.s/\cU w' bi (oi+2) z.u/\cI w' bl ol D/\cI w' b4 q4 z.b/\cI w' b4 (q4+1) z.s/\cU w' b4 (q4+2) z.u/\cI w' b5 q5 D) (by kernel_rfl) ⟨P0,Q0,aa,ag,ab,J0,ae,ac,af,ad⟩ (fun hHeld=> ?_);clear hHeld;have uu:=aI P0 (aI Q0 (aI aa (aI ag (aI ab (aI J0 (aI ae (aI ac (aI af ad))))))));refine tkH 0 uu (h:=tkH 1 uu (h:=tkH 2 uu (h:=tkH 3 uu (h:=tkH 4 uu (h:=tkH 5 uu (h:=tkH 6 uu (h:=tkH 7 uu (h:=tkH 8 uu (h:=tkH 9 uu (h:=tkH 10 uu (h:=tkH 11 uu (h:=?_))))))))))));clear uu;simp only [zl];have uu:=aI P0 (aI Q0 (aI aa (aI ag (aI ab (aI J0 (aI ae (aI ac (aI af ad))))))));refine tkH 12 uu (h:=tkH 13 uu (h:=tkH 14 uu (h:=tkH 15 uu (h:=tkH 16 uu (h:=tkH 17 uu (h:=tkH 18 uu (h:=tkH 19 uu (h:=?_))))))));clear uu;simp only [zl];refine oD ?_;go_simp;go_wp2_with fail
 go_ret
 exact ⟨rfl,fz.drew⟩
end Oq
namespace Oq
end Oq
namespace Oq
attribute [local go_sem] Ax8 Ax9
attribute [local go_sem ↓] Cj Nt
end Oq
end Go.Proofs.YtihfebhfgliojaaGreatDoor
