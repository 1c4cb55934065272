/-
  huddlelaw14.RankCame: by which operation a device came, and who is senior, is the document's.
    Conditions: op.kinds lies as its text lays it; the numbers read.
  RankCame: whatever the input is, where the one listed variable is as its text lays it, the law returns true, and nothing that was there has turned.
    Condition: none.
  RankCame: the tied card.
    Condition: none.
-/
import Derived.JoinedOf
import Derived.RowKitTokens
import Derived.LaidLaws
import Derived.Test.YtihfebhfgliojaaGreatDoorTie
import Derived.Test.YtihfebhfgliojaaGreatDoorCards
import Derived.SevenTiedAt
import Derived.Test.YtihfebhfgliojaaGreatDoorRkU19
set_option maxRecDepth 100000
set_option maxHeartbeats 16000000
open Bool renaming not_false->Ax4,not_true->Ax5,false_ne_true->Ax6
open List renaming getElem?_cons_zero->Ay0,getElem?_cons_succ->Ay1,find?_eq_none->Ay2,getElem?_of_mem->Ay3,getElem?_eq_getElem->Ay4,mem_of_getElem?->Ay5,length_append->Ay6,getElem?_toArray->Ay7
open Nat renaming le_trans->Ax7,zero_le->Ax9
open Go.World renaming size_alloc->Ax3,rangeAt->Ax8,block_lt_of_cell?->Ay8
open Go.Proofs.Tryz
open Go.Proofs.Tryz renaming prog->zp
open Go.Lib renaming hid->lh
open List renaming set->zl
open Go.Ending renaming returned->ze
namespace Go.Proofs.YtihfebhfgliojaaGreatDoor
open Go.RowKit
attribute [local go_sem ↓] Go.wp_at_zero Go.wp_at_succ
theorem Li {w:World} {r g:Nat} {cs:Array Value} {i:Nat} {v:Value} (h:w.cell? ⟨g,i,none⟩=some v) (hne:r≠g):(w.setRow r cs).cell? ⟨g,i,none⟩=some v:=
 (Fr.setRow (S:=fun k=>k=r) (Fr.refl _ w) (fun _=>rfl) cs).cell h (fun e=>hne (by have e':g=r:=e;exact e'.symm))
namespace Oq
def Df (l:List Pn) (row:List Id) (d:Int):Option Id:=row.find? (fun x=>decide (0<Aw l x)&&Aw l x==d)
theorem Oc {α:Type} {f:α->Bool}:∀{xs:List α} {p:Nat} {x:α},xs[p]? =some x->f x=true->(∀(j:Nat) (y:α),j<p->xs[j]? =some y->f y=false)->xs.find? f=some x
 |[],_,_,h,_,_=>by simp at h
 |a::r,0,x,h,hx,_=>by
  rw [Ay0] at h;injection h with h
  subst h;rw [List.find?_cons_of_pos hx]
 |a::r,p+1,x,h,hx,hj=>by
  rw [Ay1] at h;have ha:=hj 0 a (by omega) (by rw [Ay0]);rw [List.find?_cons_of_neg (by rw [ha];exact Ax6)];exact Oc h hx (fun j y hjp hy=>hj (j+1) y (by omega) (by rw [Ay1];exact hy))
theorem Un (l:List Pn) (row:List Id) (d:Int):Df l row d=(Ba l row).find? (fun x=>Aw l x==d):=by
 unfold Df Ba;rw [List.find?_filter];refine congrArg (fun f=>List.find? f row) (funext fun x=> ?_);generalize decide (0<Aw l x)=p;generalize (Aw l x==d)=q
 cases p<;>cases q<;>rfl
end Oq
namespace Oq
attribute [local go_sem] Ax4 Ax5
attribute [local go_sem ↓] Cx
theorem Uo (y:OpL) (w:World):Calls zp 89 #[.agg y.cells] w fun e w'=>e=.returned (.int .i64 (Ec y.op))/\Fr Non w w':=by
 have bg:=Blk.new w 44 y.cells;have f0:Fr Non w (w.alloc (.cells y.cells 44)):=(Fr.refl Non w).alloc _;have c0:cI (w.alloc (.cells y.cells 44)) w.heap.size 0 y.by_:=bg.cell 0;have c2:cI (w.alloc (.cells y.cells 44)) w.heap.size 2 y.kind:=bg.cell 2;have c5:cI (w.alloc (.cells y.cells 44)) w.heap.size 5 y.dev:=bg.cell 5;have hb:Hid (Ec y.op=if y.kind=1 then y.by_ else if y.kind=2\/y.kind=13 then y.dev else 0):=rfl;clear bg;generalize Ec y.op=R at*;generalize y.by_=b at*;generalize y.kind=K at*;generalize y.dev=d at*;generalize y.cells=CS at*
 rcases (show (K=1/\R=b)\/(K≠1/\K=2/\R=d)\/(K≠1/\K≠2/\K=13/\R=d)\/(K≠1/\K≠2/\K≠13/\R=0) from by
  have h:=hb.out
  by_cases h1:K=1
  · exact .inl ⟨h1,by rw [h,if_pos h1]⟩
  ·
   rw [if_neg h1] at h
   by_cases h2:K=2
   · exact .inr (.inl ⟨h1,h2,by rw [h,if_pos (.inl h2)]⟩)
   ·
    by_cases h3:K=13
    · exact .inr (.inr (.inl ⟨h1,h2,h3,by rw [h,if_pos (.inr h3)]⟩))
    · exact .inr (.inr (.inr ⟨h1,h2,h3,by rw [h,if_neg (by omega)]⟩))) with ⟨rfl,rfl⟩|⟨_,rfl,rfl⟩|⟨_,_,rfl,rfl⟩|⟨h1,h2,h3,rfl⟩
 all_goals clear hb
 ·
  go_enter func89,ntmps89;go_wp2_with fail
  go_ret
  exact ⟨rfl,f0⟩
 ·
  go_enter func89,ntmps89;go_wp2_with fail
  go_ret
  exact ⟨rfl,f0⟩
 ·
  go_enter func89,ntmps89;go_wp2_with fail
  go_ret
  exact ⟨rfl,f0⟩
 ·
  have t1:(K==1)=false:=beq_eq_false_iff_ne.2 h1;have t2:(K==2)=false:=beq_eq_false_iff_ne.2 h2;have t3:(K==13)=false:=beq_eq_false_iff_ne.2 h3;go_enter func89,ntmps89;go_wp2_with fail
  go_ret
  exact ⟨rfl,f0⟩
end Oq
namespace Oq
attribute [local go_sem] Ax4 Ax5
attribute [local go_sem ↓] Cx Cj
def Fb (o:Option Id) (w:World) (e:Ending) (w':World):Prop:=e=.returned (.tuple #[.agg #[.int .i64 (o.getD ⟨0,0,0⟩).b,.int .i64 (o.getD ⟨0,0,0⟩).s,.int .u64 ((o.getD ⟨0,0,0⟩).u:Int)],.bool o.isSome])/\Fr Non w w'
def Fp (l:List Pn) (d:Int) (x:Id):Bool:=decide (0<Aw l x)&&Aw l x==d
theorem Au3 {l:List Pn} {row:List Id} {d:Int} {i:Nat} {x:Id} (hx:row[i]? =some x) (hh:Fp l d x=true) (hno:∀j y,j<i->row[j]? =some y->Fp l d y=false):Df l row d=some x:=Oc hx hh hno
theorem Au4 {l:List Pn} {row:List Id} {d:Int} (hno:∀j y,j<row.length->row[j]? =some y->Fp l d y=false):Df l row d=none:=by
 unfold Df;rw [Ay2];intro x hx;obtain ⟨j,hj⟩:=Ay3 hx;have:=hno j x (List.getElem?_eq_some_iff.1 hj).1 hj;unfold Fp at this;rw [this];exact Ax6
theorem RG.own.byAt {w:World} {base:Nat} {r:RG} (h:r.own w base) {x:Id} (hx:(plc r.l x).isSome=true):
  ∃(p:Nat) (y:OpL) (b off:Nat),p<r.l.length/\Ar r.l x=(p:Int)/\r.lA=some ⟨b,off,none⟩/\Ax8 w b (off+p*27) y.cells.toList/\Ec y.op=Aw r.l x:=by
 obtain ⟨p,hp⟩:=Option.isSome_iff_exists.1 hx;obtain ⟨m,hm,_⟩:=Bk hp;obtain ⟨y,b,off,_,h1,_,h2,_,h3⟩:=h.xAt hm;exact ⟨p,y,b,off,Dj hp,H4 hp,h2,fun k v hv=>h3 k (List.getElem?_eq_some_iff.1 hv).1 v hv,by rw [h1,Ib hp hm]⟩
theorem Au5 (base B n c:Nat) (r:RG) (A:Option Addr) (ids:List Id) (d:Int) (w:World) (h:r.own w base) (hn:Hid (ids.length=n)) (hr:Rd w B 3 A n (ids.flatMap Id.cells)) (hnm:n<=1000) (hin:∀x∈ids,(plc r.l x).isSome=true):
  Calls zp 37 #[.agg r.cells,.slice A n c,.int .i64 d] w (Fb (Df r.l (Af r.l ids) d) w):=by
 have ap:(zp.info? 44).map (·.size)=some 27:=by kernel_rfl
 have bk:=h.few;have g1:Hid (r.cells[1]? =some (.slice r.lA r.l.length r.lC)):=rfl;have hl:=Bi (P:=zp) w.heap.size 32 underlying32 rfl (cs:=r.cells) Co;have ko:=lh (fun (w':World) (hf:Fr Non w w')=>N8 base B n c r A ids w' (h.non hf) hn (hr.fr hf zr) hnm hin);have kp:=lh (fun (id:Id) (w':World) (hf:Fr Non w w')=>Ih base r id w' (h.non hf));have aw:∀x∈Af r.l ids,(plc r.l x).isSome=true:=fun x hx=>hin x ((Ek r.l ids).mem_iff.1 hx);have be:Hid (∀x∈Af r.l ids,∃(p:Nat) (y:OpL) (b off:Nat),p<r.l.length/\Ar r.l x=(p:Int)/\r.lA=some ⟨b,off,none⟩/\Ax8 w b (off+p*27) y.cells.toList/\Ec y.op=Aw r.l x):=fun x hx=>h.byAt (aw x hx);have bf:(Af r.l ids).length<=1000:=by rw [E7,hn.out];exact hnm
 have bg:=(Blk.new w 32 r.cells).alloc (.cells #[.int .i64 0,.int .i64 0,.int .u64 0] 38);have bz:=Blk.new (w.alloc (.cells r.cells 32)) 38 #[.int .i64 0,.int .i64 0,.int .u64 0];rw [Ax3] at bz;have f0:Fr Non w ((w.alloc (.cells r.cells 32)).alloc (.cells #[.int .i64 0,.int .i64 0,.int .u64 0] 38)):=((Fr.refl Non w).alloc _).alloc _;have af:Hid (∀i x,(Af r.l ids)[i]? =some x->Fp r.l d x=true->(∀j y,j<i->(Af r.l ids)[j]? =some y->Fp r.l d y=false)->Df r.l (Af r.l ids) d=some x):=fun i x h1 h2 h3=>Au3 h1 h2 h3;have aa:Hid ((∀j y,j<(Af r.l ids).length->(Af r.l ids)[j]? =some y->Fp r.l d y=false)->Df r.l (Af r.l ids) d=none):=fun h=>Au4 h;clear h hin aw hr;generalize Df r.l (Af r.l ids) d=O at*;generalize Af r.l ids=RS at*;have bh:Hid (∀x,Fp r.l d x=(decide (0<Aw r.l x)&&Aw r.l x==d)):=fun _=>rfl;generalize Fp r.l d=hit at*;generalize Aw r.l=BO at*;generalize Ar r.l=PI at*;generalize r.l.length=N at*;generalize r.lA=LA at*;generalize r.lC=LC at*;generalize r.cells=CS at*;unfold Bp at ko;obtain ⟨M,hM⟩:=Aa RS.length;rw [hM.out] at ko bf aa;go_enter func37,ntmps37;go_upto_region 1 with (fail)
 generalize (w.alloc (.cells CS 32)).alloc (.cells #[.int .i64 0,.int .i64 0,.int .u64 0] 38)=w0 at*;go_upto_region 2 with (go_at_call 32;(with_reducible refine (ko.out _ f0).mono ?_);rintro _ w1 ⟨A1,c1,rfl,bi,f1⟩)
 have a6:=f0.trans f1 zr;have bj:=bg.fr f1 zq;have ax:=bz.fr f1 zq;clear ko bg bz f0;go_wp2_with fail
 go_loopw [7,9] (fun q v wr=>∃i:Nat,q=.bool false/\v=.int .i64 (i:Int)/\i<=M/\Hid (∀j y,j<i->RS[j]? =some y->hit y=false)/\Fr Non w1 wr) (fun _ v _=>M-(intOf v).toNat)
 case atStart=>exact ⟨0,rfl,rfl,Ax9 _,fun j y hj _=>absurd hj (Nat.not_lt_zero j),Fr.refl _ _⟩
 case round=>
  obtain ⟨i,rfl,rfl,hi,ah,hf⟩:=hrel;have ag:Fr Non w wr:=a6.trans hf zr
  by_cases hlt:i<M
  ·
   obtain ⟨x,hx⟩:∃x,RS[i]? =some x:=⟨_,Ay4 (by rw [hM.out];exact hlt)⟩;obtain ⟨p,y,bx,ox,bl,bc,rfl,ay,bb⟩:=be.out x (Ay5 hx);obtain ⟨ba,oa,rfl,_,x0,x1,x2⟩:=Id.at ((bi.fr hf zr).rd) hx;obtain ⟨i1,i2,i3⟩:=ix i M
   obtain ⟨p1,p2,p3⟩:=ix p N
   have a5:=Hc (P:=zp) y.cells bx (ox+p*27) underlying44 rfl ap;have a1:∀w',RgAt w' bx (ox+p*27) y.cells.toList->(ldS 44 (.pointer (some ⟨bx,ox+p*27,none⟩))).run zp w'=.ok (.agg y.cells) w':=fun w' h=>a5 w' h
   have av:Hid (∀w',Fr Non w w'->Calls zp 87 #[.agg CS,.agg x.V] w' fun e w''=>e=.returned (.int .i64 (p:Int))/\Fr Non w' w''):=by
    intro w' a9;have:=kp.out x w' a9;rwa [bc] at this
   have kb:=lh (fun (w':World)=>Uo y w');rw [bb] at kb;have R0:RgAt wr bx (ox+p*27) y.cells.toList:=fun k v hv=>ag.cell (ay k v hv) zq;obtain ⟨YC,a4⟩:=Aa y.cells;rw [a4.out] at R0 a1 kb;clear a5 a4 ay;go_upto_region 5 with (fail)
   have V0:=bj.fr hf zq;have C0:cS wr w.heap.size 1 (some ⟨bx,ox,none⟩) N LC:=(V0.cell 1).trans g1.out;have ac:=x0;have ab:=x1;have ad:=x2;have F0:Fr Non wr wr.drew:=(Fr.refl Non wr).drew;have G0:Fr Non w wr.drew:=ag.drew;clear x0 x1 x2;refine wp_region_held_drew (S:=fun w'=>Blk w' w.heap.size 32 CS/\cS w' w.heap.size 1 (some ⟨bx,ox,none⟩) N LC/\cI w' ba (oa+i*3) x.b/\cI w' ba (oa+i*3+1) x.s/\cU w' ba (oa+i*3+2) x.u/\RgAt w' bx (ox+p*27) YC.toList) (by kernel_rfl) ⟨V0,C0,ac,ab,ad,R0⟩ (fun hHeld=> ?_);clear hHeld;have uu:=aI V0 (aI C0 (aI ac (aI ab (aI ad R0))));refine tkH 0 uu (h:=tkH 1 uu (h:=tkH 2 uu (h:=tkH 3 uu (h:=tkH 4 uu (h:=tkH 5 uu (h:=tkH 6 uu (h:=?_)))))));clear uu;simp only [zl];refine oG 7 (fun K hK=> ?_);go_simp;go_wp2_with (go_at_call 87;(with_reducible refine (av.out _ G0).mono ?_);rintro _ v1 ⟨rfl,a7⟩;have F1:=F0.trans a7 zr;have V1:=V0.fr F1 zq;obtain ⟨C1,aj,ak,ai⟩:=zk4 F1 C0 ac ab ad;have R1:=RgAt.fr (S:=Non) R0 F1 zq;have G1:=ag.trans F1 zr);refine hK.out _ _ ⟨V1,C1,aj,ak,ai,R1⟩ (fun hZ=> ?_);clear hZ hK K;try simp only [Ac,zl]
   refine tkH 8 ⟨V1,C1,aj,ak,ai,R1⟩ (h:=tkH 9 ⟨V1,C1,aj,ak,ai,R1⟩ (h:=?_));simp only [zl];refine oG 10 (fun K hK=> ?_);go_simp;go_wp2_with (go_at_call 89;(with_reducible refine (kb.out _).mono ?_);rintro _ v2 ⟨rfl,a8⟩;have F2:=F1.trans a8 zr;have V2:=V0.fr F2 zq;obtain ⟨C2,a2,a3,a0⟩:=zk4 F2 C0 ac ab ad;have R2:=RgAt.fr (S:=Non) R0 F2 zq;have G2:=ag.trans F2 zr);refine hK.out _ _ ⟨V2,C2,a2,a3,a0,R2⟩ (fun hZ=> ?_);clear hZ hK K;try simp only [Ac,zl]
   refine tkH 11 ⟨V2,C2,a2,a3,a0,R2⟩ (h:=?_);simp only [zl];refine oD ?_;go_simp;have ao:Fr Non w1 v2:=hf.trans F2 zr;have ae:=bh.out x;obtain ⟨D,hD⟩:=Aa (BO x);rw [hD.out] at ae ⊢;clear av kb a1 V0 C0 ac ab ad R0 V1 C1 aj ak ai R1 G1 V2 C2 R2;obtain ⟨HB,aq⟩:=Aa (hit x);rw [aq.out] at ae
   cases HB
   case false=>
    have al:Hid (∀j y,j<i+1->RS[j]? =some y->hit y=false):=by
     intro j z hj hz
     rcases Nat.lt_or_ge j i with h1|h1
     · exact ah.out j z h1 hz
     ·
      obtain rfl:j=i:=by omega
      rw [hx] at hz;injection hz with hz
      rw [<- hz];exact aq.out
    have tt:decide (D>0)=false\/decide (D>0)=true/\(D==d)=false:=by
     rcases zb (decide (0<D)) with e|e
     ·
      rw [e,Bool.true_and] at ae;exact .inr ⟨e,ae.symm⟩
     · exact .inl e
    clear ae
    rcases tt with t1|⟨t1,t2⟩
    all_goals
     have bd:decide (0<D)=_:=t1;go_wp2_with fail;go_roundw
     case rel=>exact ⟨i+1,rfl,by go_num,by omega,al,ao⟩
     case measure=>simp [intOf];omega
   case true=>
    have hO:=af.out i x hx aq.out ah.out;have hh:=ae.symm;rw [Bool.and_eq_true] at hh;obtain ⟨t1,t2⟩:=hh;have bd:decide (D>0)=true:=t1;subst hO;have b1:=ax.fr ao zq;have az:=a6.trans ao zr
    have au:Hid (∀wz,Fr (One (w.heap.size+1)) v2 wz->Fb (some x) w (.returned (.tuple #[.agg x.V,.bool true])) wz):=by
     intro wz hz;exact ⟨rfl,az.trans hz (fun k hk e=>absurd hk (by have e':k=w.heap.size+1:=e;omega))⟩
    clear ae af aa ah hx hM az;have e0:cI v2 (w.heap.size+1) 0 0:=b1.cell 0;have z0:v2.frozen? ⟨w.heap.size+1,0,none⟩=false:=b1.frozen 0;have e1:cI v2 (w.heap.size+1) 1 0:=b1.cell 1;have z1:v2.frozen? ⟨w.heap.size+1,1,none⟩=false:=b1.frozen 1;have e2:v2.cell? ⟨w.heap.size+1,2,none⟩=some (.int .u64 0):=b1.cell 2;have z2:v2.frozen? ⟨w.heap.size+1,2,none⟩=false:=b1.frozen 2;have ar:=((b1.set 0 (.int .i64 x.b)).set 1 (.int .i64 x.s)).set 2 (.int .u64 (x.u:Int));have fz:=(((Fr.refl (One (w.heap.size+1)) v2).setCell (p:=⟨w.heap.size+1,0,none⟩) (fun _=>rfl) (.int .i64 x.b)).setCell (p:=⟨w.heap.size+1,1,none⟩) (fun _=>rfl) (.int .i64 x.s)).setCell (p:=⟨w.heap.size+1,2,none⟩) (fun _=>rfl) (.int .u64 (x.u:Int));clear b1;go_wp2_with fail
    (try simp only [Exit.inBlock,Exit.then])
    refine E2 (t:=38) rfl rfl ar rfl underlying38 (by kernel_rfl) rfl ?_;exact au.out _ fz
  ·
   obtain rfl:M=i:=by omega
   have hO:=aa.out ah.out;subst hO;have b1:=ax.fr hf zq
   have au:Hid (∀wz,Fr (One (w.heap.size+1)) wr wz->Fb none w (.returned (.tuple #[.agg #[.int .i64 0,.int .i64 0,.int .u64 0],.bool false])) wz):=by
    intro wz hz;exact ⟨rfl,ag.trans hz (fun k hk e=>absurd hk (by have e':k=w.heap.size+1:=e;omega))⟩
   clear af aa ah hM;generalize Fb none w=POST at*;have t1:decide ((M:Int)<(M:Int))=false:=decide_eq_false (by omega);have e0:cI wr (w.heap.size+1) 0 0:=b1.cell 0;have z0:wr.frozen? ⟨w.heap.size+1,0,none⟩=false:=b1.frozen 0;have e1:cI wr (w.heap.size+1) 1 0:=b1.cell 1;have z1:wr.frozen? ⟨w.heap.size+1,1,none⟩=false:=b1.frozen 1;have e2:wr.cell? ⟨w.heap.size+1,2,none⟩=some (.int .u64 0):=b1.cell 2;have z2:wr.frozen? ⟨w.heap.size+1,2,none⟩=false:=b1.frozen 2;have ar:=((b1.set 0 (.int .i64 0)).set 1 (.int .i64 0)).set 2 (.int .u64 0);have fz:=(((Fr.refl (One (w.heap.size+1)) wr).setCell (p:=⟨w.heap.size+1,0,none⟩) (fun _=>rfl) (.int .i64 0)).setCell (p:=⟨w.heap.size+1,1,none⟩) (fun _=>rfl) (.int .i64 0)).setCell (p:=⟨w.heap.size+1,2,none⟩) (fun _=>rfl) (.int .u64 0);clear b1;go_wp2_with fail
   (try simp only [Exit.inBlock,Exit.then])
   refine E2 (t:=38) rfl rfl ar rfl underlying38 (by kernel_rfl) rfl ?_;exact au.out _ fz
theorem Au6 (base B n c:Nat) (r:RG) (A:Option Addr) (ids:List Id) (w:World) (h:r.own w base) (hn:Hid (ids.length=n)) (hr:Rd w B 3 A n (ids.flatMap Id.cells)) (hnm:n<=1000) (hin:∀x∈ids,(plc r.l x).isSome=true):
  Calls zp 38 #[.agg r.cells,.slice A n c] w (Ex (Ce r.l (Af r.l ids)) w):=by
 have au:(zp.info? 44).map (·.size)=some 27:=by kernel_rfl
 have br:=h.few;have g1:Hid (r.cells[1]? =some (.slice r.lA r.l.length r.lC)):=rfl;have hl:=Bi (P:=zp) w.heap.size 32 underlying32 rfl (cs:=r.cells) Co;have ko:=lh (fun (w':World) (hf:Fr Non w w')=>N8 base B n c r A ids w' (h.non hf) hn (hr.fr hf zr) hnm hin);have kp:=lh (fun (id:Id) (w':World) (hf:Fr Non w w')=>Ih base r id w' (h.non hf));have ax:∀x∈Af r.l ids,(plc r.l x).isSome=true:=fun x hx=>hin x ((Ek r.l ids).mem_iff.1 hx);have bi:Hid (∀x∈Af r.l ids,∃(p:Nat) (y:OpL) (b off:Nat),p<r.l.length/\Ar r.l x=(p:Int)/\r.lA=some ⟨b,off,none⟩/\Ax8 w b (off+p*27) y.cells.toList/\Ec y.op=Aw r.l x):=fun x hx=>h.byAt (ax x hx);have bk:(Af r.l ids).length<=1000:=by rw [E7,hn.out];exact hnm
 have bg:=Blk.new w 32 r.cells;have f0:Fr Non w (w.alloc (.cells r.cells 32)):=(Fr.refl Non w).alloc _
 have bc:Hid (∀i x,(Af r.l ids)[i]? =some x->Ch r.l (Af r.l ids) (i+1)=if (decide (0<Aw r.l x)&& !(Ch r.l (Af r.l ids) i).contains (Aw r.l x))=true then Ch r.l (Af r.l ids) i++[Aw r.l x] else Ch r.l (Af r.l ids) i):=by
  intro i x hx;conv=>lhs;unfold Ch
  rw [hx]
 have a6:Hid (∀i,(Ch r.l (Af r.l ids) i).length<=i):=Ks _ _;have az:Hid (Ch r.l (Af r.l ids) (Af r.l ids).length=Ce r.l (Af r.l ids)):=rfl;have bj:Hid (Ch r.l (Af r.l ids) 0=[]):=rfl;clear h hin ax hr;generalize Ce r.l (Af r.l ids)=SL at*;generalize Ch r.l (Af r.l ids)=ST at*;generalize Af r.l ids=RS at*;generalize Aw r.l=BO at*;generalize Ar r.l=PI at*;generalize r.l.length=N at*;generalize r.lA=LA at*;generalize r.lC=LC at*;generalize r.cells=CS at*;unfold Bp at ko;unfold Ex;obtain ⟨M,hM⟩:=Aa RS.length;rw [hM.out] at ko bk az;go_enter func38,ntmps38;go_upto_region 1 with (fail)
 have a9:=f0.size;generalize w.alloc (.cells CS 32)=w0 at*;go_upto_region 2 with (go_at_call 32;(with_reducible refine (ko.out _ f0).mono ?_);rintro _ w1 ⟨A1,c1,rfl,bm,f1⟩)
 have bp:=f0.trans f1 zr;have bo:=bg.fr f1 zq;clear ko bg f0;go_wp2_with fail
 go_loopw [6,7] (fun s v wr=>∃(i:Nat) (Ax:Option Addr) (cx:Nat) (xs:List Int),s=.slice Ax xs.length cx/\v=.int .i64 (i:Int)/\i<=M/\Hid (xs=ST i)/\Own wr w1.heap.size 3 1 Ax xs.length cx (xs.map Iv)/\Fr Non w1 wr) (fun _ v _=>M-(intOf v).toNat)
 case atStart=>exact ⟨0,none,0,[],rfl,rfl,Ax9 _,bj.out.symm,Own.nil _ _ _ _,Fr.refl _ _⟩
 case round=>
  obtain ⟨i,Ax,cx,xs,rfl,rfl,hi,ao,ae,hf⟩:=hrel;have ap:=ae.row;have bs:xs.length<=i:=by rw [ao.out];exact a6.out i
  have ah:Fr Non w wr:=bp.trans hf zr
  by_cases hlt:i<M
  ·
   obtain ⟨x,hx⟩:∃x,RS[i]? =some x:=⟨_,Ay4 (by rw [hM.out];exact hlt)⟩;obtain ⟨p,y,bx,ox,bu,bf,rfl,ay,bd⟩:=bi.out x (Ay5 hx);obtain ⟨ba,oa,rfl,_,x0,x1,x2⟩:=Id.at ((bm.fr hf zr).rd) hx;obtain ⟨i1,i2,i3⟩:=ix i M
   obtain ⟨p1,p2,p3⟩:=ix p N
   have a5:=Hc (P:=zp) y.cells bx (ox+p*27) underlying44 rfl au;have a1:∀w',RgAt w' bx (ox+p*27) y.cells.toList->(ldS 44 (.pointer (some ⟨bx,ox+p*27,none⟩))).run zp w'=.ok (.agg y.cells) w':=fun w' h=>a5 w' h
   have aw:Hid (∀w',Fr Non w w'->Calls zp 87 #[.agg CS,.agg x.V] w' fun e w''=>e=.returned (.int .i64 (p:Int))/\Fr Non w' w''):=by
    intro w' bb;have:=kp.out x w' bb;rwa [bf] at this
   have kb:=lh (fun (w':World)=>Uo y w');rw [bd] at kb;have R0:RgAt wr bx (ox+p*27) y.cells.toList:=fun k v hv=>ah.cell (ay k v hv) zq;obtain ⟨YC,a4⟩:=Aa y.cells;rw [a4.out] at R0 a1 kb;clear a5 a4 ay;go_upto_region 6 with (fail)
   have V0:=bo.fr hf zq;have C0:cS wr w.heap.size 1 (some ⟨bx,ox,none⟩) N LC:=(V0.cell 1).trans g1.out;have ac:=x0;have ab:=x1;have ad:=x2;have F0:Fr Non wr wr.drew:=(Fr.refl Non wr).drew;have G0:Fr Non w wr.drew:=ah.drew;clear x0 x1 x2;refine wp_region_held_drew (S:=fun w'=>Blk w' w.heap.size 32 CS/\cS w' w.heap.size 1 (some ⟨bx,ox,none⟩) N LC/\cI w' ba (oa+i*3) x.b/\cI w' ba (oa+i*3+1) x.s/\cU w' ba (oa+i*3+2) x.u/\RgAt w' bx (ox+p*27) YC.toList) (by kernel_rfl) ⟨V0,C0,ac,ab,ad,R0⟩ (fun hHeld=> ?_);clear hHeld;have uu:=aI V0 (aI C0 (aI ac (aI ab (aI ad R0))));refine tkH 0 uu (h:=tkH 1 uu (h:=tkH 2 uu (h:=tkH 3 uu (h:=tkH 4 uu (h:=tkH 5 uu (h:=tkH 6 uu (h:=?_)))))));clear uu;simp only [zl];refine oG 7 (fun K hK=> ?_);go_simp;go_wp2_with (go_at_call 87;(with_reducible refine (aw.out _ G0).mono ?_);rintro _ v1 ⟨rfl,a7⟩;have F1:=F0.trans a7 zr;have V1:=V0.fr F1 zq;obtain ⟨C1,aj,al,ai⟩:=zk4 F1 C0 ac ab ad;have R1:=RgAt.fr (S:=Non) R0 F1 zq;have G1:=ah.trans F1 zr);refine hK.out _ _ ⟨V1,C1,aj,al,ai,R1⟩ (fun hZ=> ?_);clear hZ hK K;try simp only [Ac,zl]
   refine tkH 8 ⟨V1,C1,aj,al,ai,R1⟩ (h:=tkH 9 ⟨V1,C1,aj,al,ai,R1⟩ (h:=?_));simp only [zl];refine oG 10 (fun K hK=> ?_);go_simp;go_wp2_with (go_at_call 89;(with_reducible refine (kb.out _).mono ?_);rintro _ v2 ⟨rfl,a8⟩;have F2:=F1.trans a8 zr;have V2:=V0.fr F2 zq;obtain ⟨C2,a2,a3,a0⟩:=zk4 F2 C0 ac ab ad;have R2:=RgAt.fr (S:=Non) R0 F2 zq;have G2:=ah.trans F2 zr);refine hK.out _ _ ⟨V2,C2,a2,a3,a0,R2⟩ (fun hZ=> ?_);clear hZ hK K;try simp only [Ac,zl]
   refine tkH 11 ⟨V2,C2,a2,a3,a0,R2⟩ (h:=?_);simp only [zl];refine oD ?_;go_simp;have ar:Fr Non w1 v2:=hf.trans F2 zr;have af:=ae.fr F2 zr;have aa:=bc.out i x hx;rw [<- ao.out] at aa;obtain ⟨D,hD⟩:=Aa (BO x);rw [hD.out] at aa ⊢;clear aw kb a1 V0 C0 ac ab ad R0 V1 C1 aj al ai R1 G1 V2 C2 R2 ae;have kh:=lh (Uf v2.heap.size xs.length cx Ax xs D v2 rfl af.rd (by omega));obtain ⟨BH,be⟩:=Aa (xs.contains D);rw [be.out] at aa kh
   rcases zb (decide (0<D)) with t1|t1
   case inr=>
    have bh:decide (D>0)=false:=t1;rw [t1,Bool.false_and,if_neg Ax6] at aa;replace aa:=lh aa;go_wp2_with fail;go_roundw
    case rel=>exact ⟨i+1,Ax,cx,xs,rfl,by go_num,by omega,aa.out.symm,af,ar⟩
    case measure=>simp [intOf];omega
   case inl=>
   have bh:decide (D>0)=true:=t1;rw [t1,Bool.true_and] at aa
   cases BH
   case true=>
    rw [Ax5,if_neg Ax6] at aa;replace aa:=lh aa;go_wp2_with (go_at_call 40;(with_reducible refine (kh.out).mono ?_);rintro _ v3 ⟨rfl,f3⟩);have ag:=af.fr f3 zr;have ak:=ar.trans f3 zr;go_roundw
    case rel=>exact ⟨i+1,Ax,cx,xs,rfl,by go_num,by omega,aa.out.symm,ag,ak⟩
    case measure=>simp [intOf];omega
   case false=>
    rw [Ax4,if_pos rfl] at aa;replace aa:=lh aa;go_upto_region 8 with (go_at_call 40;(with_reducible refine (kh.out).mono ?_);rintro _ v3 ⟨rfl,f3⟩)
    have ag:=af.fr f3 zr;have ak:=ar.trans f3 zr;have bD:=Blk.new v3 3 #[.int .i64 D];have bt:=ak.size;go_wp2_with (first|(at_builtin;go_loud (refine Bc (base:=w1.heap.size) (.tmp 37) (.tmp 39) 22 rfl rfl rfl rfl Es (ag.alloc (.cells #[.int .i64 D] 3)) (Rd.blk (n:=1) (size:=1) bD rfl) (by simp [Value.oneCell']) (by omega) (by omega) (by rw [Ax3];omega) ?_);intro A8 c8 w8 aq bq bn));have f8:Fr Non w1 w8:=(ak.alloc (.cells #[.int .i64 D] 3)).trans bq (fun j hj e=>by have:=(ap j e).1;omega)
    have av:Own w8 w1.heap.size 3 1 A8 (xs++[D]).length c8 ((xs++[D]).map Iv):=by
     rw [Ay6,List.map_append];exact aq
    go_roundw
    case rel=>exact ⟨i+1,A8,c8,xs++[D],by rw [Ay6];rfl,by go_num,by omega,aa.out.symm,av,f8⟩
    case measure=>simp [intOf];omega
  ·
   obtain rfl:M=i:=by omega
   have t1:decide ((M:Int)<(M:Int))=false:=decide_eq_false (by omega);have bl:xs=SL:=by rw [ao.out,az.out]
   subst bl;have hd:=lh (show ∃(A:Option Addr) (c:Nat),ze (.slice Ax xs.length cx)=.returned (.slice A xs.length c)/\Own wr w.heap.size 3 1 A xs.length c (xs.map Iv)/\Fr Non w wr from ⟨Ax,cx,rfl,ae.lower (Ax7 a9 f1.size),ah⟩);clear ae;go_wp2_with fail
   go_ret
   exact hd.out
end Oq
section
open Go.RowKit Go.Shelf
attribute [local go_sem] Oper.semAt_some
theorem Au7 {P:Program} {ty:TypeId} {d:TypeDesc} {g:Nat} {v:Value} {w:World} (hd:(match d with| .struct _| .array _ _=>true|_=>false)=false) (hu:P.underlying ty=some d) (hc:w.cell? ⟨g,0,none⟩=some v):(loadVar ty ⟨g,0,none⟩).run P w=.ok v w:=by
 have hagg:(isAgg ty).run P w=.ok false w:=by
  unfold isAgg;rw [Sem.run_bind,run_underlying hu w]
  cases d<;>simp_all
 simp [loadVar,Sem.run_bind,hagg,go_sem,hc]
theorem Up {P:Program} {fn:Func} {p q:Tmp} {ty t ty2:TypeId} {d d2:TypeDesc} {cs:Array Value} {g g2:Nat} {v2:Value} {tmps:Array Value} {w:World} (h:fn.results=#[.cell p ty,.cell q ty2])
  (ha:tmps.getD p undef=.pointer (some ⟨g,0,none⟩)) (hb:Blk w g t cs) (hd:(match d with| .struct _| .array _ _=>true|_=>false)=true) (hu:P.underlying ty=some d)
  (hi:(P.info? ty).map (·.size)=some cs.size) (ha2:tmps.getD q undef=.pointer (some ⟨g2,0,none⟩)) (hc2:w.cell? ⟨g2,0,none⟩=some v2) (hd2:(match d2 with| .struct _| .array _ _=>true|_=>false)=false) (hu2:P.underlying ty2=some d2):
  (results fn tmps).run P w=.ok (.tuple #[.agg cs,v2]) w:=by
 have hl:(loadVar ty ⟨g,0,none⟩).run P w=.ok (.agg cs) w:=run_loadVar_row (P:=P) w g t ty cs (0,0) d hb hu (by cases d<;>first|rfl|exact hd) hi
 have hl2:(loadVar ty2 ⟨g2,0,none⟩).run P w=.ok v2 w:=Au7 hd2 hu2 hc2;unfold results;rw [h];have ha':tmps[p]?.getD undef=.pointer (some ⟨g,0,none⟩):=by simpa using ha
 have ha2':tmps[q]?.getD undef=.pointer (some ⟨g2,0,none⟩):=by simpa using ha2
 simp [asAddr,ha',ha2',hl,hl2]
namespace Oq
attribute [local go_sem] Ax4 Ax5
attribute [local go_sem ↓] Gl
theorem Au8 {l:List Pn} {row:List Id} {d:Int} (h:∀(j:Nat) (y:Id),(Ba l row)[j]? =some y->Aw l y≠d):Df l row d=none:=by
 rw [Un,Ay2];intro x hx;obtain ⟨j,hj⟩:=Ay3 hx;rw [beq_eq_false_iff_ne.2 (h j x hj)];exact Ax6
theorem Au9 {l:List Pn} {row:List Id} {d:Int} {i:Nat} {x:Id} (hx:(Ba l row)[i]? =some x) (hh:Aw l x=d) (h:∀(j:Nat) (y:Id),j<i->(Ba l row)[j]? =some y->Aw l y≠d):Df l row d=some x:=by
 rw [Un];exact Oc hx (by rw [hh,beq_self_eq_true]) (fun j y hj hy=>beq_eq_false_iff_ne.2 (h j y hj hy))
theorem Av0 (base:Nat) (g:Gph) (B n c:Nat) (A:Option Addr) (ids:List Id) (d:Int) (w:World) (hg:GAt w base g) (hn:Hid (ids.length=n)) (hr:Rd w B 3 A n (ids.flatMap Id.cells)) (h14:n<=14) (hok:∀x∈ids,x.ok) (hnd:ids.Nodup)
  (hin:∀x∈ids,(plc g.pns x).isSome=true) (hchk:∀m∈g.pns,m.o.chk=0):
  Calls zp 36 #[.pointer (some ⟨g.gb,0,none⟩),.slice A n c,.int .i64 d] w (Fb (Df g.pns (Af g.pns ids) d) w):=by
 have bd:=((Blk.new w 3 #[.int .i64 d]).alloc (.cells #[.int .i64 0,.int .i64 0,.int .u64 0] 38)).alloc (.cells #[.bool false] 4);have bx:=(Blk.new (w.alloc (.cells #[.int .i64 d] 3)) 38 #[.int .i64 0,.int .i64 0,.int .u64 0]).alloc (.cells #[.bool false] 4);have bb:=Blk.new ((w.alloc (.cells #[.int .i64 d] 3)).alloc (.cells #[.int .i64 0,.int .i64 0,.int .u64 0] 38)) 4 #[.bool false];rw [Ax3] at bx;rw [Ax3,Ax3] at bb;have bf:Fr Non w (((w.alloc (.cells #[.int .i64 d] 3)).alloc (.cells #[.int .i64 0,.int .i64 0,.int .u64 0] 38)).alloc (.cells #[.bool false] 4)):=(((Fr.refl _ _).alloc _).alloc _).alloc _;have au:=lh (fun (gB iB:Nat) (W0:World) h1 h2 h3=>T7 base g gB iB B n c A ids w W0 hg hn hr h14 hok hnd hin hchk h1 h2 h3);have a2:Hid ((∀(j:Nat) (y:Id),(Ba g.pns (Af g.pns ids))[j]? =some y->Aw g.pns y≠d)->Df g.pns (Af g.pns ids) d=none):=fun h=>Au8 h;have ae:Hid (∀(i:Nat) (x:Id),(Ba g.pns (Af g.pns ids))[i]? =some x->Aw g.pns x=d->(∀(j:Nat) (y:Id),j<i->(Ba g.pns (Af g.pns ids))[j]? =some y->Aw g.pns y≠d)->Df g.pns (Af g.pns ids) d=some x):=fun i x h1 h2 h3=>Au9 h1 h2 h3;have a1:Hid (∀x,Gq g.pns x=#[.agg x.V,.int .i64 (Aw g.pns x)]):=fun _=>rfl;have bg:∀x,(Gq g.pns x).size=2:=fun _=>rfl;unfold Fb;obtain ⟨GB,a6⟩:=Aa g.gb;rw [a6.out] at au ⊢;clear hg hr hin hchk hok hnd a6;generalize Df g.pns (Af g.pns ids) d=CO at*;generalize Ba g.pns (Af g.pns ids)=XS at*;generalize Gq g.pns=EN at*;generalize Aw g.pns=BO at*;refine callsIn_wide.1 (callsIn_of_wp_marks (n:=3) func36 rfl trivial ?_ rfl);simp only [ntmps36,List.size_toArray,List.length_cons,List.length_nil,Nat.reduceAdd,Nat.reduceSub,Array.replicate_succ,Array.replicate_zero,List.push_toArray,List.append_toArray,List.nil_append,List.cons_append];refine wpIn_wide.2 ?_;go_wp2_with fail;refine (T9 GB n c A _).mono ?_;rintro _ w1 ⟨rfl,a5,a4,av,ap⟩;have ba:=bd.fr av zq;have a9:=bx.fr av zq;have be:=bb.fr av zq;rw [Ax3,Ax3,Ax3] at a5 a4 ap;go_wp2_with fail;have a3:Fr Non w w1:=bf.trans av zr;have hz:w1.heap.size=w.heap.size+5:=by omega
 refine T5 (n:=3) (gf:=139) (lb:=#[.pointer (some ⟨w.heap.size+1+1+1,0,none⟩),.pointer (some ⟨w.heap.size+1+1+1+1,0,none⟩)]) rfl (enters_of func139 (by kernel_rfl) rfl) (encs:=EN) (xs:=XS)
  (X:=Xof w.heap.size) (Tr:=fun k=>k=w.heap.size+1\/k=w.heap.size+1+1) (N0:=w.heap.size) bg (by omega) Uh Ui ?_ ⟨by omega,by omega⟩
  (fun i W=>(∀j y,j<i->XS[j]? =some y->BO y≠d)/\Blk W w.heap.size 3 #[.int .i64 d]/\Blk W (w.heap.size+1) 38 #[.int .i64 0,.int .i64 0,.int .u64 0]/\Blk W (w.heap.size+1+1) 4 #[.bool false]/\Fr Non w W)
  (fun _ W=>∃x:Id,Hid (CO=some x)/\Blk W (w.heap.size+1) 38 x.V/\Blk W (w.heap.size+1+1) 4 #[.bool true]/\Fr Non w W) ?_ ?_ ?_ ?_ ?_ ?_
 ·
  intro W1 hf _;exact au.out _ _ W1 (a3.trans hf zr) (a5.fr hf zq) (a4.fr hf zq)
 ·
  rintro i X Y ⟨h1,h2,h3,h4,h5⟩ ad;exact ⟨h1,h2.fr ad (by omega),h3.fr ad (by omega),h4.fr ad (by omega),h5.trans ad (fun k hk e=>by unfold Non;omega)⟩
 ·
  rintro i X Y ⟨x,h1,h3,h4,h5⟩ ad;exact ⟨x,h1,h3.fr ad (by omega),h4.fr ad (by omega),h5.trans ad (fun k hk e=>by unfold Non;omega)⟩
 · exact ⟨fun j y hj=>absurd hj (Nat.not_lt_zero j),ba,a9,be,a3⟩
 ·
  rintro i x W hx ⟨aj,aw,ai,ak,hf⟩ bi;have a8:=ae.out i x hx
  have ab:Hid (BO x≠d->∀j y,j<i+1->XS[j]? =some y->BO y≠d):=fun hne j y hj hy=>by
   rcases Nat.lt_or_ge j i with h|h
   · exact aj j y h hy
   ·
    have e:j=i:=by omega
    rw [e,hx] at hy;injection hy with hy
    rw [<- hy];exact hne
  have ag:Hid (BO x=d->CO=some x):=fun h=>a8 h aj;rw [a1.out];simp only [];obtain ⟨D,hD⟩:=Aa (BO x);rw [hD.out] at ag ab ⊢;have ax:=Br (P:=zp) W.heap.size 38 (cs:=x.V) Fm (old:=#[.int .i64 0,.int .i64 0,.int .u64 0]) rfl (Gp _ _ _);have bn:=Blk.new W 38 #[.int .i64 0,.int .i64 0,.int .u64 0];clear a8 aj hD a1 ae a2 au hx
  gi_wp2
  refine ⟨((Fr.refl Non W).alloc _).setRow (fun hh=>absurd hh (by omega)) _,?_⟩;intro W2 af;have fz:Fr Non W ((W.alloc (.cells #[.int .i64 0,.int .i64 0,.int .u64 0] 38)).setRow W.heap.size x.V):=((Fr.refl Non W).alloc _).setRow (fun hh=>absurd hh (by omega)) _;have ar:=(bn.setRow (cs:=x.V)).fr af (by omega);have aq:=(aw.fr fz zq).fr af (by omega);have ac:=(ai.fr fz zq).fr af (by omega);have aa:=(ak.fr fz zq).fr af (by omega);have a7:Fr Non w W2:=(hf.trans fz zr).trans af (fun k hk e=>by unfold Non;omega);have v0:cI W2 W.heap.size 0 x.b:=ar.cell 0;have v1:cI W2 W.heap.size 1 x.s:=ar.cell 1;have v2:cU W2 W.heap.size 2 x.u:=ar.cell 2;have c0:cI W2 w.heap.size 0 d:=aq.cell 0;have ah:Blk (W2.setRow (w.heap.size+1) x.V) (w.heap.size+1+1) 4 #[.bool false]:=aa.setRow_far (by omega);have z0:(W2.setRow (w.heap.size+1) x.V).cell? ⟨w.heap.size+1+1,0,none⟩=some (.bool false):=ah.cell 0;have y0:=ah.frozen 0;have bc:=Br (P:=zp) (w.heap.size+1) 38 (cs:=x.V) Fm (old:=#[.int .i64 0,.int .i64 0,.int .u64 0]) rfl (Gp _ _ _);clear ax bn aw ai ak hf af fz ar;replace hz:=lh hz;replace ap:=lh ap
  by_cases hh:D=d
  ·
   have tt:(D==d)=true:=by rw [hh];exact beq_self_eq_true d
   have az:=lh (ag.out hh);clear ag ab hh
   gi_wp2
   have f1:Fr (fun k=>k=w.heap.size+1\/k=w.heap.size+1+1) W2 (W2.setRow (w.heap.size+1) x.V):=(Fr.refl _ W2).setRow (fun _=> .inl rfl) _;have f2:=f1.setCell (p:=⟨w.heap.size+1+1,0,none⟩) (fun _=> .inr rfl) (.bool true);refine ⟨⟨x,az.out,?_,?_,a7.trans f2 (fun k hk e=>by unfold Non;omega)⟩,f2⟩
   · exact (ac.setRow (cs:=x.V)).fr ((Fr.refl (One (w.heap.size+1+1)) _).setOne 0 _) (by unfold One;omega)
   · exact (aa.setRow_far (g':=w.heap.size+1) (by omega) (cs:=x.V)).set 0 (.bool true)
  ·
   have tt:(D==d)=false:=beq_eq_false_iff_ne.2 hh;have al:=ab.out hh;have ao:=lh al;clear ag ab hh al
   gi_wp2
   exact ⟨⟨ao.out,aq,ac,aa,a7⟩,Fr.refl _ _⟩
 ·
  rintro W ⟨aj,aw,ai,ak,hf⟩ hD;have a0:CO=none:=a2.out (fun j y hy=>aj j y (List.getElem?_eq_some_iff.1 hy).1 hy);subst a0;have ah:Blk (W.setRow (w.heap.size+1) #[.int .i64 0,.int .i64 0,.int .u64 0]) (w.heap.size+1+1) 4 #[.bool false]:=ak.setRow_far (by omega);have z0:(W.setRow (w.heap.size+1) #[.int .i64 0,.int .i64 0,.int .u64 0]).cell? ⟨w.heap.size+1+1,0,none⟩=some (.bool false):=ah.cell 0;have y0:=ah.frozen 0;have bc:=Br (P:=zp) (w.heap.size+1) 38 (cs:=#[.int .i64 0,.int .i64 0,.int .u64 0]) Fm (old:=#[.int .i64 0,.int .i64 0,.int .u64 0]) rfl (Gp 0 0 0);have f1:Fr (fun k=>k=w.heap.size+1\/k=w.heap.size+1+1) W (W.setRow (w.heap.size+1) #[.int .i64 0,.int .i64 0,.int .u64 0]):=(Fr.refl _ W).setRow (fun _=> .inl rfl) _;have f2:=f1.setCell (p:=⟨w.heap.size+1+1,0,none⟩) (fun _=> .inr rfl) (.bool false);have bh:=f2.obj hD (by omega);have ac:=((ai.setRow (cs:=#[.int .i64 0,.int .i64 0,.int .u64 0])).fr ((Fr.refl (One (w.heap.size+1+1)) _).setOne 0 (.bool false)) (by unfold One;omega)).fr (Fr.putOne _ w1.heap.size (.deferred none)) (by omega);have aa:=(ah.set 0 (.bool false)).fr (Fr.putOne _ w1.heap.size (.deferred none)) (by omega);have ay:=lh ((hf.trans f2 (fun k hk e=>by unfold Non;omega)).trans (Fr.putOne _ w1.heap.size (.deferred none)) (fun k hk e=>by unfold Non;omega));replace hz:=lh hz;replace ap:=lh ap;clear aj a2 ae au a1;go_wp2;refine ⟨by simp,.inl ⟨_,_,rfl,run_takeDeferred bh,?_⟩⟩;exact ⟨_,Up rfl rfl ac rfl underlying38 Fm rfl (aa.cell 0) rfl underlying4,rfl,ay.out⟩
 ·
  rintro i W ⟨x,ag,ai,ak,hf⟩ hD;have a0:CO=some x:=ag.out;subst a0;have ac:=ai.fr (Fr.putOne W w1.heap.size (.deferred none)) (by omega);have aa:=ak.fr (Fr.putOne W w1.heap.size (.deferred none)) (by omega);have ay:=lh (hf.trans (Fr.putOne W w1.heap.size (.deferred none)) (fun k hk e=>by unfold Non;omega))
  (try simp only [Exit.inBlock,Exit.then])
  refine ⟨by simp,.inl ⟨_,_,rfl,run_takeDeferred hD,?_⟩⟩;exact ⟨_,Up rfl rfl ac rfl underlying38 Fm rfl (aa.cell 0) rfl underlying4,rfl,ay.out⟩
end Oq
end
namespace Oq
attribute [local go_sem] Ax4 Ax5
attribute [local go_sem ↓] Cx E5
theorem Av1 {P:Program} {Q:Exit->Act->World->Prop} {l:List Oper} {md:Region.Mode} {S:World->Prop} {fuel:Nat} {listed:Array Bool} {a:Act} {w:World} (i j:Nat) {d:Option Tmp} {op:Go.Op} {ty:TypeId} {pos:String} {after:Array Edge} {g:Option (Nat × Bool)} {d':Option Tmp} {op':Go.Op} {ty':TypeId} {pos':String} {after':Array Edge} {g':Option (Nat × Bool)}
  (hr:Region.ready md l.toArray listed=[i,j]) (ho:l[i]? =some ⟨d,op,ty,pos,after,g⟩) (ho':l[j]? =some ⟨d',op',ty',pos',after',g'⟩)
  (hw:Region.wanted ⟨d,op,ty,pos,after,g⟩ (yielded l.toArray a.tmps)=true) (hw':Region.wanted ⟨d',op',ty',pos',after',g'⟩ (yielded l.toArray a.tmps)=true)
  (h:∀K':Act->World->Prop,Shut (∀a w,S w->(S w->wpAnyH P md l.toArray Q S fuel (listed.setIfInBounds i true) a w)->K' a w)->Oper.wp P ⟨d,op,ty,pos,after,g⟩ a w K' Q)
  (h':∀K':Act->World->Prop,Shut (∀a w,S w->(S w->wpAnyH P md l.toArray Q S fuel (listed.setIfInBounds j true) a w)->K' a w)->Oper.wp P ⟨d',op',ty',pos',after',g'⟩ a w K' Q):
  wpAnyH P md l.toArray Q S (fuel+1) listed a w:=
 wpAnyH_ready hr (by simp) (AllReadyH.cons (by rw [Ay7];exact ho) (fun K' hK=>by rw [if_pos hw];exact h K' hK) (AllReadyH.cons (by rw [Ay7];exact ho') (fun K' hK=>by rw [if_pos hw'];exact h' K' hK) AllReadyH.nil))
section
variable {r : RG} {g : Gph} {b B0 B n c : Nat} {A : Option Addr} {ids : List Id} {w : World}
theorem Ci.came (h:Ci r g b B0 w) (d:Int) (hc:ClosedOk r.l ids) (hn:Hid (ids.length=n)) (hr:Rd w B 3 A n (ids.flatMap Id.cells)):
  Calls zp 36 #[.pointer (some ⟨g.gb,0,none⟩),.slice A n c,.int .i64 d] w (Fb (Df r.l (Af r.l ids) d) w):=by
 have:=Av0 b g B n c A ids d w h.hg hn hr (by rw [<- hn.out];exact Ax7 hc.len h.few) (fun x hx=>h.idok (hc.2 x hx)) hc.1 (by rw [h.hp];exact hc.2) h.chk;rwa [h.hp] at this
theorem Ci.rsen (h:Ci r g b B0 w) (hc:ClosedOk r.l ids) (hn:Hid (ids.length=n)) (hr:Rd w B 3 A n (ids.flatMap Id.cells)):
  Calls zp 38 #[.agg r.cells,.slice A n c] w (Ex (Ce r.l (Af r.l ids)) w):=
 Au6 B0 B n c r A ids w h.ro hn hr (by rw [<- hn.out];have:=hc.len;have:=h.few;omega) hc.2
theorem Ci.rcame (h:Ci r g b B0 w) (d:Int) (hc:ClosedOk r.l ids) (hn:Hid (ids.length=n)) (hr:Rd w B 3 A n (ids.flatMap Id.cells)):
  Calls zp 37 #[.agg r.cells,.slice A n c,.int .i64 d] w (Fb (Df r.l (Af r.l ids) d) w):=
 Au5 B0 B n c r A ids d w h.ro hn hr (by rw [<- hn.out];have:=hc.len;have:=h.few;omega) hc.2
end
end Oq
namespace Oq
attribute [local go_sem] Ax4 Ax5
attribute [local go_sem ↓] Cx E5 Gl Eu
theorem rankCame_law (A:Option Addr) (c:Nat) (l0:List Int) (A':Option Addr) (c':Nat) (l1:List Int) (dv:Int) (w:World) (hk:KindsAt w) (hr:Rd w w.heap.size 1 A l0.length (l0.map Iv)) (hnc:l0.length<=c) (hnm:c<=9223372036854775807) (hok:∀x∈l0,I64 x) (hr':Rd w w.heap.size 1 A' l1.length (l1.map Iv)) (_hnc':l1.length<=c') (_hnm':c'<=9223372036854775807) (hok':∀x∈l1,I64 x) (_dv0: -9223372036854775808<=dv) (_dv1:dv<=9223372036854775807):
  Calls zp 10 #[.slice A l0.length c,.slice A' l1.length c',.int .i64 dv] w (Ag true w):=by
 have hG:∀r:RG,(zp.info? 32).map (·.size)=some r.cells.size:=fun r=>Co;have km:=lh (Lh w.heap.size l0.length c A l0 w rfl hr hnc hnm hok hk);unfold Ii at km;have az:=fun (w':World) (hf:Fr Non w w')=>Ob w' (hk.fr hf);unfold Ag at az;replace az:=lh az;have a8:Hid (∀wz,Fr Non w wz->Ag true w (.returned (.bool true)) wz):=fun wz h=>⟨rfl,h⟩;generalize Ag true w=POST at*;obtain ⟨n0,bf⟩:=Aa l0.length;rw [bf.out] at km ⊢;have a9:=lh (fun (b:Nat) (r:RG) (v:World) (hf:Fr Non w v) (h:r.own v b)=>Kj b r w.heap.size l1.length c' A' l1 v h rfl (hr'.fr hf zr) hok');obtain ⟨n1,ba⟩:=Aa l1.length;rw [ba.out] at a9 ⊢;clear hr hnc hnm hok bf hr' _hnc' _hnm' hok' ba;go_enter func10,ntmps10;go_upto_region 2 with (go_at_call 23;(with_reducible refine (km.out).mono ?_);rintro _ w1 ⟨r,g,b,rfl,st,bw,b4,bp,f1⟩;(have bz:=Blk.new w1 32 zG);(have ak:=Br (P:=zp) w1.heap.size 32 (cs:=r.cells) (hG r) (old:=zG) rfl (E6 r)))
 have bv:=bz.setRow (cs:=r.cells);have f2:Fr Non w1 ((w1.alloc (.cells zG 32)).setRow w1.heap.size r.cells):=((Fr.refl Non w1).alloc _).setRow (fun hh=>absurd hh (by omega)) _;have ar:=st.non f2;have a2:=f1.trans f2 zr;obtain ⟨gv,bl⟩:=Aa w1.heap.size;rw [bl.out] at bv ar a2 ⊢;clear ak bz f2 f1 st km bl;generalize (w1.alloc (.cells zG 32)).setRow gv r.cells=w2 at*;have hl:=Bi (P:=zp) gv 32 underlying32 rfl (hG r);have aw:=ar.ro.rows;go_upto_region 5 with (go_at_call 26;(with_reducible refine (a9.out _ r _ a2 ar.ro).mono ?_);rintro _ w3 ⟨ab,⟨A3,c3,rfl,o3,f3⟩,aj,_⟩)
 have ai:=ar.non f3;have bx:=a2.trans f3 zr;have bb:=bv.fr f3 zq;obtain ⟨n,hn⟩:=Aa ab.length;rw [hn.out] at o3 ⊢;have a5:n<=14:=by rw [<- hn.out];exact Ax7 aj.len ai.few
 have bc:Hid ((Af r.l ab).length=n):=by show _=_;rw [E7,hn.out]
 have kS:=lh (fun (v:World) (hv:Fr Non w3 v) (B:Nat) (A:Option Addr) (c:Nat) (hr:Rd v B 3 A n ((ab).flatMap Id.cells))=>(ai.non hv).sen aj hn (c:=c) hr);have kT:=lh (fun (v:World) (hv:Fr Non w3 v) (B:Nat) (A:Option Addr) (c:Nat) (hr:Rd v B 3 A n ((ab).flatMap Id.cells))=>(ai.non hv).rsen aj hn (c:=c) hr);have kC:=lh (fun (d:Int) (v:World) (hv:Fr Non w3 v) (B:Nat) (A:Option Addr) (c:Nat) (hr:Rd v B 3 A n ((ab).flatMap Id.cells))=>(ai.non hv).came d aj hn (c:=c) hr);have kD:=lh (fun (d:Int) (v:World) (hv:Fr Non w3 v) (B:Nat) (A:Option Addr) (c:Nat) (hr:Rd v B 3 A n ((ab).flatMap Id.cells))=>(ai.non hv).rcame d aj hn (c:=c) hr);unfold Ex at kS;unfold Ex at kT;unfold Fb at kC;unfold Fb at kD
 have bt:(Ce r.l (Af r.l ab)).length<=14:=by
  unfold Ce;refine Ax7 (Ks _ _ _) ?_;rw [bc.out];exact a5
 have kE:=lh (fun (v:World) (A A':Option Addr) (c c':Nat) h1 h2=>Ug (Ce r.l (Af r.l ab)).length c c' A A' (Ce r.l (Af r.l ab)) v rfl h1 h2 (by omega));unfold Ag at kE;obtain ⟨GB,bg⟩:=Aa g.gb;rw [bg.out] at kS kC ⊢;clear ar ai aw hG bg b4 bw bp aj a9 hl bc bv f3 a2 bt;generalize Ce r.l (Af r.l ab)=SL at*;generalize Df r.l (Af r.l ab)=CF at*;have hl:=Bi (P:=zp) gv 32 underlying32 rfl (show (zp.info? 32).map (·.size)=some r.cells.size from Co);generalize r.cells=CS at*;have be:=o3.rd;clear o3;have a4:=Blk.new w3 3 #[.int .i64 dv,.int .i64 0,.int .i64 1,.int .i64 2,.int .i64 3,.int .i64 4,.int .i64 5,.int .i64 6];have a1:Fr Non w3 (w3.alloc (.cells #[.int .i64 dv,.int .i64 0,.int .i64 1,.int .i64 2,.int .i64 3,.int .i64 4,.int .i64 5,.int .i64 6] 3)):=(Fr.refl Non w3).alloc _;obtain ⟨dB,bd⟩:=Aa w3.heap.size;go_upto_region 6 with (fail)
 rw [bd.out] at a4 ⊢;have hI:=be.fr a1 zr;have hV:=bb.fr a1 zq;have bo:=bx.trans a1 zr;clear be bb bd;generalize w3.alloc (.cells #[.int .i64 dv,.int .i64 0,.int .i64 1,.int .i64 2,.int .i64 3,.int .i64 4,.int .i64 5,.int .i64 6] 3)=w4 at*
 have a7:Hid (∀i,i<8->∃d:Int,cI w4 dB i d):=by
  intro i hi;have h:=a4.cell i
  match i,hi with
  |0,_=>exact ⟨_,h⟩
  |1,_=>exact ⟨_,h⟩
  |2,_=>exact ⟨_,h⟩
  |3,_=>exact ⟨_,h⟩
  |4,_=>exact ⟨_,h⟩
  |5,_=>exact ⟨_,h⟩
  |6,_=>exact ⟨_,h⟩
  |7,_=>exact ⟨_,h⟩
 clear a4;go_wp2_with fail
 go_loopw [11] (fun v wr=>∃i:Nat,v=.int .i64 (i:Int)/\i<=8/\Fr Non w4 wr) (fun v _=>8-(intOf v).toNat)
 case atStart=>exact ⟨0,rfl,Ax9 _,Fr.refl _ _⟩
 case round=>
  obtain ⟨i,rfl,hi,hf⟩:=hrel;have ag:=a1.trans hf zr
  by_cases hlt:i<8
  ·
   have i1:(0:Int)<=i:=by omega
   have i2:(i:Int)<8:=by omega
   have i3:(i:Int).toNat=i:=by omega
   have t8:decide ((i:Int)<8)=true:=decide_eq_true i2;have b5:decide (i<8)=true:=decide_eq_true hlt;obtain ⟨d,hd⟩:=a7.out i hlt;have bj:=hf.cell hd zq;have a3:=lh (fun (v:World) (hv:Fr Non w3 v) (B:Nat) (A:Option Addr) (c:Nat) hr=>kC.out d v hv B A c hr);have ax:=lh (fun (v:World) (hv:Fr Non w3 v) (B:Nat) (A:Option Addr) (c:Nat) hr=>kD.out d v hv B A c hr);obtain ⟨z,hz⟩:=Aa ((CF d).getD ⟨0,0,0⟩);obtain ⟨bs,bq⟩:=Aa ((CF d).isSome);simp only [hz.out,bq.out] at a3 ax;have hq:Id.eq z z=true:=(Id.eq_iff z z).2 rfl;have bk:=hI.fr hf zr;go_upto_region 10 with (go_at_call 36;(with_reducible refine (a3.out _ ag _ _ _ bk).mono ?_);rintro _ w5 ⟨rfl,f5⟩;(have bz:=Blk.new w5 38 #[.int .i64 0,.int .i64 0,.int .u64 0]);(have ak:=Br (P:=zp) w5.heap.size 38 (cs:=z.V) Fm (old:=#[.int .i64 0,.int .i64 0,.int .u64 0]) rfl (Gp _ _ _)))
   have b1:=bz.setRow (cs:=z.V);have f6:Fr Non w5 ((w5.alloc (.cells #[.int .i64 0,.int .i64 0,.int .u64 0] 38)).setRow w5.heap.size z.V):=((Fr.refl Non w5).alloc _).setRow (fun hh=>absurd hh (by omega)) _;have ap:=f5.trans f6 zr;have ao:=hf.trans ap zr;have aa:=ag.trans ap zr;have aq:=ap.cell bj zq;obtain ⟨zB,bi⟩:=Aa w5.heap.size;rw [bi.out] at b1 f6 ap ao aa aq ⊢;clear ak bz f5 f6 a3 bk bj bi;generalize (w5.alloc (.cells #[.int .i64 0,.int .i64 0,.int .u64 0] 38)).setRow zB z.V=w6 at*;have ay:=hV.fr ao zq;have a6:=hI.fr ao zr;have al:Rd w6.drew w3.heap.size 3 A3 n (ab.flatMap Id.cells):=a6
   go_cut [14,15] from 44 to 53 (fun s s' wc=>∃oB:Nat,s=.pointer (some ⟨oB,0,none⟩)/\s'=.bool bs/\Blk wc oB 38 z.V/\Fr Non w6 wc)
   case first=>
    have V0:=ay;have D0:=aq;have F0:Fr Non w6 w6.drew:=(Fr.refl Non w6).drew;have G0:Fr Non w3 w6.drew:=aa.drew;refine wp_region_held_drew (S:=fun w'=>Blk w' gv 32 CS/\cI w' dB i d) (by kernel_rfl) ⟨V0,D0⟩ (fun hHeld=> ?_);clear hHeld;have uu:=aI V0 D0;refine tkH 0 uu (h:=tkH 1 uu (h:=tkH 2 uu (h:=tkH 3 uu (h:=tkH 4 uu (h:=tkH 5 uu (h:=?_))))));clear uu;simp only [zl];refine Av1 6 10 (by kernel_rfl) rfl rfl (by kernel_rfl) (by kernel_rfl) (fun K hK=> ?_) (fun K hK=> ?_)
    ·
     skip
     go_simp;go_wp2_with (go_at_call 37;(with_reducible refine (ax.out _ G0 _ _ _ al).mono ?_);rintro _ v1 ⟨rfl,av⟩;have F1:=F0.trans av zr;have V1:=V0.fr F1 zq;have D1:=F1.cell D0 zq;have G1:=aa.trans F1 zr);refine hK.out _ _ ⟨V1,D1⟩ (fun hZ=> ?_);clear hZ hK K;try simp only [Ac,zl]
     refine tkH 7 ⟨V1,D1⟩ (h:=tkH 8 ⟨V1,D1⟩ (h:=tkH 9 ⟨V1,D1⟩ (h:=?_)));simp only [zl];refine oG 10 (fun K hK=> ?_);go_simp;have ah:Fr Non v1 (v1.alloc (.cells #[.int .i64 0,.int .i64 0,.int .u64 0] 38)):=(Fr.refl _ _).alloc _;have af:=Blk.new v1 38 #[.int .i64 0,.int .i64 0,.int .u64 0];have F2:=F1.trans ah zr;have V2:=V0.fr F2 zq;have D2:=F2.cell D0 zq;have G2:=aa.trans F2 zr;obtain ⟨oB,ad⟩:=Aa v1.heap.size;rw [ad.out] at af ⊢;have bn:w6.heap.size<=oB:=by rw [<- ad.out];exact F1.size
     refine hK.out _ _ ⟨V2,D2⟩ (fun hZ=> ?_);clear hZ hK K;try simp only [Ac,zl]
     generalize v1.alloc (.cells #[.int .i64 0,.int .i64 0,.int .u64 0] 38)=v2 at*;have ak:=Br (P:=zp) oB 38 (cs:=z.V) Fm (old:=#[.int .i64 0,.int .i64 0,.int .u64 0]) rfl (Gp _ _ _);refine oG 11 (fun K hK=> ?_);go_simp;have ac:gv≠oB:=fun e=>by have:=ay.lt;omega
     have ae:dB≠oB:=fun e=>by have e1:dB<w6.heap.size:=Ay8 w6 _ aq;omega
     have bz:=af.setRow (cs:=z.V);have fz:Fr Non w6 (v2.setRow oB z.V):=F2.setRow (fun hh=>absurd hh (by omega)) _;refine hK.out _ _ ⟨V2.setRow_far ac,Li D2 (fun e=>ae e.symm)⟩ (fun hZ=> ?_);clear hZ hK K;try simp only [Ac,zl]
     refine tkH 12 ⟨V2.setRow_far ac,Li D2 (fun e=>ae e.symm)⟩ (h:=?_);simp only [zl];refine oD ?_;go_simp;go_wp2_with fail;go_meet;exact ⟨oB,rfl,rfl,bz,fz⟩
    ·
     have F0:Fr Non w6 w6:=Fr.refl Non w6;go_simp;have av:Fr Non w6 ((w6.alloc (.cells #[.int .i64 0,.int .i64 0,.int .u64 0] 38)).drew):=(((Fr.refl Non w6).alloc (.cells #[.int .i64 0,.int .i64 0,.int .u64 0] 38)).drew:Fr Non w6 _);have au:=(Blk.new w6 38 #[.int .i64 0,.int .i64 0,.int .u64 0]).drew;have F1:=F0.trans av zr;have V1:=V0.fr F1 zq;have D1:=F1.cell D0 zq;have G1:=aa.trans F1 zr;obtain ⟨oB,ad⟩:=Aa w6.heap.size;rw [ad.out] at au ⊢;have bn:w6.heap.size<=oB:=by rw [<- ad.out];exact Nat.le_refl _
     refine hK.out _ _ ⟨V1,D1⟩ (fun hZ=> ?_);clear hZ hK K;try simp only [Ac,zl]
     generalize (w6.alloc (.cells #[.int .i64 0,.int .i64 0,.int .u64 0] 38)).drew=v1 at*;refine oG 6 (fun K hK=> ?_);go_simp;go_wp2_with (go_at_call 37;(with_reducible refine (ax.out _ G1 _ _ _ (a6.fr F1 zr)).mono ?_);rintro _ v2 ⟨rfl,ah⟩;have F2:=F1.trans ah zr;have V2:=V0.fr F2 zq;have D2:=F2.cell D0 zq;have G2:=aa.trans F2 zr;have af:=au.fr ah zq);refine hK.out _ _ ⟨V2,D2⟩ (fun hZ=> ?_);clear hZ hK K;try simp only [Ac,zl]
     refine tkH 7 ⟨V2,D2⟩ (h:=tkH 8 ⟨V2,D2⟩ (h:=tkH 9 ⟨V2,D2⟩ (h:=?_)));simp only [zl];have ak:=Br (P:=zp) oB 38 (cs:=z.V) Fm (old:=#[.int .i64 0,.int .i64 0,.int .u64 0]) rfl (Gp _ _ _);refine oG 11 (fun K hK=> ?_);go_simp;have ac:gv≠oB:=fun e=>by have:=ay.lt;omega
     have ae:dB≠oB:=fun e=>by have e1:dB<w6.heap.size:=Ay8 w6 _ aq;omega
     have bz:=af.setRow (cs:=z.V);have fz:Fr Non w6 (v2.setRow oB z.V):=F2.setRow (fun hh=>absurd hh (by omega)) _;refine hK.out _ _ ⟨V2.setRow_far ac,Li D2 (fun e=>ae e.symm)⟩ (fun hZ=> ?_);clear hZ hK K;try simp only [Ac,zl]
     refine tkH 12 ⟨V2.setRow_far ac,Li D2 (fun e=>ae e.symm)⟩ (h:=?_);simp only [zl];refine oD ?_;go_simp;go_wp2_with fail;go_meet;exact ⟨oB,rfl,rfl,bz,fz⟩
   case rest=>
   obtain ⟨oB,rfl,rfl,b2,fc⟩:=hcut;have bu:=ao.trans fc zr;have a0:=b1.fr fc zq;have z0:cI wc zB 0 z.b:=a0.cell 0;have z1:cI wc zB 1 z.s:=a0.cell 1;have z2:cU wc zB 2 z.u:=a0.cell 2;have y0:cI wc oB 0 z.b:=b2.cell 0;have y1:cI wc oB 1 z.s:=b2.cell 1;have y2:cU wc oB 2 z.u:=b2.cell 2;clear ax ay a6 al b1 b2 a0 fc aq aa ap ao a7;go_wp2_with fail;go_roundw
   case rel=>exact ⟨i+1,by go_num,by omega,bu⟩
   case measure=>simp [intOf];omega
  ·
   obtain rfl:i=8:=by omega
   have t8:decide (((8:Nat):Int)<8)=false:=by decide
   have bh:=bo.trans hf zr;have V0:=hV.fr hf zq;have I0:=hI.fr hf zr;have bm:Rd wr.drew w3.heap.size 3 A3 n (ab.flatMap Id.cells):=I0;clear a7 kC kD hV hI;go_upto_region 13 with (fail)
   have F0:Fr Non wr wr.drew:=(Fr.refl Non wr).drew;have G0:Fr Non w3 wr.drew:=ag.drew;refine wp_region_held_drew (S:=fun w'=>Blk w' gv 32 CS/\Rd w' w3.heap.size 3 A3 n (ab.flatMap Id.cells)) (by kernel_rfl) ⟨V0,I0⟩ (fun hHeld=> ?_);clear hHeld;have uu:=aI V0 I0;refine tkH 0 uu (h:=tkH 1 uu (h:=tkH 3 uu (h:=tkH 4 uu (h:=?_))));clear uu;simp only [zl];refine oG 2 (fun K hK=> ?_);go_simp;go_wp2_with (go_at_call 29;(with_reducible refine (kS.out _ G0 _ _ _ bm).mono ?_);rintro _ v1 ⟨A4,c4,rfl,o4,av⟩;have F1:=F0.trans av zr;have V1:=V0.fr F1 zq;have I1:=I0.fr F1 zr;have G1:=ag.trans F1 zr);refine hK.out _ _ ⟨V1,I1⟩ (fun hZ=> ?_);clear hZ hK K;try simp only [Ac,zl]
   refine oG 5 (fun K hK=> ?_);go_simp;go_wp2_with (go_at_call 38;(with_reducible refine (kT.out _ G1 _ _ _ I1).mono ?_);rintro _ v2 ⟨A5,c5,rfl,o5,ah⟩;have F2:=F1.trans ah zr;have V2:=V0.fr F2 zq;have I2:=I0.fr F2 zr;have G2:=ag.trans F2 zr;have br:=(o4.fr ah zr).rd);refine hK.out _ _ ⟨V2,I2⟩ (fun hZ=> ?_);clear hZ hK K;try simp only [Ac,zl]
   refine oG 6 (fun K hK=> ?_);go_simp;go_wp2_with (go_at_call 28;(with_reducible refine (kE.out _ _ _ _ _ br o5.rd).mono ?_);rintro _ v3 ⟨rfl,b0⟩;have F3:=F2.trans b0 zr;have V3:=V0.fr F3 zq;have I3:=I0.fr F3 zr;have G3:=ag.trans F3 zr);refine hK.out _ _ ⟨V3,I3⟩ (fun hZ=> ?_);clear hZ hK K;try simp only [Ac,zl]
   refine tkH 7 ⟨V3,I3⟩ (h:=?_);simp only [zl];refine oG 8 (fun K hK=> ?_);go_simp;go_wp2_with (go_at_call 30;(with_reducible refine (az.out _ (bh.trans F3 zr)).mono ?_);rintro _ v4 ⟨rfl,b3⟩;have F4:=F3.trans b3 zr;have V4:=V0.fr F4 zq;have I4:=I0.fr F4 zr;have G4:=ag.trans F4 zr);refine hK.out _ _ ⟨V4,I4⟩ (fun hZ=> ?_);clear hZ hK K;try simp only [Ac,zl]
   refine tkH 9 ⟨V4,I4⟩ (h:=tkH 10 ⟨V4,I4⟩ (h:=?_));simp only [zl];refine oD ?_;go_simp;have fz:=bh.trans F4 zr;go_wp2_with fail;exact a8.out _ fz
end Oq
section
open Go.ChangeShapes Go.WideShapes Go.ChangeAt Go.RowKit
theorem Av2 (os:Os) (started:os.Started) (H:Type) (enc:TypeId × Value->H):
  ReturnsInHanded {} Tryz.checked os 10 .any (fun w args=>(Rows.rankCameSpec.pre enc zp f10 [] false w args/\laidMetH zp [("huddle/op.kinds",Rows.laid_huddle_op_kinds)] w)/\sizedMet enc zp f10 (OpenSpec.ofChange Rows.rankCameSpec) false w args)
   (Rows.rankCameSpec.post enc zp f10 false true false false):=by
 refine returnsInHanded_of_change_and (C:=Tryz.checked) (X:=fun w _=>laidMetH zp [("huddle/op.kinds",Rows.laid_huddle_op_kinds)] w) (fun _ _ _ hh h=>h.of_heap hh) Tryz.own started (by kernel_rfl) func10
  (ChangeSpec.witness_at (enc:=enc) (C:=Tryz.checked) (os:=os) (X:=fun w _=>laidMetH zp [("huddle/op.kinds",Rows.laid_huddle_op_kinds)] w) false (Hw os) #[.slice none 0 0,.slice none 0 0,.int .i64 0] 8 rfl (by kernel_rfl) (by kernel_rfl) (by kernel_rfl) (by kernel_rfl) (by kernel_rfl) (Mh os _)) ?_
 intro W base args ds gs before hval0 hW _ _ hL _;have hk:=Mg hL;have hval:∀(j:Nat) t v,Tryz.f10.params[j]? =some t->args[j]? =some v->Value.okWide zp W .any base t v:=hval0;have hW':=hW;obtain ⟨p,q,hA0,hV,rfl,hfz,hnd⟩:=hW;have hA:DataW.TrodAll enc zp W 0 (fun _=>true) true Tryz.f10.params.toList args.toList ds p:=hA0;rw [params10] at hA hval;obtain ⟨v0,v1,v2,d0,d1,d2,p0,p1,p2,rfl,rfl,rfl,h0,h1,h2⟩:=trodAll_three hA;obtain ⟨A0,c0,l0,rfl,hlc0,hc0,hr0,hok0⟩:=Gb underlying22 underlying3 (by kernel_rfl) (hval 0 22 v0 rfl rfl) h0;obtain ⟨A1,c1,l1,rfl,hlc1,hc1,hr1,hok1⟩:=Gb underlying22 underlying3 (by kernel_rfl) (hval 1 22 v1 rfl rfl) h1;obtain ⟨x2,rfl,rfl,rfl,wf2⟩:=open_int underlying3 (hval 2 3 v2 rfl rfl) h2;have bd2:=Og wf2;refine (Oq.rankCame_law A0 c0 l0 A1 c1 l1 x2 W hk hr0 hlc0 hc0 hok0 hr1 hlc1 hc1 hok1 bd2.1 bd2.2).mono fun e W' ⟨he,hf⟩=> ?_;exact ⟨_,he,Ln Tryz.laidOut (by kernel_rfl) rfl (by kernel_rfl) underlying4 hW' ⟨rfl,rfl,rfl⟩ hf⟩
theorem Av3:Rows.RankCameSaid:=
 OpenClaim.holds_of_wide 10 f10 rfl rfl rfl rfl rfl rfl rfl ⟨rfl,rfl,rfl,rfl,rfl⟩ rfl rfl rfl rfl rfl (by kernel_rfl) func10 (by kernel_rfl)
  (of_decide_eq_true (by kernel_rfl)) (by unfold Func.isWrapper;rw [if_neg (by decide+kernel)];exact ⟨rfl,rfl⟩)
  (fun os started H enc _=>Av2 os started H enc)
end
section
open Go
theorem rankCame_card_holds:Rows.RankCameCardSaid:=
 Claim7.holds_tied_plain_at .later [] [.data] true (true, "384d72dad725d37bd6ac49b23d359ed0607772ed35652509833cbd7c76661533") false
  Av3 (fun _ h=>by cases h) (by kernel_rfl) (fun _ h=>by cases h) rankCame_row_tie rfl ⟨rfl,rfl⟩ (by kernel_rfl) rfl
  (fun f fn hf hfn=>by
   obtain rfl:f=10:=Option.some.inj ((show zp.funcNamed "huddle/huddlelaw14.RankCame" =some 10 by kernel_rfl).symm.trans hf)|>.symm;obtain rfl:fn=f10:=(Option.some.inj (Tryz.func10.symm.trans hfn)).symm
   exact ⟨by kernel_rfl,fun j t ht=>by
    rw [params10] at ht
    have hm:t∈([22,22,3]:List TypeId):=by
     have h2:=Array.mem_of_getElem? ht;simpa using h2
    have hall:([22,22,3]:List TypeId).all (fun t=> !(zp.wantsStandIn t))=true:=by kernel_rfl
    have:=List.all_eq_true.1 hall t hm;exact (by simpa using this:zp.wantsStandIn t=false)⟩)
  (by kernel_rfl)
end
end Go.Proofs.YtihfebhfgliojaaGreatDoor
