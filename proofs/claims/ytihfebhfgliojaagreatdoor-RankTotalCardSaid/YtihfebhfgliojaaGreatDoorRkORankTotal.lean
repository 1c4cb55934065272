/-
  huddlelaw14.RankTotal: of two unlike operations one stands ahead of the other one, and not the other way; so of three.
    Conditions: op.kinds lies as its text lays it; the numbers read.
  RankTotal: whatever the input is, where the one listed variable is as its text lays it, the law returns true, and nothing that was there has turned.
    Condition: none.
  RankTotal: the tied card.
    Condition: none.
-/
import Derived.JoinedOf
import Derived.RowKitTokens
import Derived.LaidLaws
import Derived.Test.YtihfebhfgliojaaGreatDoorTie
import Derived.Test.YtihfebhfgliojaaGreatDoorCards
import Derived.SevenTiedAt
import Derived.Test.YtihfebhfgliojaaGreatDoorRkO20
set_option maxRecDepth 100000
set_option maxHeartbeats 16000000
open List renaming getElem?_eq_getElem->As7
open Nat renaming zero_le->As8
open Go.Proofs.Tryz
open Go.Proofs.Tryz renaming prog->zp
open Go.Lib renaming hid->lh
open List renaming set->zl
open Go.Ending renaming returned->ze
namespace Go.Proofs.YtihfebhfgliojaaGreatDoor
section
open Go.RowKit
attribute [local go_sem ↓] Go.wp_at_zero Go.wp_at_succ
namespace Oq
attribute [local go_sem] Bool.not_false Bool.not_true
attribute [local go_sem ↓] Cz Es Dw
theorem rankTotal_law (A:Option Addr) (c:Nat) (l0:List Int) (w:World) (hk:KindsAt w) (hr:Rd w w.heap.size 1 A l0.length (l0.map Iv)) (hnc:l0.length<=c) (hnm:c<=9223372036854775807) (hok:∀x∈l0,I64 x):
  Calls zp 8 #[.slice A l0.length c] w (Ae true w):=by
 have hG:∀r:RG,(zp.info? 32).map (·.size)=some r.cells.size:=fun r=>Cx;have km:=lh (G7 w.heap.size l0.length c A l0 w rfl hr hnc hnm hok hk);unfold Ge at km;have a6:=fun (w':World) (hf:Fr Non w w')=>H9 w' (hk.fr hf);unfold Ae at a6;replace a6:=lh a6;have be:Hid (∀wz,Fr Non w wz->Ae true w (.returned (.bool true)) wz):=fun wz h=>⟨rfl,h⟩;generalize Ae true w=POST at*;obtain ⟨n0,bs⟩:=Aa l0.length;rw [bs.out] at km ⊢;clear hr hnc hnm hok bs;go_enter func8,ntmps8;go_upto_region 2 with (go_at_call 23;(with_reducible refine (km.out).mono ?_);rintro _ w1 ⟨r,g,b,rfl,st,bw,bp,b2,f1⟩;(have bz:=Blk.new w1 32 zG);(have b3:=Bp (P:=zp) w1.heap.size 32 (cs:=r.cells) (hG r) (old:=zG) rfl (Eh r)))
 have bv:=bz.setRow (cs:=r.cells);have f2:Fr Non w1 ((w1.alloc (.cells zG 32)).setRow w1.heap.size r.cells):=((Fr.refl Non w1).alloc _).setRow (fun hh=>absurd hh (by omega)) _;have a1:=st.non f2;have bo:=f1.trans f2 zr;obtain ⟨gv,bq⟩:=Aa w1.heap.size;rw [bq.out] at bv a1 bo ⊢;clear b3 bz f2 f1 st km bq;generalize (w1.alloc (.cells zG 32)).setRow gv r.cells=w2 at*;have hl:=Bk (P:=zp) gv 32 underlying32 rfl (hG r);have aw:=a1.ro.rows;have ca:r.l.length≠0:=fun e=>bp (List.length_eq_zero_iff.1 e);have b9:=a1.few
 obtain ⟨bi,oi,ba⟩:∃(b off:Nat),r.iA=some ⟨b,off,none⟩:=by
  obtain ⟨m,b',o',_,e2,_⟩:=a1.ro.idAt (i:=0) (by omega);exact ⟨b',o',e2⟩
 have hJ:Hid (∀p,p<r.l.length->∀v,Fr Non w2 v->cI v bi (oi+p*3) ((Bi r.l p).b)/\cI v bi (oi+p*3+1) ((Bi r.l p).s)/\cU v bi (oi+p*3+2) ((Bi r.l p).u)):=by
  intro p hp v hv;obtain ⟨m,b',o',e1,e2,e3,e4,e5⟩:=a1.ro.idAt hp;rw [ba] at e2;injection e2 with e2
  injection e2 with e6 e7
  subst e6 e7;rw [Km e1];exact ⟨hv.cell e3 zq,hv.cell e4 zq,hv.cell e5 zq⟩
 have bl:∀p,p<r.l.length->(plc r.l (Bi r.l p)).isSome=true:=by
  intro p hp;have h1:=As7 hp;rw [Km h1,(aw.ok p _ h1).plc];rfl
 have a3:Hid (∀p q,p<r.l.length->q<r.l.length->Bi r.l p=Bi r.l q->p=q):=by
  intro p q hp hq e;have h1:=As7 hp;have h2:=As7 hq;rw [Km h1,Km h2] at e;have h3:=(aw.ok p _ h1).plc;rw [e,(aw.ok q _ h2).plc] at h3;injection h3 with h3
  exact h3.symm
 have g2:Hid (r.cells[2]? =some (.slice (some ⟨bi,oi,none⟩) r.l.length r.iC)):=by show _=_;rw [<- ba];rfl
 have kL:Hid (∀(p q:Nat) (v:World),p<r.l.length->q<r.l.length->Fr Non w2 v->Calls zp 33 #[.pointer (some ⟨g.gb,0,none⟩),.agg #[.int .i64 (Bi r.l p).b,.int .i64 (Bi r.l p).s,.int .u64 ((Bi r.l p).u:Int)],.agg #[.int .i64 (Bi r.l q).b,.int .i64 (Bi r.l q).s,.int .u64 ((Bi r.l q).u:Int)]] v fun e v'=>e=.returned (.bool (Bj r.l (Bi r.l p) (Bi r.l q)))/\Fr Non v v'):=fun p q v hp hq hv=>(a1.non hv).less (bl p hp) (bl q hq)
 have bm:Hid (∀p q,p<r.l.length->q<r.l.length->(p=q/\Bj r.l (Bi r.l p) (Bi r.l q)=false/\Bj r.l (Bi r.l q) (Bi r.l p)=false)\/(p≠q/\Bj r.l (Bi r.l p) (Bi r.l q)=true/\Bj r.l (Bi r.l q) (Bi r.l p)=false)\/(p≠q/\Bj r.l (Bi r.l p) (Bi r.l q)=false/\Bj r.l (Bi r.l q) (Bi r.l p)=true)):=by
  intro p q hp hq
  by_cases e:p=q
  ·
   subst e;exact .inl ⟨rfl,M5 _ _,M5 _ _⟩
  ·
   rcases Fx r.l (Bi r.l p) (Bi r.l q) with h|h|h
   · exact .inr (.inl ⟨e,h,Hy h⟩)
   · exact absurd (a3.out p q hp hq h) e
   · exact .inr (.inr ⟨e,Hy h,h⟩)
 have b6:Hid (∀p q s,Bj r.l (Bi r.l p) (Bi r.l q)=true->Bj r.l (Bi r.l q) (Bi r.l s)=true->Bj r.l (Bi r.l p) (Bi r.l s)=true):=fun p q s h1 h2=>Kg h1 h2;obtain ⟨GB,br⟩:=Aa g.gb;rw [br.out] at kL ⊢;clear a1 aw hG br bp ba bl a3 bw b2 hl;generalize Bi r.l=nm at*;generalize Bj r.l=LS at*;generalize r.l.length=N at*;generalize r.iC=IC at*;generalize r.cells=CS at*;have c2:cS w2 gv 2 (some ⟨bi,oi,none⟩) N IC:=(bv.cell 2).trans g2.out;clear bv g2;go_wp2_with fail
 go_loopw [5] (fun v wr=>∃i:Nat,v=.int .i64 (i:Int)/\i<=N/\Fr Non w2 wr) (fun v _=>N-(intOf v).toNat)
 case atStart=>exact ⟨0,rfl,As8 _,Fr.refl _ _⟩
 case round=>
  obtain ⟨i,rfl,hi,hf⟩:=hrel;have bg:=hf.cell c2 zq
  by_cases hlt:i<N
  ·
   have i1:(0:Int)<=i:=by omega
   have i2:(i:Int)<N:=by omega
   have i3:(i:Int).toNat=i:=by omega
   generalize wr=wo at*;clear wr;go_wp2_with fail
   go_loopw [6] (fun v wi=>∃k:Nat,v=.int .i64 (k:Int)/\k<=N/\Fr Non w2 wi) (fun v _=>N-(intOf v).toNat)
   case atStart=>exact ⟨0,rfl,As8 _,hf⟩
   case round=>
    clear bg hf;obtain ⟨k,rfl,hk,hf⟩:=hrel;have bg:=hf.cell c2 zq
    by_cases hkt:k<N
    ·
     have k1:(0:Int)<=k:=by omega
     have k2:(k:Int)<N:=by omega
     have k3:(k:Int).toNat=k:=by omega
     obtain ⟨x0,x1,x2⟩:=hJ.out i hlt wr hf;obtain ⟨y0,y1,y2⟩:=hJ.out k hkt wr hf;have ax:=lh (fun (v:World) (hv:Fr Non w2 v)=>kL.out i k v hlt hkt hv);have ay:=lh (fun (v:World) (hv:Fr Non w2 v)=>kL.out k i v hkt hlt hv);have a2:=lh (bm.out i k hlt hkt);have a5:=lh (fun s=>b6.out i k s);obtain ⟨x,hx⟩:=Aa (nm i);obtain ⟨y,hy⟩:=Aa (nm k);rw [hx.out] at x0 x1 x2 ax ay a2 a5;rw [hy.out] at y0 y1 y2 ax ay a2 a5;obtain ⟨BA,b5⟩:=Aa (LS x y);obtain ⟨BB,bt⟩:=Aa (LS y x);rw [b5.out] at ax a2 a5;rw [bt.out] at ay a2;go_upto_region 10 with (fail)
     have Q0:=bg;have aa:=x0;have ad:=x1;have ab:=x2;have ac:=y0;have af:=y1;have ae:=y2;have F0:Fr Non wr wr.drew:=(Fr.refl Non wr).drew;have G0:Fr Non w2 wr.drew:=hf.drew;refine wp_region_held_drew (S:=fun w'=>cS w' gv 2 (some ⟨bi,oi,none⟩) N IC/\cI w' bi (oi+i*3) x.b/\cI w' bi (oi+i*3+1) x.s/\cU w' bi (oi+i*3+2) x.u/\cI w' bi (oi+k*3) y.b/\cI w' bi (oi+k*3+1) y.s/\cU w' bi (oi+k*3+2) y.u) (by kernel_rfl) ⟨Q0,aa,ad,ab,ac,af,ae⟩ (fun hHeld=> ?_);clear hHeld;have uu:=aI Q0 (aI aa (aI ad (aI ab (aI ac (aI af ae)))));refine tkH 0 uu (h:=tkH 1 uu (h:=tkH 2 uu (h:=tkH 3 uu (h:=tkH 4 uu (h:=tkH 5 uu (h:=tkH 6 uu (h:=tkH 7 uu (h:=tkH 8 uu (h:=tkH 9 uu (h:=tkH 10 uu (h:=?_)))))))))));clear uu;simp only [zl];refine oG 11 (fun K hK=> ?_);go_simp;go_wp2_with (go_at_call 33;(with_reducible refine (ax.out _ G0).mono ?_);rintro _ v1 ⟨rfl,a0⟩;have F1:=F0.trans a0 zr;have Q1:=F1.cell Q0 zq;have al:=F1.cell aa zq;have ai:=F1.cell ad zq;have aj:=F1.cell ab zq;have ak:=F1.cell ac zq;have ag:=F1.cell af zq;have ah:=F1.cell ae zq;have G1:=hf.trans F1 zr);refine hK.out _ _ ⟨Q1,al,ai,aj,ak,ag,ah⟩ (fun hZ=> ?_);clear hZ hK K;try simp only [Ad,zl]
     refine tkH 12 ⟨Q1,al,ai,aj,ak,ag,ah⟩ (h:=?_);simp only [zl];refine oD ?_;go_simp;go_upto_region 11 with (fail)
     clear Q0 aa ad ab ac af ae F0 G0 ax a0;have Q0:=Q1;have aa:=al;have ad:=ai;have ab:=aj;have ac:=ak;have af:=ag;have ae:=ah;have FF:=F1;have GG:=G1;clear Q1 al ai aj ak ag ah F1 G1;have F0:Fr Non v1 v1.drew:=(Fr.refl Non v1).drew;have G0:Fr Non w2 v1.drew:=GG.drew;generalize v1=u1 at*;refine wp_region_held_drew (S:=fun w'=>cS w' gv 2 (some ⟨bi,oi,none⟩) N IC/\cI w' bi (oi+i*3) x.b/\cI w' bi (oi+i*3+1) x.s/\cU w' bi (oi+i*3+2) x.u/\cI w' bi (oi+k*3) y.b/\cI w' bi (oi+k*3+1) y.s/\cU w' bi (oi+k*3+2) y.u) (by kernel_rfl) ⟨Q0,aa,ad,ab,ac,af,ae⟩ (fun hHeld=> ?_);clear hHeld;have uu:=aI Q0 (aI aa (aI ad (aI ab (aI ac (aI af ae)))));refine tkH 0 uu (h:=tkH 1 uu (h:=tkH 2 uu (h:=tkH 3 uu (h:=tkH 4 uu (h:=tkH 5 uu (h:=tkH 6 uu (h:=tkH 7 uu (h:=tkH 8 uu (h:=tkH 9 uu (h:=tkH 10 uu (h:=?_)))))))))));clear uu;simp only [zl];refine oG 11 (fun K hK=> ?_);go_simp;go_wp2_with (go_at_call 33;(with_reducible refine (ay.out _ G0).mono ?_);rintro _ v1 ⟨rfl,a0⟩;have F1:=F0.trans a0 zr;have Q1:=F1.cell Q0 zq;have al:=F1.cell aa zq;have ai:=F1.cell ad zq;have aj:=F1.cell ab zq;have ak:=F1.cell ac zq;have ag:=F1.cell af zq;have ah:=F1.cell ae zq;have G1:=GG.trans F1 zr);refine hK.out _ _ ⟨Q1,al,ai,aj,ak,ag,ah⟩ (fun hZ=> ?_);clear hZ hK K;try simp only [Ad,zl]
     refine tkH 12 ⟨Q1,al,ai,aj,ak,ag,ah⟩ (h:=?_);simp only [zl];refine oD ?_;go_simp;clear Q0 aa ad ab ac af ae F0 G0 ay a0 FF GG;generalize v1=wv at*;go_upto_region 12 with (fail)
     go_cut [79] from 55 to 79 (fun s wc=>wv=wc/\s=.bool false)
     case first=>
      have h2:=a2.out
      rcases h2 with ⟨e,e1,e2⟩|⟨e,e1,e2⟩|⟨e,e1,e2⟩
      ·
       subst e;have te:((i:Int)==(i:Int))=true:=by simp
       have tn:((i:Int) !=(i:Int))=false:=by simp
       subst e1 e2;go_wp2_with fail;go_meet;exact ⟨rfl,rfl⟩
      ·
       have te:((i:Int)==(k:Int))=false:=by simp;omega
       have tn:((i:Int) !=(k:Int))=true:=by simp;omega
       have b4:(i==k)=false:=by simp;omega
       have b1:(i !=k)=true:=by simp;omega
       subst e1 e2;go_wp2_with fail;go_meet;exact ⟨rfl,rfl⟩
      ·
       have te:((i:Int)==(k:Int))=false:=by simp;omega
       have tn:((i:Int) !=(k:Int))=true:=by simp;omega
       have b4:(i==k)=false:=by simp;omega
       have b1:(i !=k)=true:=by simp;omega
       subst e1 e2;go_wp2_with fail;go_meet;exact ⟨rfl,rfl⟩
     case rest=>
     obtain ⟨rfl,rfl⟩:=hcut;clear a2 bt;have a7:=Q1;have FW:Fr Non w2 wv:=G1;clear Q1 al ai aj ak ag ah F1 G1;go_wp2_with fail
     go_loopw [9] (fun v wn=>∃n:Nat,v=.int .i64 (n:Int)/\n<=N/\Fr Non w2 wn) (fun v _=>N-(intOf v).toNat)
     case atStart=>exact ⟨0,rfl,As8 _,FW⟩
     case round=>
      clear a7 FW;obtain ⟨n,rfl,hn,az⟩:=hrel;have a7:=az.cell c2 zq
      rcases zb BA with hA|hA
      rotate_left
      ·
       subst hA;go_wp2_with fail
       all_goals
        go_roundw
        case rel=>exact ⟨k+1,by go_num,by omega,az⟩
        case measure=>simp [intOf];omega
      ·
       subst hA
       by_cases hnt:n<N
       ·
        have m1:(0:Int)<=n:=by omega
        have m2:(n:Int)<N:=by omega
        have m3:(n:Int).toNat=n:=by omega
        obtain ⟨x0,x1,x2⟩:=hJ.out i hlt wr az;obtain ⟨y0,y1,y2⟩:=hJ.out k hkt wr az;obtain ⟨z0,z1,z2⟩:=hJ.out n hnt wr az;have ax:=lh (fun (v:World) (hv:Fr Non w2 v)=>kL.out k n v hkt hnt hv);have ay:=lh (fun (v:World) (hv:Fr Non w2 v)=>kL.out i n v hlt hnt hv);have a4:=lh (a5.out n rfl);obtain ⟨z,hz⟩:=Aa (nm n);rw [hx.out] at x0 x1 x2 ay;rw [hy.out] at y0 y1 y2 ax;rw [hz.out] at z0 z1 z2 ax ay a4;obtain ⟨B1,bn⟩:=Aa (LS y z);obtain ⟨B2,bu⟩:=Aa (LS x z);rw [bn.out] at ax a4;rw [bu.out] at ay a4;go_upto_region 17 with (fail)
        go_cut [116] from 90 to 116 (fun s wc=>s=.bool false/\Fr Non wr wc)
        case first=>
         have Q0:=a7;have aa:=x0;have ad:=x1;have ab:=x2;have ac:=y0;have af:=y1;have ae:=y2;have av:=z0;have ar:=z1;have au:=z2;have F0:Fr Non wr wr.drew:=(Fr.refl Non wr).drew;have G0:Fr Non w2 wr.drew:=az.drew
         cases B1
         case false=>
          refine wp_region_held_drew (S:=fun w'=>cS w' gv 2 (some ⟨bi,oi,none⟩) N IC/\cI w' bi (oi+i*3) x.b/\cI w' bi (oi+i*3+1) x.s/\cU w' bi (oi+i*3+2) x.u/\cI w' bi (oi+k*3) y.b/\cI w' bi (oi+k*3+1) y.s/\cU w' bi (oi+k*3+2) y.u/\cI w' bi (oi+n*3) z.b/\cI w' bi (oi+n*3+1) z.s/\cU w' bi (oi+n*3+2) z.u) (by kernel_rfl) ⟨Q0,aa,ad,ab,ac,af,ae,av,ar,au⟩ (fun hHeld=> ?_);clear hHeld;have uu:=aI Q0 (aI aa (aI ad (aI ab (aI ac (aI af (aI ae (aI av (aI ar au))))))));refine tkH 0 uu (h:=tkH 1 uu (h:=tkH 2 uu (h:=tkH 3 uu (h:=tkH 4 uu (h:=tkH 5 uu (h:=tkH 6 uu (h:=tkH 7 uu (h:=tkH 8 uu (h:=tkH 9 uu (h:=tkH 10 uu (h:=?_)))))))))));clear uu;simp only [zl];refine oG 11 (fun K hK=> ?_);go_simp;go_wp2_with (go_at_call 33;(with_reducible refine (ax.out _ G0).mono ?_);rintro _ v1 ⟨rfl,a0⟩;have F1:=F0.trans a0 zr;have Q1:=F1.cell Q0 zq;have al:=F1.cell aa zq;have ai:=F1.cell ad zq;have aj:=F1.cell ab zq;have ak:=F1.cell ac zq;have ag:=F1.cell af zq;have ah:=F1.cell ae zq;have aq:=F1.cell av zq;have ap:=F1.cell ar zq;have ao:=F1.cell au zq;have G1:=az.trans F1 zr);refine hK.out _ _ ⟨Q1,al,ai,aj,ak,ag,ah,aq,ap,ao⟩ (fun hZ=> ?_);clear hZ hK K;try simp only [Ad,zl]
          have uu:=aI Q1 (aI al (aI ai (aI aj (aI ak (aI ag (aI ah (aI aq (aI ap ao))))))));refine tkH 12 uu (h:=skH 13 uu (h:=skH 14 uu (h:=skH 15 uu (h:=skH 16 uu (h:=skH 17 uu (h:=skH 18 uu (h:=skH 19 uu (h:=skH 20 uu (h:=skH 21 uu (h:=skH 22 uu (h:=skH 23 uu (h:=?_))))))))))));clear uu;simp only [zl];refine skH 24 ⟨Q1,al,ai,aj,ak,ag,ah,aq,ap,ao⟩ (h:=skH 25 ⟨Q1,al,ai,aj,ak,ag,ah,aq,ap,ao⟩ (h:=tkH 26 ⟨Q1,al,ai,aj,ak,ag,ah,aq,ap,ao⟩ (h:=?_)));simp only [zl];refine oD ?_;go_simp;go_wp2_with fail;go_meet;exact ⟨rfl,F1⟩
         case true=>
          have bx:=a4.out rfl;subst bx;refine wp_region_held_drew (S:=fun w'=>cS w' gv 2 (some ⟨bi,oi,none⟩) N IC/\cI w' bi (oi+i*3) x.b/\cI w' bi (oi+i*3+1) x.s/\cU w' bi (oi+i*3+2) x.u/\cI w' bi (oi+k*3) y.b/\cI w' bi (oi+k*3+1) y.s/\cU w' bi (oi+k*3+2) y.u/\cI w' bi (oi+n*3) z.b/\cI w' bi (oi+n*3+1) z.s/\cU w' bi (oi+n*3+2) z.u) (by kernel_rfl) ⟨Q0,aa,ad,ab,ac,af,ae,av,ar,au⟩ (fun hHeld=> ?_);clear hHeld;have uu:=aI Q0 (aI aa (aI ad (aI ab (aI ac (aI af (aI ae (aI av (aI ar au))))))));refine tkH 0 uu (h:=tkH 1 uu (h:=tkH 2 uu (h:=tkH 3 uu (h:=tkH 4 uu (h:=tkH 5 uu (h:=tkH 6 uu (h:=tkH 7 uu (h:=tkH 8 uu (h:=tkH 9 uu (h:=tkH 10 uu (h:=?_)))))))))));clear uu;simp only [zl];refine oG 11 (fun K hK=> ?_);go_simp;go_wp2_with (go_at_call 33;(with_reducible refine (ax.out _ G0).mono ?_);rintro _ v1 ⟨rfl,a0⟩;have F1:=F0.trans a0 zr;have Q1:=F1.cell Q0 zq;have al:=F1.cell aa zq;have ai:=F1.cell ad zq;have aj:=F1.cell ab zq;have ak:=F1.cell ac zq;have ag:=F1.cell af zq;have ah:=F1.cell ae zq;have aq:=F1.cell av zq;have ap:=F1.cell ar zq;have ao:=F1.cell au zq;have G1:=az.trans F1 zr);refine hK.out _ _ ⟨Q1,al,ai,aj,ak,ag,ah,aq,ap,ao⟩ (fun hZ=> ?_);clear hZ hK K;try simp only [Ad,zl]
          have uu:=aI Q1 (aI al (aI ai (aI aj (aI ak (aI ag (aI ah (aI aq (aI ap ao))))))));refine tkH 12 uu (h:=tkH 13 uu (h:=tkH 14 uu (h:=tkH 15 uu (h:=tkH 16 uu (h:=tkH 17 uu (h:=tkH 18 uu (h:=tkH 19 uu (h:=tkH 20 uu (h:=tkH 21 uu (h:=tkH 22 uu (h:=tkH 23 uu (h:=?_))))))))))));clear uu;simp only [zl];refine oG 24 (fun K hK=> ?_);go_simp;go_wp2_with (go_at_call 33;(with_reducible refine (ay.out _ G1).mono ?_);rintro _ v2 ⟨rfl,b7⟩;have F2:=F1.trans b7 zr;have Q2:=F2.cell Q0 zq;have bd:=F2.cell aa zq;have bk:=F2.cell ad zq;have bc:=F2.cell ab zq;have a8:=F2.cell ac zq;have bj:=F2.cell af zq;have a9:=F2.cell ae zq;have bb:=F2.cell av zq;have bh:=F2.cell ar zq;have bf:=F2.cell au zq;have G2:=az.trans F2 zr);refine hK.out _ _ ⟨Q2,bd,bk,bc,a8,bj,a9,bb,bh,bf⟩ (fun hZ=> ?_);clear hZ hK K;try simp only [Ad,zl]
          refine tkH 25 ⟨Q2,bd,bk,bc,a8,bj,a9,bb,bh,bf⟩ (h:=tkH 26 ⟨Q2,bd,bk,bc,a8,bj,a9,bb,bh,bf⟩ (h:=?_));simp only [zl];refine oD ?_;go_simp;go_wp2_with fail;go_meet;exact ⟨rfl,F2⟩
        case rest=>
        obtain ⟨rfl,fc⟩:=hcut;have b8:=az.trans fc zr;clear ax ay a4 bn bu x0 x1 x2 y0 y1 y2 z0 z1 z2 a7;go_wp2_with fail;go_roundw
        case rel=>exact ⟨n+1,by go_num,by omega,b8⟩
        case measure=>simp [intOf];omega
       ·
        obtain rfl:n=N:=by omega
        go_wp2_with fail;go_roundw
        case rel=>exact ⟨k+1,by go_num,by omega,az⟩
        case measure=>simp [intOf];omega
    ·
     obtain rfl:k=N:=by omega
     go_wp2_with fail;go_roundw
     case rel=>exact ⟨i+1,by go_num,by omega,hf⟩
     case measure=>simp [intOf];omega
  ·
   obtain rfl:i=N:=by omega
   have fz:=bo.trans hf zr;go_wp2_with (go_at_call 30;(with_reducible refine (a6.out _ fz).mono ?_);rintro _ wz ⟨rfl,b0⟩);exact be.out _ (fz.trans b0 zr)
end Oq
end
section
open Go.ChangeShapes Go.WideShapes Go.ChangeAt Go.RowKit
theorem Ar7 (os:Os) (started:os.Started) (H:Type) (enc:TypeId × Value->H):
  ReturnsInHanded {} Tryz.checked os 8 .any (fun w args=>(Rows.rankTotalSpec.pre enc zp f8 [] false w args/\laidMetH zp [("huddle/op.kinds",Rows.laid_huddle_op_kinds)] w)/\sizedMet enc zp f8 (OpenSpec.ofChange Rows.rankTotalSpec) false w args)
   (Rows.rankTotalSpec.post enc zp f8 false true false false):=by
 refine returnsInHanded_of_change_and (C:=Tryz.checked) (X:=fun w _=>laidMetH zp [("huddle/op.kinds",Rows.laid_huddle_op_kinds)] w) (fun _ _ _ hh h=>h.of_heap hh) Tryz.own started (by kernel_rfl) func8
  (ChangeSpec.witness_at (enc:=enc) (C:=Tryz.checked) (os:=os) (X:=fun w _=>laidMetH zp [("huddle/op.kinds",Rows.laid_huddle_op_kinds)] w) false (Fp os) #[.slice none 0 0] 8 rfl (by kernel_rfl) (by kernel_rfl) (by kernel_rfl) (by kernel_rfl) (by kernel_rfl) (Hj os _)) ?_
 intro W base args ds gs before hval0 hW _ _ hL _;have hk:=Hi hL;have hval:∀(j:Nat) t v,Tryz.f8.params[j]? =some t->args[j]? =some v->Value.okWide zp W .any base t v:=hval0;have hW':=hW;obtain ⟨p,q,hA0,hV,rfl,hfz,hnd⟩:=hW;have hA:DataW.TrodAll enc zp W 0 (fun _=>true) true Tryz.f8.params.toList args.toList ds p:=hA0;rw [params8] at hA hval;obtain ⟨v0,d0,rfl,rfl,h0⟩:=trodAll_one hA;obtain ⟨A0,c0,l0,rfl,hlc0,hc0,hr0,hok0⟩:=E7 underlying22 underlying3 (by kernel_rfl) (hval 0 22 v0 rfl rfl) h0;refine (Oq.rankTotal_law A0 c0 l0 W hk hr0 hlc0 hc0 hok0).mono fun e W' ⟨he,hf⟩=> ?_;exact ⟨_,he,Ha Tryz.laidOut (by kernel_rfl) rfl (by kernel_rfl) underlying4 hW' ⟨rfl,rfl,rfl⟩ hf⟩
theorem Ar8:Rows.RankTotalSaid:=
 OpenClaim.holds_of_wide 8 f8 rfl rfl rfl rfl rfl rfl rfl ⟨rfl,rfl,rfl,rfl,rfl⟩ rfl rfl rfl rfl rfl (by kernel_rfl) func8 (by kernel_rfl)
  (of_decide_eq_true (by kernel_rfl)) (by unfold Func.isWrapper;rw [if_neg (by decide+kernel)];exact ⟨rfl,rfl⟩)
  (fun os started H enc _=>Ar7 os started H enc)
end
section
open Go
theorem rankTotal_card_holds:Rows.RankTotalCardSaid:=
 Claim7.holds_tied_plain_at .later [] [.data] true (true, "384d72dad725d37bd6ac49b23d359ed0607772ed35652509833cbd7c76661533") false
  Ar8 (fun _ h=>by cases h) (by kernel_rfl) (fun _ h=>by cases h) rankTotal_row_tie rfl ⟨rfl,rfl⟩ (by kernel_rfl) rfl
  (fun f fn hf hfn=>by
   obtain rfl:f=8:=Option.some.inj ((show zp.funcNamed "huddle/huddlelaw14.RankTotal" =some 8 by kernel_rfl).symm.trans hf)|>.symm;obtain rfl:fn=f8:=(Option.some.inj (Tryz.func8.symm.trans hfn)).symm
   exact ⟨by kernel_rfl,fun j t ht=>by
    rw [params8] at ht
    have hm:t∈([22]:List TypeId):=by
     have h2:=Array.mem_of_getElem? ht;simpa using h2
    have hall:([22]:List TypeId).all (fun t=> !(zp.wantsStandIn t))=true:=by kernel_rfl
    have:=List.all_eq_true.1 hall t hm;exact (by simpa using this:zp.wantsStandIn t=false)⟩)
  (by kernel_rfl)
end
end Go.Proofs.YtihfebhfgliojaaGreatDoor
