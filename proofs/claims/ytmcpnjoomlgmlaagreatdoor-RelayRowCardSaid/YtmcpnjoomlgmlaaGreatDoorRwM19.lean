/-
  Contracts of the functions that the claim's statement reaches, walked one by one (part 19).
  Conditions: as each theorem says.
-/
import Derived.Test.YtmcpnjoomlgmlaaGreatDoorRwM18
set_option maxRecDepth 100000
set_option maxHeartbeats 16000000
open Bool renaming not_true->Ax5,false_eq_true->Ax7
open Nat renaming zero_le->Ax3,le_refl->Ax4,lt_trichotomy->Ax6
open Go.Proofs.Tryz
open Go.Proofs.Tryz renaming prog->zp
open Go.Lib renaming hid->lh
open List renaming set->zl
open Go.Ending renaming returned->ze
namespace Go.Proofs.YtmcpnjoomlgmlaaGreatDoor
attribute [local go_sem ↓] Go.wp_at_zero Go.wp_at_succ
section
open Go.RowKit Go.Sort
namespace Oq
attribute [local go_sem] Bool.not_false Ax5
attribute [local go_sem ↓] N3
def pU (lt:Id->Id->Bool) (D:Array Id) (a:Nat):Id->Bool:=fun x=>lt x D[a]!
def pD (lt:Id->Id->Bool) (D:Array Id) (a:Nat):Id->Bool:=fun x=> !lt x D[a]!
theorem Ud {p:Id->Bool} {d:Array Id} {j i:Nat} (h:i<=j) (hp:p d[i]! =true):scanUp p d j i=scanUp p d j (i+1):=by
 conv=>lhs;unfold scanUp
 rw [if_pos (by rw [hp];simp [h])]
theorem Ku {p:Id->Bool} {d:Array Id} {j i:Nat} (h:¬i<=j\/p d[i]! =false):scanUp p d j i=i:=by
 unfold scanUp;rw [if_neg]
 rcases h with h|h
 · simp [h]
 · rw [h];simp
theorem Ue {p:Id->Bool} {d:Array Id} {i j:Nat} (h:i<=j+1) (hp:p d[j+1]! =true):scanDown p d i (j+1)=scanDown p d i j:=by
 conv=>lhs;unfold scanDown
 rw [if_pos (by rw [hp];simp [h])]
theorem Kv {p:Id->Bool} {d:Array Id} {i j:Nat} (h:¬i<=j\/p d[j]! =false):scanDown p d i j=j:=by
 cases j with
 |zero=>rfl
 |succ j=>
  unfold scanDown;rw [if_neg]
  rcases h with h|h
  · simp [h]
  · rw [h];simp
theorem Uf {lt:Id->Id->Bool} {D:Array Id} {a i j:Nat} (h0:0<i) (h1:i<=j+1):
  i<=scanUp (pU lt D a) D j i/\scanUp (pU lt D a) D j i<=j+1/\scanDown (pD lt D a) D (scanUp (pU lt D a) D j i) j<=j/\scanUp (pU lt D a) D j i<=scanDown (pD lt D a) D (scanUp (pU lt D a) D j i) j+1/\
   (¬scanUp (pU lt D a) D j i>scanDown (pD lt D a) D (scanUp (pU lt D a) D j i) j->scanUp (pU lt D a) D j i<scanDown (pD lt D a) D (scanUp (pU lt D a) D j i) j):=by
 obtain ⟨u1,u2,_,u4⟩:=scanUp_spec (pU lt D a) D j _ i rfl;generalize scanUp (pU lt D a) D j i=I at*;obtain ⟨d1,d2,_,d4⟩:=scanDown_spec (pD lt D a) D I j;generalize scanDown (pD lt D a) D I j=J at*;refine ⟨u1,u2 h1,d1,d2 (by have:=u2 h1;omega),fun h=> ?_⟩
 rcases Nat.lt_or_ge I J with hl|hl
 · exact hl
 ·
  have e:I=J:=by omega
  have k1:=u4 (by omega);have k2:=d4 (by omega) (by omega);rw [e] at k1;unfold pU at k1;unfold pD at k2;rw [k1] at k2
  cases k2
def Ir (w0:World) (base:Nat) (A:Option Addr) (c:Nat) (d:Array Id) (r:Nat) (e:Ending) (v:World):Prop:=∃al:Bool,e=.returned (.tuple #[.int .i64 (r:Int),.bool al])/\Srt w0 v base A c d
theorem Au9 (w0:World) (base c:Nat) (A:Option Addr) (d:Array Id) (n:Nat) (a b p:Nat) (fid:Nat) (pre post:Array Value) (cmp:Id->Id->Int) (w:World)
  (hc:E8 w0 fid pre post cmp) (h:Srt w0 w base A c d) (hdn:d.size=n) (hn:n<=1000) (hap:a<=p) (hpb:p<b) (hb:b<=n):
  Calls zp 203 #[.slice A n c,.int .i64 a,.int .i64 b,.int .i64 p,.func (.func fid) pre post] w (Ir w0 base A c (swp (partLoop (Ab cmp) a (a+1) (b-1) (swp d a p)).2 (partLoop (Ab cmp) a (a+1) (b-1) (swp d a p)).1 a) (partLoop (Ab cmp) a (a+1) (b-1) (swp d a p)).1):=by
 have eg:=hc.enters;have HC:=lh hc;have HS:=lh h;clear hc h;obtain ⟨g,rfl,br,bq⟩:=HS.out.at (i:=a) (by omega);have a7:Hid (∀(wz:World) (j:Nat) (D:Array Id) (al:Bool),(j,D)=partLoop (Ab cmp) a (a+1) (b-1) (swp d a p)->Srt w0 wz base (some ⟨g,0,none⟩) c (swp D j a)->Ir w0 base (some ⟨g,0,none⟩) c (swp (partLoop (Ab cmp) a (a+1) (b-1) (swp d a p)).2 (partLoop (Ab cmp) a (a+1) (b-1) (swp d a p)).1 a) (partLoop (Ab cmp) a (a+1) (b-1) (swp d a p)).1 (.returned (.tuple #[.int .i64 (j:Int),.bool al])) wz):=fun wz j D al e h=>by rw [<- e];exact ⟨al,rfl,h⟩
 generalize Ir w0 base (some ⟨g,0,none⟩) c (swp (partLoop (Ab cmp) a (a+1) (b-1) (swp d a p)).2 (partLoop (Ab cmp) a (a+1) (b-1) (swp d a p)).1 a) (partLoop (Ab cmp) a (a+1) (b-1) (swp d a p)).1=POST at*;have bi:Hid (∀(i j:Nat) (D:Array Id),partLoop (Ab cmp) a i j D=if scanUp (pU (Ab cmp) D a) D j i>scanDown (pD (Ab cmp) D a) D (scanUp (pU (Ab cmp) D a) D j i) j then (scanDown (pD (Ab cmp) D a) D (scanUp (pU (Ab cmp) D a) D j i) j,D) else partLoop (Ab cmp) a (scanUp (pU (Ab cmp) D a) D j i+1) (scanDown (pD (Ab cmp) D a) D (scanUp (pU (Ab cmp) D a) D j i) j-1) (swp D (scanUp (pU (Ab cmp) D a) D j i) (scanDown (pD (Ab cmp) D a) D (scanUp (pU (Ab cmp) D a) D j i) j))):=fun i j D=>partLoop_eq (Ab cmp) a i j D;generalize bd:partLoop (Ab cmp) a (a+1) (b-1) (swp d a p)=PL at*;replace bd:=lh bd;go_enter func203,ntmps203;obtain ⟨a1,a2,a3⟩:=ix a n
 obtain ⟨p1,p2,p3⟩:=ix p n
 have ea:IntKind.i64.wrap ((a:Int)+1)=((a+1:Nat):Int):=by rw [IntWalk.i64_in _ (by omega)];omega
 have eb:IntKind.i64.wrap ((b:Int)-1)=((b-1:Nat):Int):=by rw [IntWalk.i64_in _ (by omega)];omega
 have hS:=HS;have F0:Fr Non w w.drew:=(Fr.refl Non w).drew;go_upto_region 1 with (fail)
 clear F0;obtain ⟨x,hx⟩:=Aa d[a]!;obtain ⟨y,hy⟩:=Aa d[p]!;have ah:=hS.out.cells (i:=a) (by omega);have ag:=hS.out.cells (i:=p) (by omega);rw [hx.out] at ah;rw [hy.out] at ag;have af:cI w g (a*3) x.b:=ah.1;have aa:cI w g (a*3+1) x.s:=ah.2.1;have ad:cU w g (a*3+2) x.u:=ah.2.2;have ac:cI w g (p*3) y.b:=ag.1;have ab:cI w g (p*3+1) y.s:=ag.2.1;have ae:cU w g (p*3+2) y.u:=ag.2.2;have F0:Fr Non w w.drew:=(Fr.refl Non w).drew;have a4:=(show Srt w0 w.drew base _ c _ from hS.out.non F0).swap (i:=a) (j:=p) (by omega) (by omega);rw [hx.out,hy.out] at a4;obtain ⟨a6,a8,a0⟩:=a4;refine Cx (S:=fun w'=>cI w' g (a*3) x.b/\cI w' g (a*3+1) x.s/\cU w' g (a*3+2) x.u/\cI w' g (p*3) y.b/\cI w' g (p*3+1) y.s/\cU w' g (p*3+2) y.u) 13 (by kernel_rfl) ?_;refine tkG 0 ⟨af,aa,ad,ac,ab,ae⟩ (h:=tkG 1 ⟨af,aa,ad,ac,ab,ae⟩ (h:=?_));simp only [zl];refine tkP 2 ⟨af,aa,ad,ac,ab,ae⟩ ?_;simp only [zl];refine tkP 3 ⟨af,aa,ad,ac,ab,ae⟩ ?_;simp only [zl];have uu:=aI af (aI aa (aI ad (aI ac (aI ab ae))));refine tkG 4 uu (h:=tkG 5 uu (h:=tkG 6 uu (h:=tkG 7 uu (h:=?_))));clear uu;simp only [zl];refine tkP 8 ⟨af,aa,ad,ac,ab,ae⟩ ?_;simp only [zl];refine tkP 9 ⟨af,aa,ad,ac,ab,ae⟩ ?_;simp only [zl];refine tkP 10 ⟨af,aa,ad,ac,ab,ae⟩ ?_;simp only [zl];refine tkG 11 ⟨af,aa,ad,ac,ab,ae⟩ (h:=tkG 12 ⟨af,aa,ad,ac,ab,ae⟩ (h:=?_));simp only [zl];refine Cs (by kernel_rfl) ?_;refine oG 13 (fun K hK=> ?_);go_simp;refine hK.out _ _ trivial (fun hZ=> ?_);clear hZ hK K;try simp only [Ad,zl]
 refine tkH 14 trivial (h:=?_);simp only [zl];refine oG 15 (fun K hK=> ?_);go_simp;refine hK.out _ _ trivial (fun hZ=> ?_);clear hZ hK K;try simp only [Ad,zl]
 refine oD ?_;go_simp;clear a6 a8;generalize Cp (Cp w.drew g (a*3) y) g (p*3) x=wz at*;have bc:=lh a0;clear a0 hS HS F0 ah ag af aa ad ac ab ae hx hy;have bf:(swp d a p).size=n:=by rw [size_swp];exact hdn
 generalize swp d a p=D at*;clear hdn
 go_upto_block 0 with (fail)
 go_cut [12] from 32 to 49 (fun s wc=>∃k:Nat,s=.int .i64 (k:Int)/\Hid (k=scanUp (pU (Ab cmp) D a) D (b-1) (a+1))/\Hid (Srt w0 wc base (some ⟨g,0,none⟩) c D))
 case first=>
  go_wp2_with fail
  go_loopw [12] (fun v wr=>∃k:Nat,v=.int .i64 (k:Int)/\a+1<=k/\k<=b/\Hid (Srt w0 wr base (some ⟨g,0,none⟩) c D)/\Hid (scanUp (pU (Ab cmp) D a) D (b-1) k=scanUp (pU (Ab cmp) D a) D (b-1) (a+1))) (fun v _=>b+1-(intOf v).toNat)
  case atStart=>exact ⟨(a+1),rfl,by omega,by omega,bc,rfl⟩
  case round=>
   clear bc;obtain ⟨k,rfl,bo,bh,hS,ax⟩:=hrel
   by_cases aw:k<=(b-1)
   ·
    obtain ⟨k1,k2,k3⟩:=ix k n
    have e1:=iw ((k:Int)+1);have u0:decide ((k:Int)<=(((b-1):Nat):Int))=true:=decide_eq_true (by omega);have ba:decide (k<=(b-1))=true:=decide_eq_true aw;go_upto_region 3 with (fail)
    obtain ⟨x,hx⟩:=Aa D[k]!;obtain ⟨y,hy⟩:=Aa D[a]!;have ah:=hS.out.cells (i:=k) (by omega);have ag:=hS.out.cells (i:=a) (by omega);rw [hx.out] at ah;rw [hy.out] at ag;have af:cI wr g (k*3) x.b:=ah.1;have aa:cI wr g (k*3+1) x.s:=ah.2.1;have ad:cU wr g (k*3+2) x.u:=ah.2.2;have ac:cI wr g (a*3) y.b:=ag.1;have ab:cI wr g (a*3+1) y.s:=ag.2.1;have ae:cU wr g (a*3+2) y.u:=ag.2.2;have F0:Fr Non wr wr.drew:=(Fr.refl Non wr).drew;have kc:=lh (fun (v:World) (hv:Fr Non wr v)=>HC.out.tells x y v (hS.out.fr.trans hv zr) (by rw [<- hx.out];exact hS.out.okAt (by omega)) (by rw [<- hy.out];exact hS.out.okAt (by omega)))
    rcases zb (decide (cmp x y<0)) with cT|cT
    ·
     have au:pU (Ab cmp) D a D[k]! =true:=by unfold pU;rw [hx.out,hy.out];exact cT
     have az:Hid (scanUp (pU (Ab cmp) D a) D (b-1) (k+1)=scanUp (pU (Ab cmp) D a) D (b-1) (a+1)):=by
      show _=_;rw [<- ax.out];exact (Ud aw au).symm
     clear au;refine wp_region_held_drew (S:=fun w'=>cI w' g (k*3) x.b/\cI w' g (k*3+1) x.s/\cU w' g (k*3+2) x.u/\cI w' g (a*3) y.b/\cI w' g (a*3+1) y.s/\cU w' g (a*3+2) y.u) (by kernel_rfl) ⟨af,aa,ad,ac,ab,ae⟩ (fun hHeld=> ?_);clear hHeld;have uu:=aI af (aI aa (aI ad (aI ac (aI ab ae))));refine tkH 0 uu (h:=tkH 1 uu (h:=tkH 2 uu (h:=tkH 3 uu (h:=tkH 4 uu (h:=tkH 5 uu (h:=tkH 6 uu (h:=tkH 7 uu (h:=tkH 8 uu (h:=tkH 9 uu (h:=tkH 10 uu (h:=tkH 11 uu (h:=?_))))))))))));clear uu;simp only [zl];refine tkH 12 ⟨af,aa,ad,ac,ab,ae⟩ (h:=?_);simp only [zl];refine oG 13 (fun K hK=> ?_);go_simp;go_wp2_with fail;refine (kc.out _ F0).mono ?_;rintro _ v1 ⟨rfl,f1⟩;have F1:=F0.trans f1 zr;obtain ⟨aq,ak,ap,aj,ao,ai⟩:=zk6 F1 af aa ad ac ab ae;refine hK.out _ _ ⟨aq,ak,ap,aj,ao,ai⟩ (fun hZ=> ?_);clear hZ hK K;try simp only [Ad,zl]
     refine tkH 14 ⟨aq,ak,ap,aj,ao,ai⟩ (h:=tkH 15 ⟨aq,ak,ap,aj,ao,ai⟩ (h:=?_));simp only [zl];refine oD ?_;go_simp;have av:=lh (hS.out.non F1);clear af aa ad ac ab ae aq ak ap aj ao ai ah ag;go_wp2_with fail;go_roundw
     case rel=>exact ⟨k+1,by go_num,by omega,by omega,av,az⟩
     case measure=>first|(simp [intOf];done)|(simp [intOf];omega)
    ·
     have au:pU (Ab cmp) D a D[k]! =false:=by unfold pU;rw [hx.out,hy.out];exact cT
     have hd:Hid (k=scanUp (pU (Ab cmp) D a) D (b-1) (a+1)):=by show _=_;rw [<- ax.out];exact (Ku (.inr au)).symm
     clear au;refine wp_region_held_drew (S:=fun w'=>cI w' g (k*3) x.b/\cI w' g (k*3+1) x.s/\cU w' g (k*3+2) x.u/\cI w' g (a*3) y.b/\cI w' g (a*3+1) y.s/\cU w' g (a*3+2) y.u) (by kernel_rfl) ⟨af,aa,ad,ac,ab,ae⟩ (fun hHeld=> ?_);clear hHeld;have uu:=aI af (aI aa (aI ad (aI ac (aI ab ae))));refine tkH 0 uu (h:=tkH 1 uu (h:=tkH 2 uu (h:=tkH 3 uu (h:=tkH 4 uu (h:=tkH 5 uu (h:=tkH 6 uu (h:=tkH 7 uu (h:=tkH 8 uu (h:=tkH 9 uu (h:=tkH 10 uu (h:=tkH 11 uu (h:=?_))))))))))));clear uu;simp only [zl];refine tkH 12 ⟨af,aa,ad,ac,ab,ae⟩ (h:=?_);simp only [zl];refine oG 13 (fun K hK=> ?_);go_simp;go_wp2_with fail;refine (kc.out _ F0).mono ?_;rintro _ v1 ⟨rfl,f1⟩;have F1:=F0.trans f1 zr;obtain ⟨aq,ak,ap,aj,ao,ai⟩:=zk6 F1 af aa ad ac ab ae;refine hK.out _ _ ⟨aq,ak,ap,aj,ao,ai⟩ (fun hZ=> ?_);clear hZ hK K;try simp only [Ad,zl]
     refine tkH 14 ⟨aq,ak,ap,aj,ao,ai⟩ (h:=tkH 15 ⟨aq,ak,ap,aj,ao,ai⟩ (h:=?_));simp only [zl];refine oD ?_;go_simp;have av:=lh (hS.out.non F1);clear af aa ad ac ab ae aq ak ap aj ao ai ah ag;go_wp2_with fail;go_meet;exact ⟨k,rfl,hd,av⟩
   ·
    have hd:Hid (k=scanUp (pU (Ab cmp) D a) D (b-1) (a+1)):=by show _=_;rw [<- ax.out];exact (Ku (.inl aw)).symm
    have u0:decide ((k:Int)<=(((b-1):Nat):Int))=false:=decide_eq_false (by omega);have ba:decide (k<=(b-1))=false:=decide_eq_false aw;have F0:Fr Non wr wr.drew:=(Fr.refl Non wr).drew;have av:=lh (hS.out.non F0);go_upto_region 3 with (fail)
    have Z0:True:=trivial;refine wp_region_held_drew (S:=fun w'=>True) (by kernel_rfl) Z0 (fun hHeld=> ?_);clear hHeld;refine tkH 0 Z0 (h:=tkH 1 Z0 (h:=tkH 2 Z0 (h:=tkH 3 Z0 (h:=skH 4 Z0 (h:=skH 5 Z0 (h:=skH 6 Z0 (h:=skH 7 Z0 (h:=skH 8 Z0 (h:=skH 9 Z0 (h:=skH 10 Z0 (h:=skH 11 Z0 (h:=?_))))))))))));simp only [zl];refine skH 12 Z0 (h:=skH 13 Z0 (h:=skH 14 Z0 (h:=tkH 15 Z0 (h:=?_))));simp only [zl];refine oD ?_;go_simp;clear Z0;go_wp2_with fail;go_meet;exact ⟨k,rfl,hd,av⟩
 case rest=>
  obtain ⟨I,rfl,hI,a9⟩:=hcut;clear bc;generalize wc=wx at*;have a5:=Uf (lt:=Ab cmp) (D:=D) (a:=a) (i:=(a+1)) (j:=(b-1)) (by omega) (by omega);have ar:=bi.out (a+1) (b-1) D;rw [<- hI.out] at a5 ar;have bk:=a5.1;have bn:=a5.2.1
  go_upto_block 2 with (fail)
  go_cut [13] from 50 to 68 (fun s wc=>∃k:Nat,s=.int .i64 (k:Int)/\Hid (k=scanDown (pD (Ab cmp) D a) D I (b-1))/\Hid (Srt w0 wc base (some ⟨g,0,none⟩) c D))
  case first=>
   go_wp2_with fail
   go_loopw [13] (fun v wr=>∃k:Nat,v=.int .i64 (k:Int)/\k<=(b-1)/\Hid (Srt w0 wr base (some ⟨g,0,none⟩) c D)/\Hid (scanDown (pD (Ab cmp) D a) D I k=scanDown (pD (Ab cmp) D a) D I (b-1))) (fun v _=>(intOf v).toNat)
   case atStart=>exact ⟨(b-1),rfl,Ax4 _,a9,rfl⟩
   case round=>
    clear a9;obtain ⟨k,rfl,bh,hS,ax⟩:=hrel
    by_cases aw:I<=k
    ·
     obtain ⟨kp,rfl⟩:∃kp,k=kp+1:=⟨k-1,by omega⟩;have jc:((kp+1:Nat):Int)=(kp:Int)+1:=by omega
     rw [jc];have k1:(0:Int)<=(kp:Int)+1:=by omega
     have k2:(kp:Int)+1<n:=by omega
     have k3:((kp:Int)+1).toNat=kp+1:=by omega
     have wj:=iw (kp:Int);have bl:IntKind.i64.wrap ((kp:Int)+1-1)=(kp:Int):=by rw [show (kp:Int)+1-1=kp by omega];exact wj
     have u0:decide (((I:Nat):Int)<=(kp:Int)+1)=true:=decide_eq_true (by omega);have ba:decide (I<=kp+1)=true:=decide_eq_true aw;go_upto_region 5 with (fail)
     obtain ⟨x,hx⟩:=Aa D[kp+1]!;obtain ⟨y,hy⟩:=Aa D[a]!;have ah:=hS.out.cells (i:=(kp+1)) (by omega);have ag:=hS.out.cells (i:=a) (by omega);rw [hx.out] at ah;rw [hy.out] at ag;have af:cI wr g ((kp+1)*3) x.b:=ah.1;have aa:cI wr g ((kp+1)*3+1) x.s:=ah.2.1;have ad:cU wr g ((kp+1)*3+2) x.u:=ah.2.2;have ac:cI wr g (a*3) y.b:=ag.1;have ab:cI wr g (a*3+1) y.s:=ag.2.1;have ae:cU wr g (a*3+2) y.u:=ag.2.2;have F0:Fr Non wr wr.drew:=(Fr.refl Non wr).drew;have kc:=lh (fun (v:World) (hv:Fr Non wr v)=>HC.out.tells x y v (hS.out.fr.trans hv zr) (by rw [<- hx.out];exact hS.out.okAt (by omega)) (by rw [<- hy.out];exact hS.out.okAt (by omega)))
     rcases zb (decide (cmp x y<0)) with cT|cT
     ·
      have au:pD (Ab cmp) D a D[kp+1]! =false:=by unfold pD;rw [hx.out,hy.out,show Ab cmp x y=true from cT];rfl
      have hd:Hid (kp+1=scanDown (pD (Ab cmp) D a) D I (b-1)):=by show _=_;rw [<- ax.out];exact (Kv (.inr au)).symm
      clear au;refine wp_region_held_drew (S:=fun w'=>cI w' g ((kp+1)*3) x.b/\cI w' g ((kp+1)*3+1) x.s/\cU w' g ((kp+1)*3+2) x.u/\cI w' g (a*3) y.b/\cI w' g (a*3+1) y.s/\cU w' g (a*3+2) y.u) (by kernel_rfl) ⟨af,aa,ad,ac,ab,ae⟩ (fun hHeld=> ?_);clear hHeld;have uu:=aI af (aI aa (aI ad (aI ac (aI ab ae))));refine tkH 0 uu (h:=tkH 1 uu (h:=tkH 2 uu (h:=tkH 3 uu (h:=tkH 4 uu (h:=tkH 5 uu (h:=tkH 6 uu (h:=tkH 7 uu (h:=tkH 8 uu (h:=tkH 9 uu (h:=tkH 10 uu (h:=tkH 11 uu (h:=?_))))))))))));clear uu;simp only [zl];refine tkH 12 ⟨af,aa,ad,ac,ab,ae⟩ (h:=?_);simp only [zl];refine oG 13 (fun K hK=> ?_);go_simp;go_wp2_with fail;refine (kc.out _ F0).mono ?_;rintro _ v1 ⟨rfl,f1⟩;have F1:=F0.trans f1 zr;obtain ⟨aq,ak,ap,aj,ao,ai⟩:=zk6 F1 af aa ad ac ab ae;refine hK.out _ _ ⟨aq,ak,ap,aj,ao,ai⟩ (fun hZ=> ?_);clear hZ hK K;try simp only [Ad,zl]
      refine tkH 14 ⟨aq,ak,ap,aj,ao,ai⟩ (h:=tkH 15 ⟨aq,ak,ap,aj,ao,ai⟩ (h:=tkH 16 ⟨aq,ak,ap,aj,ao,ai⟩ (h:=?_)));simp only [zl];refine oD ?_;go_simp;have av:=lh (hS.out.non F1);clear af aa ad ac ab ae aq ak ap aj ao ai ah ag;go_wp2_with fail;go_meet;exact ⟨kp+1,by go_num,hd,av⟩
     ·
      have au:pD (Ab cmp) D a D[kp+1]! =true:=by unfold pD;rw [hx.out,hy.out,show Ab cmp x y=false from cT];rfl
      have az:Hid (scanDown (pD (Ab cmp) D a) D I kp=scanDown (pD (Ab cmp) D a) D I (b-1)):=by
       show _=_;rw [<- ax.out];exact (Ue aw au).symm
      clear au;refine wp_region_held_drew (S:=fun w'=>cI w' g ((kp+1)*3) x.b/\cI w' g ((kp+1)*3+1) x.s/\cU w' g ((kp+1)*3+2) x.u/\cI w' g (a*3) y.b/\cI w' g (a*3+1) y.s/\cU w' g (a*3+2) y.u) (by kernel_rfl) ⟨af,aa,ad,ac,ab,ae⟩ (fun hHeld=> ?_);clear hHeld;have uu:=aI af (aI aa (aI ad (aI ac (aI ab ae))));refine tkH 0 uu (h:=tkH 1 uu (h:=tkH 2 uu (h:=tkH 3 uu (h:=tkH 4 uu (h:=tkH 5 uu (h:=tkH 6 uu (h:=tkH 7 uu (h:=tkH 8 uu (h:=tkH 9 uu (h:=tkH 10 uu (h:=tkH 11 uu (h:=?_))))))))))));clear uu;simp only [zl];refine tkH 12 ⟨af,aa,ad,ac,ab,ae⟩ (h:=?_);simp only [zl];refine oG 13 (fun K hK=> ?_);go_simp;go_wp2_with fail;refine (kc.out _ F0).mono ?_;rintro _ v1 ⟨rfl,f1⟩;have F1:=F0.trans f1 zr;obtain ⟨aq,ak,ap,aj,ao,ai⟩:=zk6 F1 af aa ad ac ab ae;refine hK.out _ _ ⟨aq,ak,ap,aj,ao,ai⟩ (fun hZ=> ?_);clear hZ hK K;try simp only [Ad,zl]
      refine tkH 14 ⟨aq,ak,ap,aj,ao,ai⟩ (h:=tkH 15 ⟨aq,ak,ap,aj,ao,ai⟩ (h:=tkH 16 ⟨aq,ak,ap,aj,ao,ai⟩ (h:=?_)));simp only [zl];refine oD ?_;go_simp;have av:=lh (hS.out.non F1);clear af aa ad ac ab ae aq ak ap aj ao ai ah ag;go_wp2_with fail;go_roundw
      case rel=>exact ⟨kp,by go_num,by omega,av,az⟩
      case measure=>first|(simp [intOf];done)|(simp [intOf];omega)
    ·
     have hd:Hid (k=scanDown (pD (Ab cmp) D a) D I (b-1)):=by show _=_;rw [<- ax.out];exact (Kv (.inl aw)).symm
     have u0:decide (((I:Nat):Int)<=(k:Int))=false:=decide_eq_false (by omega);have ba:decide (I<=k)=false:=decide_eq_false aw;have F0:Fr Non wr wr.drew:=(Fr.refl Non wr).drew;have av:=lh (hS.out.non F0);go_upto_region 5 with (fail)
     have Z0:True:=trivial;refine wp_region_held_drew (S:=fun w'=>True) (by kernel_rfl) Z0 (fun hHeld=> ?_);clear hHeld;refine tkH 0 Z0 (h:=tkH 1 Z0 (h:=tkH 2 Z0 (h:=tkH 3 Z0 (h:=skH 4 Z0 (h:=skH 5 Z0 (h:=skH 6 Z0 (h:=skH 7 Z0 (h:=skH 8 Z0 (h:=skH 9 Z0 (h:=skH 10 Z0 (h:=skH 11 Z0 (h:=?_))))))))))));simp only [zl];refine skH 12 Z0 (h:=skH 13 Z0 (h:=skH 14 Z0 (h:=skH 15 Z0 (h:=tkH 16 Z0 (h:=?_)))));simp only [zl];refine oD ?_;go_simp;clear Z0;go_wp2_with fail;go_meet;exact ⟨k,rfl,hd,av⟩
  case rest=>
   obtain ⟨J,rfl,hJ,ay⟩:=hcut;clear a9 hI;generalize wc=wy at*;rw [<- hJ.out] at a5 ar;obtain ⟨_,_,bm,bj,bb⟩:=a5;clear hJ;have I1:(0:Int)<=I:=by omega
   have I3:(I:Int).toNat=I:=by omega
   obtain ⟨J1,J2,J3⟩:=ix J n
   rw [bd.out] at ar
   by_cases hgt:I>J
   ·
    rw [if_pos hgt] at ar;replace ar:=lh ar;have u0:decide ((I:Int)>(J:Int))=true:=decide_eq_true (by omega);have u1:decide ((J:Int)<(I:Int))=true:=u0;have u2:decide (J<I)=true:=decide_eq_true hgt;go_upto_region 8 with (fail)
    obtain ⟨x,hx⟩:=Aa D[J]!;obtain ⟨y,hy⟩:=Aa D[a]!;have ah:=ay.out.cells (i:=J) (by omega);have ag:=ay.out.cells (i:=a) (by omega);rw [hx.out] at ah;rw [hy.out] at ag;have af:cI wy g (J*3) x.b:=ah.1;have aa:cI wy g (J*3+1) x.s:=ah.2.1;have ad:cU wy g (J*3+2) x.u:=ah.2.2;have ac:cI wy g (a*3) y.b:=ag.1;have ab:cI wy g (a*3+1) y.s:=ag.2.1;have ae:cU wy g (a*3+2) y.u:=ag.2.2;have F0:Fr Non wy wy.drew:=(Fr.refl Non wy).drew;have a4:=(show Srt w0 wy.drew base _ c _ from ay.out.non F0).swap (i:=J) (j:=a) (by omega) (by omega);rw [hx.out,hy.out] at a4;obtain ⟨a6,a8,a0⟩:=a4;refine Cx (S:=fun w'=>cI w' g (J*3) x.b/\cI w' g (J*3+1) x.s/\cU w' g (J*3+2) x.u/\cI w' g (a*3) y.b/\cI w' g (a*3+1) y.s/\cU w' g (a*3+2) y.u) 13 (by kernel_rfl) ?_;refine tkG 0 ⟨af,aa,ad,ac,ab,ae⟩ (h:=tkG 1 ⟨af,aa,ad,ac,ab,ae⟩ (h:=?_));simp only [zl];refine tkP 2 ⟨af,aa,ad,ac,ab,ae⟩ ?_;simp only [zl];refine tkP 3 ⟨af,aa,ad,ac,ab,ae⟩ ?_;simp only [zl];have uu:=aI af (aI aa (aI ad (aI ac (aI ab ae))));refine tkG 4 uu (h:=tkG 5 uu (h:=tkG 6 uu (h:=tkG 7 uu (h:=?_))));clear uu;simp only [zl];refine tkP 8 ⟨af,aa,ad,ac,ab,ae⟩ ?_;simp only [zl];refine tkP 9 ⟨af,aa,ad,ac,ab,ae⟩ ?_;simp only [zl];refine tkP 10 ⟨af,aa,ad,ac,ab,ae⟩ ?_;simp only [zl];refine tkG 11 ⟨af,aa,ad,ac,ab,ae⟩ (h:=tkG 12 ⟨af,aa,ad,ac,ab,ae⟩ (h:=?_));simp only [zl];refine Cs (by kernel_rfl) ?_;refine oG 13 (fun K hK=> ?_);go_simp;refine hK.out _ _ trivial (fun hZ=> ?_);clear hZ hK K;try simp only [Ad,zl]
    refine tkH 14 trivial (h:=?_);simp only [zl];refine oG 15 (fun K hK=> ?_);go_simp;refine hK.out _ _ trivial (fun hZ=> ?_);clear hZ hK K;try simp only [Ad,zl]
    refine oD ?_;go_simp;clear a6 a8;generalize Cp (Cp wy.drew g (J*3) y) g (a*3) x=wz at*;have hd:=lh (a7.out wz J D true ar.out.symm a0);clear a0 ar a7;go_wp2_with fail;exact hd.out
   ·
    rw [if_neg hgt] at ar;have aw:=bb hgt;have u0:decide ((I:Int)>(J:Int))=false:=decide_eq_false (by omega);have u1:decide ((J:Int)<(I:Int))=false:=u0;have u2:decide (J<I)=false:=decide_eq_false hgt;have I2:(I:Int)<n:=by omega
    have eI:IntKind.i64.wrap ((I:Int)+1)=((I+1:Nat):Int):=by rw [IntWalk.i64_in _ (by omega)];omega
    have eJ:IntKind.i64.wrap ((J:Int)-1)=((J-1:Nat):Int):=by rw [IntWalk.i64_in _ (by omega)];omega
    replace ar:=lh ar;go_upto_region 10 with (fail)
    obtain ⟨x,hx⟩:=Aa D[I]!;obtain ⟨y,hy⟩:=Aa D[J]!;have ah:=ay.out.cells (i:=I) (by omega);have ag:=ay.out.cells (i:=J) (by omega);rw [hx.out] at ah;rw [hy.out] at ag;have af:cI wy g (I*3) x.b:=ah.1;have aa:cI wy g (I*3+1) x.s:=ah.2.1;have ad:cU wy g (I*3+2) x.u:=ah.2.2;have ac:cI wy g (J*3) y.b:=ag.1;have ab:cI wy g (J*3+1) y.s:=ag.2.1;have ae:cU wy g (J*3+2) y.u:=ag.2.2;have F0:Fr Non wy wy.drew:=(Fr.refl Non wy).drew;have a4:=(show Srt w0 wy.drew base _ c _ from ay.out.non F0).swap (i:=I) (j:=J) (by omega) (by omega);rw [hx.out,hy.out] at a4;obtain ⟨a6,a8,a0⟩:=a4;refine Cx (S:=fun w'=>cI w' g (I*3) x.b/\cI w' g (I*3+1) x.s/\cU w' g (I*3+2) x.u/\cI w' g (J*3) y.b/\cI w' g (J*3+1) y.s/\cU w' g (J*3+2) y.u) 13 (by kernel_rfl) ?_;refine tkG 0 ⟨af,aa,ad,ac,ab,ae⟩ (h:=tkG 1 ⟨af,aa,ad,ac,ab,ae⟩ (h:=?_));simp only [zl];refine tkP 2 ⟨af,aa,ad,ac,ab,ae⟩ ?_;simp only [zl];refine tkP 3 ⟨af,aa,ad,ac,ab,ae⟩ ?_;simp only [zl];have uu:=aI af (aI aa (aI ad (aI ac (aI ab ae))));refine tkG 4 uu (h:=tkG 5 uu (h:=tkG 6 uu (h:=tkG 7 uu (h:=?_))));clear uu;simp only [zl];refine tkP 8 ⟨af,aa,ad,ac,ab,ae⟩ ?_;simp only [zl];refine tkP 9 ⟨af,aa,ad,ac,ab,ae⟩ ?_;simp only [zl];refine tkP 10 ⟨af,aa,ad,ac,ab,ae⟩ ?_;simp only [zl];refine tkG 11 ⟨af,aa,ad,ac,ab,ae⟩ (h:=tkG 12 ⟨af,aa,ad,ac,ab,ae⟩ (h:=?_));simp only [zl];refine Cs (by kernel_rfl) ?_;refine oG 13 (fun K hK=> ?_);go_simp;refine hK.out _ _ trivial (fun hZ=> ?_);clear hZ hK K;try simp only [Ad,zl]
    refine tkH 14 trivial (h:=?_);simp only [zl];refine oG 15 (fun K hK=> ?_);go_simp;refine hK.out _ _ trivial (fun hZ=> ?_);clear hZ hK K;try simp only [Ad,zl]
    refine oD ?_;go_simp;clear a6 a8;generalize Cp (Cp wy.drew g (I*3) y) g (J*3) x=wz at*;have be:=lh a0;have bg:(swp D I J).size=n:=by rw [size_swp];exact bf
    clear a0 ay ah ag af aa ad ac ab ae hx hy F0 bd;go_wp2_with fail
    go_loopw [12,13] (fun v v2 wr=>∃(i j:Nat) (D2:Array Id),v=.int .i64 (i:Int)/\v2=.int .i64 (j:Int)/\a+1<=i/\i<=j+1/\j<b/\D2.size=n/\Hid (Srt w0 wr base (some ⟨g,0,none⟩) c D2)/\Hid (PL=partLoop (Ab cmp) a i j D2)) (fun v v2 _=>(intOf v2).toNat+1-(intOf v).toNat)
    case atStart=>exact ⟨I+1,J-1,swp D I J,rfl,rfl,by omega,by omega,by omega,bg,be,ar⟩
    case round=>
     clear be bg ar bf eI eJ u0 u1 u2;obtain ⟨i,j,D2,rfl,rfl,bs,bt,bp,bf,bc,bd⟩:=hrel;generalize wr=wo at*
     go_upto_block 6 with (fail)
     go_cut [12] from 105 to 122 (fun s wc=>∃k:Nat,s=.int .i64 (k:Int)/\Hid (k=scanUp (pU (Ab cmp) D2 a) D2 j i)/\Hid (Srt w0 wc base (some ⟨g,0,none⟩) c D2))
     case first=>
      go_wp2_with fail
      go_loopw [12] (fun v wr=>∃k:Nat,v=.int .i64 (k:Int)/\a+1<=k/\k<=b/\Hid (Srt w0 wr base (some ⟨g,0,none⟩) c D2)/\Hid (scanUp (pU (Ab cmp) D2 a) D2 j k=scanUp (pU (Ab cmp) D2 a) D2 j i)) (fun v _=>b+1-(intOf v).toNat)
      case atStart=>exact ⟨i,rfl,by omega,by omega,bc,rfl⟩
      case round=>
       clear bc;obtain ⟨k,rfl,bo,bh,hS,ax⟩:=hrel
       by_cases aw:k<=j
       ·
        obtain ⟨k1,k2,k3⟩:=ix k n
        have e1:=iw ((k:Int)+1);have u0:decide ((k:Int)<=((j:Nat):Int))=true:=decide_eq_true (by omega);have ba:decide (k<=j)=true:=decide_eq_true aw;go_upto_region 13 with (fail)
        obtain ⟨x,hx⟩:=Aa D2[k]!;obtain ⟨y,hy⟩:=Aa D2[a]!;have ah:=hS.out.cells (i:=k) (by omega);have ag:=hS.out.cells (i:=a) (by omega);rw [hx.out] at ah;rw [hy.out] at ag;have af:cI wr g (k*3) x.b:=ah.1;have aa:cI wr g (k*3+1) x.s:=ah.2.1;have ad:cU wr g (k*3+2) x.u:=ah.2.2;have ac:cI wr g (a*3) y.b:=ag.1;have ab:cI wr g (a*3+1) y.s:=ag.2.1;have ae:cU wr g (a*3+2) y.u:=ag.2.2;have F0:Fr Non wr wr.drew:=(Fr.refl Non wr).drew;have kc:=lh (fun (v:World) (hv:Fr Non wr v)=>HC.out.tells x y v (hS.out.fr.trans hv zr) (by rw [<- hx.out];exact hS.out.okAt (by omega)) (by rw [<- hy.out];exact hS.out.okAt (by omega)))
        rcases zb (decide (cmp x y<0)) with cT|cT
        ·
         have au:pU (Ab cmp) D2 a D2[k]! =true:=by unfold pU;rw [hx.out,hy.out];exact cT
         have az:Hid (scanUp (pU (Ab cmp) D2 a) D2 j (k+1)=scanUp (pU (Ab cmp) D2 a) D2 j i):=by
          show _=_;rw [<- ax.out];exact (Ud aw au).symm
         clear au;refine wp_region_held_drew (S:=fun w'=>cI w' g (k*3) x.b/\cI w' g (k*3+1) x.s/\cU w' g (k*3+2) x.u/\cI w' g (a*3) y.b/\cI w' g (a*3+1) y.s/\cU w' g (a*3+2) y.u) (by kernel_rfl) ⟨af,aa,ad,ac,ab,ae⟩ (fun hHeld=> ?_);clear hHeld;have uu:=aI af (aI aa (aI ad (aI ac (aI ab ae))));refine tkH 0 uu (h:=tkH 1 uu (h:=tkH 2 uu (h:=tkH 3 uu (h:=tkH 4 uu (h:=tkH 5 uu (h:=tkH 6 uu (h:=tkH 7 uu (h:=tkH 8 uu (h:=tkH 9 uu (h:=tkH 10 uu (h:=tkH 11 uu (h:=?_))))))))))));clear uu;simp only [zl];refine tkH 12 ⟨af,aa,ad,ac,ab,ae⟩ (h:=?_);simp only [zl];refine oG 13 (fun K hK=> ?_);go_simp;go_wp2_with fail;refine (kc.out _ F0).mono ?_;rintro _ v1 ⟨rfl,f1⟩;have F1:=F0.trans f1 zr;obtain ⟨aq,ak,ap,aj,ao,ai⟩:=zk6 F1 af aa ad ac ab ae;refine hK.out _ _ ⟨aq,ak,ap,aj,ao,ai⟩ (fun hZ=> ?_);clear hZ hK K;try simp only [Ad,zl]
         refine tkH 14 ⟨aq,ak,ap,aj,ao,ai⟩ (h:=tkH 15 ⟨aq,ak,ap,aj,ao,ai⟩ (h:=?_));simp only [zl];refine oD ?_;go_simp;have av:=lh (hS.out.non F1);clear af aa ad ac ab ae aq ak ap aj ao ai ah ag;go_wp2_with fail;go_roundw
         case rel=>exact ⟨k+1,by go_num,by omega,by omega,av,az⟩
         case measure=>first|(simp [intOf];done)|(simp [intOf];omega)
        ·
         have au:pU (Ab cmp) D2 a D2[k]! =false:=by unfold pU;rw [hx.out,hy.out];exact cT
         have hd:Hid (k=scanUp (pU (Ab cmp) D2 a) D2 j i):=by show _=_;rw [<- ax.out];exact (Ku (.inr au)).symm
         clear au;refine wp_region_held_drew (S:=fun w'=>cI w' g (k*3) x.b/\cI w' g (k*3+1) x.s/\cU w' g (k*3+2) x.u/\cI w' g (a*3) y.b/\cI w' g (a*3+1) y.s/\cU w' g (a*3+2) y.u) (by kernel_rfl) ⟨af,aa,ad,ac,ab,ae⟩ (fun hHeld=> ?_);clear hHeld;have uu:=aI af (aI aa (aI ad (aI ac (aI ab ae))));refine tkH 0 uu (h:=tkH 1 uu (h:=tkH 2 uu (h:=tkH 3 uu (h:=tkH 4 uu (h:=tkH 5 uu (h:=tkH 6 uu (h:=tkH 7 uu (h:=tkH 8 uu (h:=tkH 9 uu (h:=tkH 10 uu (h:=tkH 11 uu (h:=?_))))))))))));clear uu;simp only [zl];refine tkH 12 ⟨af,aa,ad,ac,ab,ae⟩ (h:=?_);simp only [zl];refine oG 13 (fun K hK=> ?_);go_simp;go_wp2_with fail;refine (kc.out _ F0).mono ?_;rintro _ v1 ⟨rfl,f1⟩;have F1:=F0.trans f1 zr;obtain ⟨aq,ak,ap,aj,ao,ai⟩:=zk6 F1 af aa ad ac ab ae;refine hK.out _ _ ⟨aq,ak,ap,aj,ao,ai⟩ (fun hZ=> ?_);clear hZ hK K;try simp only [Ad,zl]
         refine tkH 14 ⟨aq,ak,ap,aj,ao,ai⟩ (h:=tkH 15 ⟨aq,ak,ap,aj,ao,ai⟩ (h:=?_));simp only [zl];refine oD ?_;go_simp;have av:=lh (hS.out.non F1);clear af aa ad ac ab ae aq ak ap aj ao ai ah ag;go_wp2_with fail;go_meet;exact ⟨k,rfl,hd,av⟩
       ·
        have hd:Hid (k=scanUp (pU (Ab cmp) D2 a) D2 j i):=by show _=_;rw [<- ax.out];exact (Ku (.inl aw)).symm
        have u0:decide ((k:Int)<=((j:Nat):Int))=false:=decide_eq_false (by omega);have ba:decide (k<=j)=false:=decide_eq_false aw;have F0:Fr Non wr wr.drew:=(Fr.refl Non wr).drew;have av:=lh (hS.out.non F0);go_upto_region 13 with (fail)
        have Z0:True:=trivial;refine wp_region_held_drew (S:=fun w'=>True) (by kernel_rfl) Z0 (fun hHeld=> ?_);clear hHeld;refine tkH 0 Z0 (h:=tkH 1 Z0 (h:=tkH 2 Z0 (h:=tkH 3 Z0 (h:=skH 4 Z0 (h:=skH 5 Z0 (h:=skH 6 Z0 (h:=skH 7 Z0 (h:=skH 8 Z0 (h:=skH 9 Z0 (h:=skH 10 Z0 (h:=skH 11 Z0 (h:=?_))))))))))));simp only [zl];refine skH 12 Z0 (h:=skH 13 Z0 (h:=skH 14 Z0 (h:=tkH 15 Z0 (h:=?_))));simp only [zl];refine oD ?_;go_simp;clear Z0;go_wp2_with fail;go_meet;exact ⟨k,rfl,hd,av⟩
     case rest=>
      obtain ⟨I,rfl,hI,a9⟩:=hcut;clear bc;generalize wc=wx at*;have a5:=Uf (lt:=Ab cmp) (D:=D2) (a:=a) (i:=i) (j:=j) (by omega) (by omega);have ar:=bi.out i j D2;rw [<- hI.out] at a5 ar;have bk:=a5.1;have bn:=a5.2.1
      go_upto_block 8 with (fail)
      go_cut [13] from 123 to 141 (fun s wc=>∃k:Nat,s=.int .i64 (k:Int)/\Hid (k=scanDown (pD (Ab cmp) D2 a) D2 I j)/\Hid (Srt w0 wc base (some ⟨g,0,none⟩) c D2))
      case first=>
       go_wp2_with fail
       go_loopw [13] (fun v wr=>∃k:Nat,v=.int .i64 (k:Int)/\k<=j/\Hid (Srt w0 wr base (some ⟨g,0,none⟩) c D2)/\Hid (scanDown (pD (Ab cmp) D2 a) D2 I k=scanDown (pD (Ab cmp) D2 a) D2 I j)) (fun v _=>(intOf v).toNat)
       case atStart=>exact ⟨j,rfl,Ax4 _,a9,rfl⟩
       case round=>
        clear a9;obtain ⟨k,rfl,bh,hS,ax⟩:=hrel
        by_cases aw:I<=k
        ·
         obtain ⟨kp,rfl⟩:∃kp,k=kp+1:=⟨k-1,by omega⟩;have jc:((kp+1:Nat):Int)=(kp:Int)+1:=by omega
         rw [jc];have k1:(0:Int)<=(kp:Int)+1:=by omega
         have k2:(kp:Int)+1<n:=by omega
         have k3:((kp:Int)+1).toNat=kp+1:=by omega
         have wj:=iw (kp:Int);have bl:IntKind.i64.wrap ((kp:Int)+1-1)=(kp:Int):=by rw [show (kp:Int)+1-1=kp by omega];exact wj
         have u0:decide (((I:Nat):Int)<=(kp:Int)+1)=true:=decide_eq_true (by omega);have ba:decide (I<=kp+1)=true:=decide_eq_true aw;go_upto_region 15 with (fail)
         obtain ⟨x,hx⟩:=Aa D2[kp+1]!;obtain ⟨y,hy⟩:=Aa D2[a]!;have ah:=hS.out.cells (i:=(kp+1)) (by omega);have ag:=hS.out.cells (i:=a) (by omega);rw [hx.out] at ah;rw [hy.out] at ag;have af:cI wr g ((kp+1)*3) x.b:=ah.1;have aa:cI wr g ((kp+1)*3+1) x.s:=ah.2.1;have ad:cU wr g ((kp+1)*3+2) x.u:=ah.2.2;have ac:cI wr g (a*3) y.b:=ag.1;have ab:cI wr g (a*3+1) y.s:=ag.2.1;have ae:cU wr g (a*3+2) y.u:=ag.2.2;have F0:Fr Non wr wr.drew:=(Fr.refl Non wr).drew;have kc:=lh (fun (v:World) (hv:Fr Non wr v)=>HC.out.tells x y v (hS.out.fr.trans hv zr) (by rw [<- hx.out];exact hS.out.okAt (by omega)) (by rw [<- hy.out];exact hS.out.okAt (by omega)))
         rcases zb (decide (cmp x y<0)) with cT|cT
         ·
          have au:pD (Ab cmp) D2 a D2[kp+1]! =false:=by unfold pD;rw [hx.out,hy.out,show Ab cmp x y=true from cT];rfl
          have hd:Hid (kp+1=scanDown (pD (Ab cmp) D2 a) D2 I j):=by show _=_;rw [<- ax.out];exact (Kv (.inr au)).symm
          clear au;refine wp_region_held_drew (S:=fun w'=>cI w' g ((kp+1)*3) x.b/\cI w' g ((kp+1)*3+1) x.s/\cU w' g ((kp+1)*3+2) x.u/\cI w' g (a*3) y.b/\cI w' g (a*3+1) y.s/\cU w' g (a*3+2) y.u) (by kernel_rfl) ⟨af,aa,ad,ac,ab,ae⟩ (fun hHeld=> ?_);clear hHeld;have uu:=aI af (aI aa (aI ad (aI ac (aI ab ae))));refine tkH 0 uu (h:=tkH 1 uu (h:=tkH 2 uu (h:=tkH 3 uu (h:=tkH 4 uu (h:=tkH 5 uu (h:=tkH 6 uu (h:=tkH 7 uu (h:=tkH 8 uu (h:=tkH 9 uu (h:=tkH 10 uu (h:=tkH 11 uu (h:=?_))))))))))));clear uu;simp only [zl];refine tkH 12 ⟨af,aa,ad,ac,ab,ae⟩ (h:=?_);simp only [zl];refine oG 13 (fun K hK=> ?_);go_simp;go_wp2_with fail;refine (kc.out _ F0).mono ?_;rintro _ v1 ⟨rfl,f1⟩;have F1:=F0.trans f1 zr;obtain ⟨aq,ak,ap,aj,ao,ai⟩:=zk6 F1 af aa ad ac ab ae;refine hK.out _ _ ⟨aq,ak,ap,aj,ao,ai⟩ (fun hZ=> ?_);clear hZ hK K;try simp only [Ad,zl]
          refine tkH 14 ⟨aq,ak,ap,aj,ao,ai⟩ (h:=tkH 15 ⟨aq,ak,ap,aj,ao,ai⟩ (h:=tkH 16 ⟨aq,ak,ap,aj,ao,ai⟩ (h:=?_)));simp only [zl];refine oD ?_;go_simp;have av:=lh (hS.out.non F1);clear af aa ad ac ab ae aq ak ap aj ao ai ah ag;go_wp2_with fail;go_meet;exact ⟨kp+1,by go_num,hd,av⟩
         ·
          have au:pD (Ab cmp) D2 a D2[kp+1]! =true:=by unfold pD;rw [hx.out,hy.out,show Ab cmp x y=false from cT];rfl
          have az:Hid (scanDown (pD (Ab cmp) D2 a) D2 I kp=scanDown (pD (Ab cmp) D2 a) D2 I j):=by
           show _=_;rw [<- ax.out];exact (Ue aw au).symm
          clear au;refine wp_region_held_drew (S:=fun w'=>cI w' g ((kp+1)*3) x.b/\cI w' g ((kp+1)*3+1) x.s/\cU w' g ((kp+1)*3+2) x.u/\cI w' g (a*3) y.b/\cI w' g (a*3+1) y.s/\cU w' g (a*3+2) y.u) (by kernel_rfl) ⟨af,aa,ad,ac,ab,ae⟩ (fun hHeld=> ?_);clear hHeld;have uu:=aI af (aI aa (aI ad (aI ac (aI ab ae))));refine tkH 0 uu (h:=tkH 1 uu (h:=tkH 2 uu (h:=tkH 3 uu (h:=tkH 4 uu (h:=tkH 5 uu (h:=tkH 6 uu (h:=tkH 7 uu (h:=tkH 8 uu (h:=tkH 9 uu (h:=tkH 10 uu (h:=tkH 11 uu (h:=?_))))))))))));clear uu;simp only [zl];refine tkH 12 ⟨af,aa,ad,ac,ab,ae⟩ (h:=?_);simp only [zl];refine oG 13 (fun K hK=> ?_);go_simp;go_wp2_with fail;refine (kc.out _ F0).mono ?_;rintro _ v1 ⟨rfl,f1⟩;have F1:=F0.trans f1 zr;obtain ⟨aq,ak,ap,aj,ao,ai⟩:=zk6 F1 af aa ad ac ab ae;refine hK.out _ _ ⟨aq,ak,ap,aj,ao,ai⟩ (fun hZ=> ?_);clear hZ hK K;try simp only [Ad,zl]
          refine tkH 14 ⟨aq,ak,ap,aj,ao,ai⟩ (h:=tkH 15 ⟨aq,ak,ap,aj,ao,ai⟩ (h:=tkH 16 ⟨aq,ak,ap,aj,ao,ai⟩ (h:=?_)));simp only [zl];refine oD ?_;go_simp;have av:=lh (hS.out.non F1);clear af aa ad ac ab ae aq ak ap aj ao ai ah ag;go_wp2_with fail;go_roundw
          case rel=>exact ⟨kp,by go_num,by omega,av,az⟩
          case measure=>first|(simp [intOf];done)|(simp [intOf];omega)
        ·
         have hd:Hid (k=scanDown (pD (Ab cmp) D2 a) D2 I j):=by show _=_;rw [<- ax.out];exact (Kv (.inl aw)).symm
         have u0:decide (((I:Nat):Int)<=(k:Int))=false:=decide_eq_false (by omega);have ba:decide (I<=k)=false:=decide_eq_false aw;have F0:Fr Non wr wr.drew:=(Fr.refl Non wr).drew;have av:=lh (hS.out.non F0);go_upto_region 15 with (fail)
         have Z0:True:=trivial;refine wp_region_held_drew (S:=fun w'=>True) (by kernel_rfl) Z0 (fun hHeld=> ?_);clear hHeld;refine tkH 0 Z0 (h:=tkH 1 Z0 (h:=tkH 2 Z0 (h:=tkH 3 Z0 (h:=skH 4 Z0 (h:=skH 5 Z0 (h:=skH 6 Z0 (h:=skH 7 Z0 (h:=skH 8 Z0 (h:=skH 9 Z0 (h:=skH 10 Z0 (h:=skH 11 Z0 (h:=?_))))))))))));simp only [zl];refine skH 12 Z0 (h:=skH 13 Z0 (h:=skH 14 Z0 (h:=skH 15 Z0 (h:=tkH 16 Z0 (h:=?_)))));simp only [zl];refine oD ?_;go_simp;clear Z0;go_wp2_with fail;go_meet;exact ⟨k,rfl,hd,av⟩
      case rest=>
       obtain ⟨J,rfl,hJ,ay⟩:=hcut;clear a9 hI;generalize wc=wy at*;rw [<- hJ.out] at a5 ar;obtain ⟨_,_,bm,bj,bb⟩:=a5;clear hJ;have I1:(0:Int)<=I:=by omega
       have I3:(I:Int).toNat=I:=by omega
       obtain ⟨J1,J2,J3⟩:=ix J n
       rw [<- bd.out] at ar
       by_cases hgt:I>J
       ·
        rw [if_pos hgt] at ar;replace ar:=lh ar;have u0:decide ((I:Int)>(J:Int))=true:=decide_eq_true (by omega);have u1:decide ((J:Int)<(I:Int))=true:=u0;have u2:decide (J<I)=true:=decide_eq_true hgt;go_upto_region 21 with (fail)
        obtain ⟨x,hx⟩:=Aa D2[J]!;obtain ⟨y,hy⟩:=Aa D2[a]!;have ah:=ay.out.cells (i:=J) (by omega);have ag:=ay.out.cells (i:=a) (by omega);rw [hx.out] at ah;rw [hy.out] at ag;have af:cI wy g (J*3) x.b:=ah.1;have aa:cI wy g (J*3+1) x.s:=ah.2.1;have ad:cU wy g (J*3+2) x.u:=ah.2.2;have ac:cI wy g (a*3) y.b:=ag.1;have ab:cI wy g (a*3+1) y.s:=ag.2.1;have ae:cU wy g (a*3+2) y.u:=ag.2.2;have F0:Fr Non wy wy.drew:=(Fr.refl Non wy).drew;have a4:=(show Srt w0 wy.drew base _ c _ from ay.out.non F0).swap (i:=J) (j:=a) (by omega) (by omega);rw [hx.out,hy.out] at a4;obtain ⟨a6,a8,a0⟩:=a4;refine Cx (S:=fun w'=>cI w' g (J*3) x.b/\cI w' g (J*3+1) x.s/\cU w' g (J*3+2) x.u/\cI w' g (a*3) y.b/\cI w' g (a*3+1) y.s/\cU w' g (a*3+2) y.u) 13 (by kernel_rfl) ?_;refine tkG 0 ⟨af,aa,ad,ac,ab,ae⟩ (h:=tkG 1 ⟨af,aa,ad,ac,ab,ae⟩ (h:=?_));simp only [zl];refine tkP 2 ⟨af,aa,ad,ac,ab,ae⟩ ?_;simp only [zl];refine tkP 3 ⟨af,aa,ad,ac,ab,ae⟩ ?_;simp only [zl];have uu:=aI af (aI aa (aI ad (aI ac (aI ab ae))));refine tkG 4 uu (h:=tkG 5 uu (h:=tkG 6 uu (h:=tkG 7 uu (h:=?_))));clear uu;simp only [zl];refine tkP 8 ⟨af,aa,ad,ac,ab,ae⟩ ?_;simp only [zl];refine tkP 9 ⟨af,aa,ad,ac,ab,ae⟩ ?_;simp only [zl];refine tkP 10 ⟨af,aa,ad,ac,ab,ae⟩ ?_;simp only [zl];refine tkG 11 ⟨af,aa,ad,ac,ab,ae⟩ (h:=tkG 12 ⟨af,aa,ad,ac,ab,ae⟩ (h:=?_));simp only [zl];refine Cs (by kernel_rfl) ?_;refine oG 13 (fun K hK=> ?_);go_simp;refine hK.out _ _ trivial (fun hZ=> ?_);clear hZ hK K;try simp only [Ad,zl]
        refine tkH 14 trivial (h:=?_);simp only [zl];refine oG 15 (fun K hK=> ?_);go_simp;refine hK.out _ _ trivial (fun hZ=> ?_);clear hZ hK K;try simp only [Ad,zl]
        refine oD ?_;go_simp;clear a6 a8;generalize Cp (Cp wy.drew g (J*3) y) g (a*3) x=wz at*;have hd:=lh (a7.out wz J D2 false ar.out.symm a0);clear a0 ar a7;go_wp2_with fail;exact hd.out
       ·
        rw [if_neg hgt] at ar;have aw:=bb hgt;have u0:decide ((I:Int)>(J:Int))=false:=decide_eq_false (by omega);have u1:decide ((J:Int)<(I:Int))=false:=u0;have u2:decide (J<I)=false:=decide_eq_false hgt;have I2:(I:Int)<n:=by omega
        have eI:IntKind.i64.wrap ((I:Int)+1)=((I+1:Nat):Int):=by rw [IntWalk.i64_in _ (by omega)];omega
        have eJ:IntKind.i64.wrap ((J:Int)-1)=((J-1:Nat):Int):=by rw [IntWalk.i64_in _ (by omega)];omega
        replace ar:=lh ar;go_upto_region 18 with (fail)
        obtain ⟨x,hx⟩:=Aa D2[I]!;obtain ⟨y,hy⟩:=Aa D2[J]!;have ah:=ay.out.cells (i:=I) (by omega);have ag:=ay.out.cells (i:=J) (by omega);rw [hx.out] at ah;rw [hy.out] at ag;have af:cI wy g (I*3) x.b:=ah.1;have aa:cI wy g (I*3+1) x.s:=ah.2.1;have ad:cU wy g (I*3+2) x.u:=ah.2.2;have ac:cI wy g (J*3) y.b:=ag.1;have ab:cI wy g (J*3+1) y.s:=ag.2.1;have ae:cU wy g (J*3+2) y.u:=ag.2.2;have F0:Fr Non wy wy.drew:=(Fr.refl Non wy).drew;have a4:=(show Srt w0 wy.drew base _ c _ from ay.out.non F0).swap (i:=I) (j:=J) (by omega) (by omega);rw [hx.out,hy.out] at a4;obtain ⟨a6,a8,a0⟩:=a4;refine Cx (S:=fun w'=>cI w' g (I*3) x.b/\cI w' g (I*3+1) x.s/\cU w' g (I*3+2) x.u/\cI w' g (J*3) y.b/\cI w' g (J*3+1) y.s/\cU w' g (J*3+2) y.u) 13 (by kernel_rfl) ?_;refine tkG 0 ⟨af,aa,ad,ac,ab,ae⟩ (h:=tkG 1 ⟨af,aa,ad,ac,ab,ae⟩ (h:=?_));simp only [zl];refine tkP 2 ⟨af,aa,ad,ac,ab,ae⟩ ?_;simp only [zl];refine tkP 3 ⟨af,aa,ad,ac,ab,ae⟩ ?_;simp only [zl];have uu:=aI af (aI aa (aI ad (aI ac (aI ab ae))));refine tkG 4 uu (h:=tkG 5 uu (h:=tkG 6 uu (h:=tkG 7 uu (h:=?_))));clear uu;simp only [zl];refine tkP 8 ⟨af,aa,ad,ac,ab,ae⟩ ?_;simp only [zl];refine tkP 9 ⟨af,aa,ad,ac,ab,ae⟩ ?_;simp only [zl];refine tkP 10 ⟨af,aa,ad,ac,ab,ae⟩ ?_;simp only [zl];refine tkG 11 ⟨af,aa,ad,ac,ab,ae⟩ (h:=tkG 12 ⟨af,aa,ad,ac,ab,ae⟩ (h:=?_));simp only [zl];refine Cs (by kernel_rfl) ?_;refine oG 13 (fun K hK=> ?_);go_simp;refine hK.out _ _ trivial (fun hZ=> ?_);clear hZ hK K;try simp only [Ad,zl]
        refine tkH 14 trivial (h:=?_);simp only [zl];refine oG 15 (fun K hK=> ?_);go_simp;refine hK.out _ _ trivial (fun hZ=> ?_);clear hZ hK K;try simp only [Ad,zl]
        refine oD ?_;go_simp;clear a6 a8;generalize Cp (Cp wy.drew g (I*3) y) g (J*3) x=wz at*;have be:=lh a0;have bg:(swp D2 I J).size=n:=by rw [size_swp];exact bf
        clear a0 ay ah ag af aa ad ac ab ae hx hy F0 bd;go_wp2_with fail;go_roundw
        case rel=>exact ⟨I+1,J-1,swp D2 I J,rfl,rfl,by omega,by omega,by omega,bg,be,ar⟩
        case measure=>first|(simp [intOf];done)|(simp [intOf];omega)
end Oq
end
section
open Go.RowKit Go.Sort
namespace Oq
theorem Av0 {lt:Id->Id->Bool} {d:Array Id} {a b l:Nat} {x y:Bool} (h:b-a<=12):pdq lt d a b l x y=insertionSort lt d a b:=by
 unfold pdq;rw [if_pos h]
theorem Ug {lt:Id->Id->Bool} {d:Array Id} {i j k:Nat}:(median lt d i j k 0).2<=3:=by
 have h:∀(a b s:Nat),(order2 lt d a b s).2.2<=s+1:=fun a b s=>by
  unfold order2
  split
  · exact Ax4 _
  · exact Nat.le_succ _
 unfold median;have h1:=h i j 0;have h2:=h (order2 lt d i j 0).2.1 k (order2 lt d i j 0).2.2;have h3:=h (order2 lt d i j 0).1 (order2 lt d (order2 lt d i j 0).2.1 k (order2 lt d i j 0).2.2).1 (order2 lt d (order2 lt d i j 0).2.1 k (order2 lt d i j 0).2.2).2.2;dsimp only;omega
theorem Av1 {lt:Id->Id->Bool} (hS:SWO lt) {d:Array Id} {i j k:Nat} (hij:lt d[i]! d[j]! =true\/lt d[j]! d[i]! =true) (hik:lt d[i]! d[k]! =true\/lt d[k]! d[i]! =true) (hjk:lt d[j]! d[k]! =true\/lt d[k]! d[j]! =true):
  ((median lt d i j k 0).1=i\/(median lt d i j k 0).1=j\/(median lt d i j k 0).1=k)/\(∃u,(u=i\/u=j\/u=k)/\lt d[u]! d[(median lt d i j k 0).1]! =true)/\(∃u,(u=i\/u=j\/u=k)/\lt d[(median lt d i j k 0).1]! d[u]! =true):=by
 have asy:∀x y,lt x y=true->lt y x=false:=fun x y h=>by
  cases h2:lt y x with
  |false=>rfl
  |true=>have:=hS.trans x y x h h2;rw [hS.irrefl] at this;cases this
 have tr:=hS.trans;have oT:∀(x y z:Nat),lt d[y]! d[x]! =true->order2 lt d x y z=(y,x,z+1):=fun x y z h=>by unfold order2;rw [if_pos h]
 have oF:∀(x y z:Nat),lt d[y]! d[x]! =false->order2 lt d x y z=(x,y,z):=fun x y z h=>by unfold order2;rw [if_neg (by rw [h];decide)]
 unfold median
 rcases hij with a|a<;>rcases hik with b|b<;>rcases hjk with c|c
 ·
  have a':=asy _ _ a;have b':=asy _ _ b;have c':=asy _ _ c;simp only [oF _ _ _ a',oF _ _ _ c'];exact ⟨by simp,⟨i,.inl rfl,a⟩,⟨k,.inr (.inr rfl),c⟩⟩
 ·
  have a':=asy _ _ a;have b':=asy _ _ b;simp only [oF _ _ _ a',oT _ _ _ c,oF _ _ _ b'];exact ⟨by simp,⟨i,.inl rfl,b⟩,⟨j,.inr (.inl rfl),c⟩⟩
 ·
  have h1:=tr _ _ _ a c;rw [asy _ _ b] at h1
  cases h1
 ·
  have a':=asy _ _ a;simp only [oF _ _ _ a',oT _ _ _ c,oT _ _ _ b];exact ⟨by simp,⟨k,.inr (.inr rfl),b⟩,⟨j,.inr (.inl rfl),a⟩⟩
 ·
  have b':=asy _ _ b;have a':=asy _ _ a;simp only [oT _ _ _ a,oF _ _ _ b',oF _ _ _ a'];exact ⟨by simp,⟨j,.inr (.inl rfl),a⟩,⟨k,.inr (.inr rfl),b⟩⟩
 ·
  have h1:=tr _ _ _ c a;rw [asy _ _ b] at h1
  cases h1
 ·
  have c':=asy _ _ c;simp only [oT _ _ _ a,oT _ _ _ b,oF _ _ _ c'];exact ⟨by simp,⟨j,.inr (.inl rfl),c⟩,⟨i,.inl rfl,b⟩⟩
 ·
  simp only [oT _ _ _ a,oT _ _ _ b,oT _ _ _ c];exact ⟨by simp,⟨k,.inr (.inr rfl),c⟩,⟨i,.inl rfl,a⟩⟩
theorem Av2 {lt:Id->Id->Bool} (hS:SWO lt) {d:Array Id} {n p u v:Nat} (hn:n=d.size) (hp:p<n) (hu:u<n) (hv:v<n) (h1:lt d[u]! d[p]! =true) (h2:lt d[p]! d[v]! =true):
  1<=(partition lt d 0 n p).1/\(partition lt d 0 n p).1+2<=n:=by
 obtain ⟨_,r2,r3,r4,r5⟩:=partition_holds lt hS d 0 n p (Ax3 _) hp (Nat.le_of_eq hn)
 have r6:(partition lt d 0 n p).2.2[(partition lt d 0 n p).1]! =d[p]! :=by
  rw [partition_arr,partition_fst];obtain ⟨_,q2,q3,_,_⟩:=partLoop_spec lt 0 n _ (0+1) (n-1) (swp d 0 p) (Ax4 _) (Nat.lt_succ_self 0) (by omega) (by omega) (by rw [size_swp];omega) (fun t h1 h2=>by omega) (fun t h1 h2=>by omega);generalize partLoop lt 0 (0+1) (n-1) (swp d 0 p)=res at q2 q3 ⊢;obtain ⟨r,d'⟩:=res;have hs:d'.size=d.size:=by rw [q3.1,size_swp]
  have ea:d'[0]! =(swp d 0 p)[0]! :=q3.2.1 0 (Or.inl (Nat.lt_succ_self 0))
  have ep:(swp d 0 p)[0]! =d[p]! :=by
   by_cases e:(0:Nat)=p
   · rw [<- e,swp_right d 0 0 (by omega)]
   · rw [swp_left d 0 p (by omega) e]
  dsimp only at q2 ⊢
  by_cases e:r=0
  · rw [e,swp_right d' 0 0 (by omega),ea,ep]
  · rw [swp_left d' r 0 (by omega) e,ea,ep]
 generalize (partition lt d 0 n p).1=m at*;generalize (partition lt d 0 n p).2.2=D at*
 have asy:∀x y,lt x y=true->lt y x=false:=fun x y h=>by
  cases h2:lt y x with
  |false=>rfl
  |true=>have:=hS.trans x y x h h2;rw [hS.irrefl] at this;cases this
 have hD:D.size=n:=by rw [r3.1];exact hn.symm
 have find:∀w,w<n->∃q,q<n/\D[q]! =d[w]! :=fun w hw=>by
  have e1:(D.extract 0 n).toList=D.toList:=by rw [<- hD];simp
  have e2:(d.extract 0 n).toList=d.toList:=by rw [hn];simp
  have hpm:=r3.2.2;rw [e1,e2] at hpm;have hm:d[w]! ∈d.toList:=List.mem_of_getElem? (Gv (by omega));obtain ⟨q,hq⟩:=List.getElem?_of_mem (hpm.mem_iff.2 hm);have hql:q<D.size:=by have:=(List.getElem?_eq_some_iff.1 hq).1;simpa using this
  rw [Gv hql] at hq;injection hq with hq
  exact ⟨q,by omega,hq⟩
 constructor
 ·
  obtain ⟨q,hq,e⟩:=find u hu
  rcases Ax6 q m with h|h|h
  · omega
  ·
   rw [h,r6] at e;rw [<- e,hS.irrefl] at h1
   cases h1
  ·
   have:=r5 q h hq;rw [e,r6,h1] at this
   cases this
 ·
  obtain ⟨q,hq,e⟩:=find v hv
  rcases Ax6 q m with h|h|h
  ·
   have:=r4 q (Ax3 _) h;rw [e,r6] at this;rw [asy _ _ this] at h2
   cases h2
  ·
   rw [h,r6] at e;rw [<- e,hS.irrefl] at h2
   cases h2
  · omega
theorem Uh {d d':Array Id} (h:PermIn 0 d.size d d'):d'.toList.Perm d.toList:=by
 have h4:=h.2.2;have e1:(d'.extract 0 d.size).toList=d'.toList:=by rw [<- h.1];simp
 have e2:(d.extract 0 d.size).toList=d.toList:=by simp
 rw [e1,e2] at h4;exact h4
theorem Av3 {lt:Id->Id->Bool} {d:Array Id} {n:Nat} (hn:n=13\/n=14) (hm:1<=(partition lt d 0 n (median lt d 3 6 9 0).1).1/\(partition lt d 0 n (median lt d 3 6 9 0).1).1+2<=n):
  pdq lt d 0 n 4 true true=if (median lt d 3 6 9 0).2=0/\scanSorted lt d n (0+1)=n then d else
   if (partition lt d 0 n (median lt d 3 6 9 0).1).1<n-(partition lt d 0 n (median lt d 3 6 9 0).1).1
   then insertionSort lt (insertionSort lt (partition lt d 0 n (median lt d 3 6 9 0).1).2.2 0 (partition lt d 0 n (median lt d 3 6 9 0).1).1) ((partition lt d 0 n (median lt d 3 6 9 0).1).1+1) n
   else insertionSort lt (insertionSort lt (partition lt d 0 n (median lt d 3 6 9 0).1).2.2 ((partition lt d 0 n (median lt d 3 6 9 0).1).1+1) n) 0 (partition lt d 0 n (median lt d 3 6 9 0).1).1:=by
 have hc:choosePivot lt d 0 n=((median lt d 3 6 9 0).1,if (median lt d 3 6 9 0).2=0 then .increasing else if (median lt d 3 6 9 0).2=12 then .decreasing else .unknown):=by
  rcases hn with rfl|rfl<;>rfl
 have hf:=Ug (lt:=lt) (d:=d) (i:=3) (j:=6) (k:=9)
 have hpi:partialInsertionSort lt d 0 n=if scanSorted lt d n (0+1)=n then (d,true) else (d,false):=by
  unfold partialInsertionSort partialIns;dsimp only
  by_cases h:scanSorted lt d n (0+1)=n
  · rw [if_pos h,if_pos h]
  · rw [if_neg h,if_neg h,if_pos (by omega)]
 have hsm:∀(D:Array Id) (a b:Nat) (x y:Bool),b-a<=12->pdq lt D a b 4 x y=insertionSort lt D a b:=fun D a b x y h=>Av0 h;have hn2:¬n-0<=12:=by omega
 unfold pdq;rw [if_neg hn2,if_neg (by decide)];simp only [Ax5,Ax7,if_false,hc];generalize median lt d 3 6 9 0=R at*;obtain ⟨P,M⟩:=R;dsimp only at hf hm ⊢;have h12:M≠12:=by omega
 have h2:0<=(partition lt d 0 n P).1/\(partition lt d 0 n P).1<n:=⟨Ax3 _,by omega⟩
 by_cases h0:M=0
 ·
  by_cases hs:scanSorted lt d n (0+1)=n
  · simp [h0,hs,hpi]
  ·
   simp only [h0,hs,hpi,if_true,if_false,h2,and_false,and_self,dite_true,reduceCtorEq,Ax7,Bool.and_self,decide_true,Nat.lt_irrefl,gt_iff_lt,decide_false,Bool.false_and,Nat.sub_zero]
   by_cases hlt:(partition lt d 0 n P).1<n-(partition lt d 0 n P).1
   · rw [if_pos hlt,if_pos hlt,hsm _ _ _ _ _ (by omega),hsm _ _ _ _ _ (by omega)]
   · rw [if_neg hlt,if_neg hlt,hsm _ _ _ _ _ (by omega),hsm _ _ _ _ _ (by omega)]
 ·
  simp only [h0,h12,hpi,if_false,h2,false_and,and_self,dite_true,reduceCtorEq,Ax7,Bool.and_self,decide_false,Bool.and_false,Nat.lt_irrefl,gt_iff_lt,Bool.false_and,Nat.sub_zero]
  by_cases hlt:(partition lt d 0 n P).1<n-(partition lt d 0 n P).1
  · rw [if_pos hlt,if_pos hlt,hsm _ _ _ _ _ (by omega),hsm _ _ _ _ _ (by omega)]
  · rw [if_neg hlt,if_neg hlt,hsm _ _ _ _ _ (by omega),hsm _ _ _ _ _ (by omega)]
end Oq
end
section
open Go.RowKit Go.Sort Go.Shelf
namespace Oq
attribute [local go_sem] Bool.not_false Ax5
attribute [local go_sem ↓] N3
theorem Ui (w0:World) (base c:Nat) (A:Option Addr) (d:Array Id) (n:Nat) (a b l:Nat) (fid:Nat) (pre post:Array Value) (cmp:Id->Id->Int) (w:World)
  (hc:E8 w0 fid pre post cmp) (h:Srt w0 w base A c d) (hdn:d.size=n) (hn:n<=1000) (hab:a<=b) (hb:b<=n) (h12:b-a<=12):
  Calls zp 150 #[.slice A n c,.int .i64 a,.int .i64 b,.int .i64 l,.func (.func fid) pre post] w (Ea w0 base A c (insertionSort (Ab cmp) d a b)):=by
 have eg:=hc.enters;have HC:=lh hc;have HS:=lh h;clear hc h;clear eg;have ki:=lh (fun (v:World) (hS:Srt w0 v base A c d)=>Ub w0 base c A d n a b fid pre post cmp v HC.out hS hdn hn hab hb);unfold Ea at ki;have hfin:Hid (∀wz,Srt w0 wz base A c (insertionSort (Ab cmp) d a b)->Ea w0 base A c (insertionSort (Ab cmp) d a b) (.returned (.tuple #[])) wz):=fun wz h=>⟨rfl,h⟩;generalize Ea w0 base A c (insertionSort (Ab cmp) d a b)=POST at*;generalize insertionSort (Ab cmp) d a b=RES at*;go_enter func150,ntmps150;have eb:=iw ((b:Int)-(a:Int));have t12:decide ((b:Int)-(a:Int)<=12)=true:=decide_eq_true (by omega);go_wp2_with fail
 go_loopw [1,2,3,10,11] (fun va vb vl v1 v2 wr=>va=.int .i64 (a:Int)/\vb=.int .i64 (b:Int)/\vl=.int .i64 (l:Int)/\v1=.bool true/\v2=.bool true/\Hid (Srt w0 wr base A c d)) (fun _ _ _ _ _ _=>0)
 case atStart=>exact ⟨rfl,rfl,rfl,rfl,rfl,HS⟩
 case round=>
  obtain ⟨rfl,rfl,rfl,rfl,rfl,hS⟩:=hrel;have k1:=lh (ki.out wr hS.out);clear ki;go_wp2_with (go_at_call 196;(with_reducible refine (k1.out).mono ?_);rintro _ wz ⟨rfl,hz⟩)
  first|exact hfin.out _ hz|(go_end0;exact hfin.out _ hz)
theorem Av4 (w0:World) (base c:Nat) (A:Option Addr) (d:Array Id) (n:Nat) (fid:Nat) (pre post:Array Value) (cmp:Id->Id->Int) (w:World)
  (hc:E8 w0 fid pre post cmp) (h:Srt w0 w base A c d) (hdn:d.size=n) (hn:n<=1000) (h13:n=13\/n=14) (hO:SWO (Ab cmp)) (hT:∀i j,i<n->j<n->i≠j->Ab cmp d[i]! d[j]! =true\/Ab cmp d[j]! d[i]! =true):
  Calls zp 150 #[.slice A n c,.int .i64 0,.int .i64 n,.int .i64 4,.func (.func fid) pre post] w (Ea w0 base A c (pdq (Ab cmp) d 0 n 4 true true)):=by
 have eg:=hc.enters;have HC:=lh hc;have HS:=lh h;clear hc h;clear eg;obtain ⟨ay,⟨u,hu,ar⟩,⟨v,hv,hv2⟩⟩:=Av1 hO (hT 3 6 (by omega) (by omega) (by omega)) (hT 3 9 (by omega) (by omega) (by omega)) (hT 6 9 (by omega) (by omega) (by omega));have aq:(median (Ab cmp) d 3 6 9 0).1<n:=by omega
 have ae:=Av2 hO hdn.symm aq (by omega) (by omega) ar hv2;have ac:=Av3 h13 ae;have aw:=Ug (lt:=Ab cmp) (d:=d) (i:=3) (j:=6) (k:=9);have kc:=lh (fun (v:World) (hS:Srt w0 v base A c d)=>Au5 w0 base c A d n fid pre post cmp v HC.out hS hdn hn h13);have af:Hid (∀(v:World),Srt w0 v base A c d->Calls zp 201 #[.slice A n c,.int .i64 0,.int .i64 n,.func (.func fid) pre post] v (Iq w0 base A c d (scanSorted (Ab cmp) d n (0+1)) n)):=fun v hS=>Au8 w0 base c A d n 0 n fid pre post cmp v HC.out hS hdn hn (by omega) (Ax4 _) (by omega)
 have ag:Hid (∀(v:World),Srt w0 v base A c d->Calls zp 203 #[.slice A n c,.int .i64 0,.int .i64 n,.int .i64 ((median (Ab cmp) d 3 6 9 0).1:Int),.func (.func fid) pre post] v (Ir w0 base A c (partition (Ab cmp) d 0 n (median (Ab cmp) d 3 6 9 0).1).2.2 (partition (Ab cmp) d 0 n (median (Ab cmp) d 3 6 9 0).1).1)):=fun v hS=>by
  have h9:=Au9 w0 base c A d n 0 n (median (Ab cmp) d 3 6 9 0).1 fid pre post cmp v HC.out hS hdn hn (Ax3 _) aq (Ax4 _);rw [<- partition_arr,<- partition_fst] at h9;exact h9
 have ad:(partition (Ab cmp) d 0 n (median (Ab cmp) d 3 6 9 0).1).2.2.size=n:=by rw [(partition_holds (Ab cmp) hO d 0 n (median (Ab cmp) d 3 6 9 0).1 (Ax3 _) aq (Nat.le_of_eq hdn.symm)).2.2.1.1];exact hdn
 have ah:∀(D:Array Id) (a b:Nat),D.size=n->a<=b->b<=n->(insertionSort (Ab cmp) D a b).size=n:=fun D a b h1 h2 h3=>by rw [(insertionSort_holds hO D a b h2 (by omega)).1.1];exact h1
 have kS:=lh (fun (D:Array Id) (a b:Nat) (v:World) (hS:Srt w0 v base A c D) (h1:D.size=n) (h2:a<=b) (h3:b<=n) (h4:b-a<=12)=>Ui w0 base c A D n a b 4 fid pre post cmp v HC.out hS h1 hn h2 h3 h4);have kI:=lh (fun (D:Array Id) (a b:Nat) (v:World) (hS:Srt w0 v base A c D) (h1:D.size=n) (h2:a<=b) (h3:b<=n)=>Ub w0 base c A D n a b fid pre post cmp v HC.out hS h1 hn h2 h3);unfold Ks at kc;unfold Iq at af;unfold Ir at ag;unfold Ea at kI;have ab:Hid (∀wz dz,dz=pdq (Ab cmp) d 0 n 4 true true->Srt w0 wz base A c dz->Ea w0 base A c (pdq (Ab cmp) d 0 n 4 true true) (.returned (.tuple #[])) wz):=fun wz dz e h=>⟨rfl,e▸h⟩;generalize Ea w0 base A c (pdq (Ab cmp) d 0 n 4 true true)=POST at*;generalize pdq (Ab cmp) d 0 n 4 true true=RES at*;generalize median (Ab cmp) d 3 6 9 0=R at*;obtain ⟨P,M⟩:=R;dsimp only at aq ae ac aw ad kc ag;generalize scanSorted (Ab cmp) d n (0+1)=SC at*;generalize (partition (Ab cmp) d 0 n P).1=m at*;generalize (partition (Ab cmp) d 0 n P).2.2=D4 at*;have az:=ae.1;have a3:=ae.2;have aa:Hid (M=0->SC=n->RES=d):=fun h1 h2=>by rw [ac,if_pos ⟨h1,h2⟩]
 have ai:Hid (¬(M=0/\SC=n)->m<n-m->insertionSort (Ab cmp) (insertionSort (Ab cmp) D4 0 m) (m+1) n=RES):=fun h1 h2=>by rw [ac,if_neg h1,if_pos h2]
 have aj:Hid (¬(M=0/\SC=n)->¬m<n-m->insertionSort (Ab cmp) (insertionSort (Ab cmp) D4 (m+1) n) 0 m=RES):=fun h1 h2=>by rw [ac,if_neg h1,if_neg h2]
 have kl:Hid (∀(v:World),Srt w0 v base A c D4->Calls zp 150 #[.slice A n c,.int .i64 0,.int .i64 (m:Int),.int .i64 4,.func (.func fid) pre post] v (Ea w0 base A c (insertionSort (Ab cmp) D4 0 m))):=fun v hS=>kS.out D4 0 m v hS ad (Ax3 _) (by omega) (by omega)
 have kr:Hid (∀(v:World),Srt w0 v base A c D4->Calls zp 150 #[.slice A n c,.int .i64 ((m:Int)+1),.int .i64 n,.int .i64 4,.func (.func fid) pre post] v (Ea w0 base A c (insertionSort (Ab cmp) D4 (m+1) n))):=fun v hS=>by
  have h9:=kS.out D4 (m+1) n v hS ad (by omega) (Ax4 _) (by omega);rw [show ((m+1:Nat):Int)=(m:Int)+1 by omega] at h9;exact h9
 have av:=ah D4 0 m ad (Ax3 _) (by omega);have au:=ah D4 (m+1) n ad (by omega) (Ax4 _);unfold Ea at kl kr;generalize insertionSort (Ab cmp) D4 0 m=DL at*;generalize insertionSort (Ab cmp) D4 (m+1) n=DR at*;clear ac ae ay hu ar hv hv2 hT ah kS HC hO;go_enter func150,ntmps150;have e0:=iw (n:Int);have em:=iw (m:Int);have a1:IntKind.i64.wrap ((m:Int)+1)=((m+1:Nat):Int):=by rw [IntWalk.i64_in _ (by omega)];omega
 have a0:=iw ((n:Int)-(m:Int));have q8:(n:Int).tdiv 8=1:=by rcases h13 with rfl|rfl<;>decide
 have a4:decide ((n:Int)<=12)=false:=decide_eq_false (by omega);have ax:decide (n<=12)=false:=decide_eq_false (by omega);go_wp2_with fail
 go_loopw [1,2,3,10,11] (fun va vb vl v1 v2 wr=>(va=.int .i64 0/\vb=.int .i64 (n:Int)/\vl=.int .i64 4/\v1=.bool true/\v2=.bool true/\Hid (Srt w0 wr base A c d))\/(∃(a b:Nat) (b1 b2:Bool) (D:Array Id),va=.int .i64 (a:Int)/\vb=.int .i64 (b:Int)/\vl=.int .i64 4/\v1=.bool b1/\v2=.bool b2/\a<=b/\b<=n/\b-a<=12/\D.size=n/\Hid (Srt w0 wr base A c D)/\Hid (insertionSort (Ab cmp) D a b=RES))) (fun va vb _ _ _ _=>(intOf vb-intOf va).toNat)
 case atStart=>exact .inl ⟨rfl,rfl,rfl,rfl,rfl,HS⟩
 case round=>
  clear HS
  rcases hrel with ⟨rfl,rfl,rfl,rfl,rfl,hS⟩|⟨a,b,b1,b2,D,rfl,rfl,rfl,rfl,rfl,hab,hbn,hba,hDs,hS,hR⟩
  case inr=>
   have eb:=iw ((b:Int)-(a:Int));have a2:decide ((b:Int)-(a:Int)<=12)=true:=decide_eq_true (by omega);have k1:=lh (kI.out D a b wr hS.out hDs hab hbn);rw [hR.out] at k1;clear kI kl kr kc af ag;go_wp2_with (go_at_call 196;(with_reducible refine (k1.out).mono ?_);rintro _ wz ⟨rfl,hz⟩)
   first|exact ab.out _ _ rfl hz|(go_end0;exact ab.out _ _ rfl hz)
  case inl=>
   have k1:=lh (kc.out wr hS.out);clear kc kI;have ao:Hid (M=0->Ei M=1):=fun h=>by unfold Ei;rw [if_pos h]
   have ap:Hid (M≠0->Ei M=0):=fun h=>by unfold Ei;rw [if_neg h,if_neg (by omega)]
   obtain ⟨H,hH⟩:=Aa (Ei M);rw [hH.out] at k1 ao ap;clear hH
   by_cases h0:M=0
   ·
    obtain rfl:H=1:=ao.out h0;clear ao ap
    by_cases hsn:SC=n
    ·
     have hb:(SC==n)=true:=beq_iff_eq.2 hsn;have hd:=lh (fun wz h=>ab.out wz d (aa.out h0 hsn).symm h);clear ai aj aa ab kl kr ag hsn h0
     go_wp2_with (first
      |(go_at_call 199;(with_reducible refine (k1.out).mono ?_);rintro _ w1 ⟨rfl,s1⟩;have k2:=lh (af.out w1 s1))
      |(go_at_call 201;(with_reducible refine (k2.out).mono ?_);rintro _ w2 ⟨rfl,s2⟩))
     first|exact hd.out _ s2|(go_end0;exact hd.out _ s2)
    ·
     have hb:(SC==n)=false:=beq_eq_false_iff_ne.2 hsn;have ak:¬(M=0/\SC=n):=fun h=>hsn h.2
     go_upto_region 17 with (first
      |(go_at_call 199;(with_reducible refine (k1.out).mono ?_);rintro _ w1 ⟨rfl,s1⟩;have k2:=lh (af.out w1 s1))
      |(go_at_call 201;(with_reducible refine (k2.out).mono ?_);rintro _ w2 ⟨rfl,s2⟩))
     have F0:Fr Non w2 w2.drew:=(Fr.refl Non w2).drew;have k3:=lh (ag.out _ (s2.non F0));clear ag k1;have Z0:True:=trivial;refine wp_region_held_drew (S:=fun w'=>True) (by kernel_rfl) Z0 (fun hHeld=> ?_);clear hHeld;refine tkH 0 Z0 (h:=tkH 1 Z0 (h:=tkH 2 Z0 (h:=skH 3 Z0 (h:=skH 4 Z0 (h:=skH 5 Z0 (h:=skH 6 Z0 (h:=skH 7 Z0 (h:=skH 8 Z0 (h:=skH 9 Z0 (h:=skH 10 Z0 (h:=skH 11 Z0 (h:=?_))))))))))));simp only [zl];refine skH 12 Z0 (h:=skH 13 Z0 (h:=skH 14 Z0 (h:=skH 15 Z0 (h:=tkH 16 Z0 (h:=?_)))));simp only [zl];refine oD ?_;go_simp;clear Z0
     by_cases hlt:m<n-m
     ·
      have hd:=lh (ai.out ak hlt);have l1:decide ((m:Int)<(n:Int)-(m:Int))=true:=decide_eq_true (by omega);clear ai aj aa ab
      go_wp2_with (first
       |(go_at_call 203;(with_reducible refine (k3.out).mono ?_);rintro _ w3 ⟨al,rfl,s3⟩;have k4:=lh (kl.out w3 s3);have k5:=lh (kr.out w3 s3))
       |(go_at_call 150;(with_reducible refine (k4.out).mono ?_);rintro _ w4 ⟨rfl,s4⟩))
      have s5:=lh s4;clear s4 s3 k3 kl kr k4 k5 af;go_roundw
      case rel=>exact .inr ⟨m+1,n,_,_,DL,by first|rfl|go_num,by first|rfl|go_num,rfl,rfl,rfl,by omega,by omega,by omega,av,s5,hd⟩
      case measure=>first|(simp [intOf];done)|(simp [intOf];omega)
     ·
      have hd:=lh (aj.out ak hlt);have l1:decide ((m:Int)<(n:Int)-(m:Int))=false:=decide_eq_false (by omega);clear ai aj aa ab
      go_wp2_with (first
       |(go_at_call 203;(with_reducible refine (k3.out).mono ?_);rintro _ w3 ⟨al,rfl,s3⟩;have k4:=lh (kl.out w3 s3);have k5:=lh (kr.out w3 s3))
       |(go_at_call 150;(with_reducible refine (k5.out).mono ?_);rintro _ w4 ⟨rfl,s4⟩))
      have s5:=lh s4;clear s4 s3 k3 kl kr k4 k5 af;go_roundw
      case rel=>exact .inr ⟨0,m,_,_,DR,by first|rfl|go_num,by first|rfl|go_num,rfl,rfl,rfl,by omega,by omega,by omega,au,s5,hd⟩
      case measure=>first|(simp [intOf];done)|(simp [intOf];omega)
   ·
    obtain rfl:H=0:=ap.out h0;have ak:¬(M=0/\SC=n):=fun h=>h0 h.1;clear ao ap;go_upto_region 17 with (go_at_call 199;(with_reducible refine (k1.out).mono ?_);rintro _ w1 ⟨rfl,s1⟩;have k2:=lh (af.out w1 s1))
    have F0:Fr Non w1 w1.drew:=(Fr.refl Non w1).drew;have k3:=lh (ag.out _ (s1.non F0));clear ag k1;have Z0:True:=trivial;refine wp_region_held_drew (S:=fun w'=>True) (by kernel_rfl) Z0 (fun hHeld=> ?_);clear hHeld;refine tkH 0 Z0 (h:=tkH 1 Z0 (h:=tkH 2 Z0 (h:=skH 3 Z0 (h:=skH 4 Z0 (h:=skH 5 Z0 (h:=skH 6 Z0 (h:=skH 7 Z0 (h:=skH 8 Z0 (h:=skH 9 Z0 (h:=skH 10 Z0 (h:=skH 11 Z0 (h:=?_))))))))))));simp only [zl];refine skH 12 Z0 (h:=skH 13 Z0 (h:=skH 14 Z0 (h:=skH 15 Z0 (h:=tkH 16 Z0 (h:=?_)))));simp only [zl];refine oD ?_;go_simp;clear Z0
    by_cases hlt:m<n-m
    ·
     have hd:=lh (ai.out ak hlt);have l1:decide ((m:Int)<(n:Int)-(m:Int))=true:=decide_eq_true (by omega);clear ai aj aa ab
     go_wp2_with (first
      |(go_at_call 203;(with_reducible refine (k3.out).mono ?_);rintro _ w3 ⟨al,rfl,s3⟩;have k4:=lh (kl.out w3 s3);have k5:=lh (kr.out w3 s3))
      |(go_at_call 150;(with_reducible refine (k4.out).mono ?_);rintro _ w4 ⟨rfl,s4⟩))
     have s5:=lh s4;clear s4 s3 k3 kl kr k4 k5 af;go_roundw
     case rel=>exact .inr ⟨m+1,n,_,_,DL,by first|rfl|go_num,by first|rfl|go_num,rfl,rfl,rfl,by omega,by omega,by omega,av,s5,hd⟩
     case measure=>first|(simp [intOf];done)|(simp [intOf];omega)
    ·
     have hd:=lh (aj.out ak hlt);have l1:decide ((m:Int)<(n:Int)-(m:Int))=false:=decide_eq_false (by omega);clear ai aj aa ab
     go_wp2_with (first
      |(go_at_call 203;(with_reducible refine (k3.out).mono ?_);rintro _ w3 ⟨al,rfl,s3⟩;have k4:=lh (kl.out w3 s3);have k5:=lh (kr.out w3 s3))
      |(go_at_call 150;(with_reducible refine (k5.out).mono ?_);rintro _ w4 ⟨rfl,s4⟩))
     have s5:=lh s4;clear s4 s3 k3 kl kr k4 k5 af;go_roundw
     case rel=>exact .inr ⟨0,m,_,_,DR,by first|rfl|go_num,by first|rfl|go_num,rfl,rfl,rfl,by omega,by omega,by omega,au,s5,hd⟩
     case measure=>first|(simp [intOf];done)|(simp [intOf];omega)
theorem Av5 (n:Nat) (w:World) (hn:n<=1000):Calls zp 143 #[.int .u64 (n:Int)] w fun e w'=>e=.returned (.int .i64 (Lib.bitLen n:Nat))/\w'=w:=by
 have L:=Tryz.sortIdents;have h:=Any.bits_Len (SlLaysF0.n15.bits (P:=zp) (ρ:=Tryz.sortIdents_ren) {L with}) (n:Int) w (by omega) (by omega);rwa [Int.toNat_natCast] at h
def Is (w0:World) (base:Nat) (A:Option Addr) (c:Nat) (d:Array Id) (lt:Id->Id->Bool) (e:Ending) (v:World):Prop:=e=.returned (.tuple #[])/\∃d':Array Id,Srt w0 v base A c d'/\d'.size=d.size/\d'.toList.Perm d.toList/\SortedIn lt 0 d.size d'
theorem Av6 (w0:World) (base c:Nat) (A:Option Addr) (d:Array Id) (n:Nat) (fid:Nat) (pre post:Array Value) (cmp:Id->Id->Int) (w:World)
  (hc:E8 w0 fid pre post cmp) (h:Srt w0 w base A c d) (hdn:d.size=n) (hn:n<=1000) (h14:n<=14) (hO:SWO (Ab cmp)) (hT:∀i j,i<n->j<n->i≠j->Ab cmp d[i]! d[j]! =true\/Ab cmp d[j]! d[i]! =true):
  Calls zp 97 #[.slice A n c,.func (.func fid) pre post] w (Is w0 base A c d (Ab cmp)):=by
 have eg:=hc.enters;have HC:=lh hc;have HS:=lh h;clear hc h;clear eg;have kb:=lh (fun (v:World)=>Av5 n v hn);have hbl:Hid (n=13\/n=14->Lib.bitLen n=4):=fun h=>by rcases h with rfl|rfl<;>decide
 have kp:Hid (∀(v:World) (l:Nat),l=Lib.bitLen n->Srt w0 v base A c d->Calls zp 150 #[.slice A n c,.int .i64 0,.int .i64 n,.int .i64 (l:Int),.func (.func fid) pre post] v (Is w0 base A c d (Ab cmp))):=fun v l hl hS=>by
  by_cases h12:n<=12
  ·
   refine Calls.mono (Ui w0 base c A d n 0 n l fid pre post cmp v HC.out hS hdn hn (Ax3 _) (Ax4 _) (by omega)) ?_;rintro e v' ⟨rfl,h1⟩;obtain ⟨h2,h3⟩:=insertionSort_holds hO d 0 n (Ax3 _) (by omega);rw [hdn.symm] at h1 h2 h3;exact ⟨rfl,_,h1,h2.1,Uh h2,h3⟩
  ·
   have h13:n=13\/n=14:=by omega
   have hl4:l=4:=by rw [hl,hbl.out h13]
   subst hl4;refine Calls.mono (Av4 w0 base c A d n fid pre post cmp v HC.out hS hdn hn h13 hO hT) ?_;rintro e v' ⟨rfl,h1⟩;obtain ⟨h2,h3⟩:=pdq_sorts (Ab cmp) hO d 0 n 4 true true (Ax3 _) (by omega) (Or.inl rfl);rw [hdn.symm] at h1 h2 h3;exact ⟨rfl,_,h1,h2.1,Uh h2,h3⟩
 have k2:=lh (fun (v:World)=>kp.out v (Lib.bitLen n) rfl);have hfin:Hid (∀wz,(∃d':Array Id,Srt w0 wz base A c d'/\d'.size=d.size/\d'.toList.Perm d.toList/\SortedIn (Ab cmp) 0 d.size d')->Is w0 base A c d (Ab cmp) (.returned (.tuple #[])) wz):=fun wz h=>⟨rfl,h⟩;unfold Is at k2;generalize Is w0 base A c d (Ab cmp)=POST at*;clear HC hO hT kp hbl;generalize Lib.bitLen n=L at*;go_enter func97,ntmps97;have e0:IntKind.u64.wrap (n:Int)=(n:Int):=by simp [IntKind.wrap,IntKind.bits,IntKind.signed];omega
 go_wp2_with (first
  |(go_at_call 143;(with_reducible refine (kb.out _).mono ?_);rintro _ w1 ⟨rfl,rfl⟩;have k3:=lh (k2.out _ HS.out))
  |(go_at_call 150;(with_reducible refine (k3.out).mono ?_);rintro _ w2 ⟨rfl,hz⟩))
 first|exact hfin.out _ hz|(go_end0;exact hfin.out _ hz)
end Oq
end
section
open Go.RowKit Go.Sort
namespace Oq
def Ej (l:List Pn) (x y:Id):Int:=if An l x<An l y then-1 else if An l y<An l x then 1 else if Id.less x y=true then-1 else if Id.less y x=true then 1 else 0
theorem Gw (l:List Pn) (x y:Id):Ab (Ej l) x y=Ct l x y:=by
 unfold Ab Ej;rw [Bool.eq_iff_iff,decide_eq_true_iff,rkLess_iff]
 by_cases h1:An l x<An l y
 ·
  rw [if_pos h1];exact ⟨fun _=> .inl h1,fun _=>by omega⟩
 ·
  rw [if_neg h1]
  by_cases h2:An l y<An l x
  ·
   rw [if_pos h2];exact ⟨fun h=>by omega,fun h=>by omega⟩
  ·
   rw [if_neg h2]
   by_cases h3:Id.less x y=true
   ·
    rw [if_pos h3];exact ⟨fun _=> .inr ⟨by omega,h3⟩,fun _=>by omega⟩
   ·
    rw [if_neg h3];refine ⟨fun h=> ?_,fun h=> ?_⟩
    · split at h<;>omega
    ·
     rcases h with h|h
     · exact absurd h h1
     · exact absurd h.2 h3
theorem Av7 (l:List Pn):SWO (Ab (Ej l)) where
 irrefl x:=by rw [Gw];exact Ta l x
 trans x y z h1 h2:=by
  rw [Gw] at*;exact Ni h1 h2
 ntrans x y z h1 h2:=by
  rw [Gw] at*;rw [Bool.eq_false_iff];intro h
  rcases Hn l x y with a|a|a
  · rw [h1] at a;cases a
  · rw [a,h2] at h;cases h
  ·
   rcases Hn l y z with b|b|b
   · rw [h2] at b;cases b
   ·
    rw [b] at a;rw [Nh a] at h
    cases h
   ·
    rw [Nh (Ni b a)] at h
    cases h
theorem Av8 (l:List Pn) {d:Array Id} (hnd:d.toList.Nodup):∀i j,i<d.size->j<d.size->i≠j->Ab (Ej l) d[i]! d[j]! =true\/Ab (Ej l) d[j]! d[i]! =true:=by
 intro i j hi hj hne;rw [Gw,Gw]
 rcases Hn l d[i]! d[j]! with h|h|h
 · exact .inl h
 ·
  exfalso;have h1:=Gv hi;have h2:=Gv hj;rw [h] at h1;obtain ⟨k1,e1⟩:=List.getElem?_eq_some_iff.1 h1;obtain ⟨k2,e2⟩:=List.getElem?_eq_some_iff.1 h2;have hpw:=List.pairwise_iff_getElem.1 hnd
  rcases Ax6 i j with a|a|a
  · exact hpw i j k1 k2 a (e1.trans e2.symm)
  · exact hne a
  · exact hpw j i k2 k1 a (e2.trans e1.symm)
 · exact .inr h
theorem Av9 {l:List Pn} {d d':Array Id} (hp:d'.toList.Perm d.toList) (hz:d'.size=d.size) (hs:SortedIn (Ab (Ej l)) 0 d.size d'):d'.toList=Dy l d.toList:=by
 refine Ao9 ?_ hp;unfold RowK;rw [List.pairwise_iff_getElem];intro i j hi hj hij;have hi':i<d'.size:=by simpa using hi
 have hj':j<d'.size:=by simpa using hj
 have h1:=hs i j (Ax3 _) hij (by omega);rw [Gw,getElem!_pos d' i hi',getElem!_pos d' j hj'] at h1;simpa using h1
end Oq
end
section
open Go.RowKit
namespace Oq
def E9 (a b:Int):Int:=if a=0 then b else a
theorem Aw0 (a b:Int) (k:Nat) (w:World) (hk:Blk w k 3 #[.int .i64 a,.int .i64 b]):
  Calls zp 135 #[.slice (some ⟨k,0,none⟩) 2 2] w fun e w'=>e=.returned (.int .i64 (E9 a b))/\w=w':=by
 have k0:=hk.cell 0;have k1:=hk.cell 1
 by_cases h1:a=0
 ·
  have f1:(a !=0)=false:=by simp [h1]
  by_cases h2:b=0
  ·
   have f2:(b !=0)=false:=by simp [h2]
   have hr:Hid (E9 a b=0):=by show _=_;unfold E9;rw [if_pos h1,h2]
   clear h1 h2;go_enter func135,ntmps135;go_wp2;refine wp_loop_rounds 3 ?_;rw [rounds_succ];go_wp2;rw [rounds_succ];go_wp2;rw [rounds_succ];go_wp2
   go_ret
   exact ⟨by rw [hr.out];rfl,rfl⟩
  ·
   have f2:(b !=0)=true:=by simp [h2]
   have hr:Hid (E9 a b=b):=by show _=_;unfold E9;rw [if_pos h1]
   clear h1 h2;go_enter func135,ntmps135;go_wp2;refine wp_loop_rounds 3 ?_;rw [rounds_succ];go_wp2;rw [rounds_succ];go_wp2
   go_ret
   exact ⟨by rw [hr.out];rfl,rfl⟩
 ·
  have f1:(a !=0)=true:=by simp [h1]
  have hr:Hid (E9 a b=a):=by show _=_;unfold E9;rw [if_neg h1]
  clear h1;go_enter func135,ntmps135;go_wp2;refine wp_loop_rounds 3 ?_;rw [rounds_succ];go_wp2
  go_ret
  exact ⟨by rw [hr.out];rfl,rfl⟩
theorem Aw1 (l:List Pn) (x y:Id):E9 (Bj (An l x:Int) (An l y:Int)) (if Id.less x y=true then-1 else if Id.less y x=true then 1 else 0)=Ej l x y:=by
 unfold E9 Ej Bj
 by_cases h1:An l x<An l y
 ·
  have h2:((An l x:Nat):Int)<(An l y:Int):=by omega
  rw [if_pos h1,if_pos h2];rfl
 ·
  have h2:¬((An l x:Nat):Int)<(An l y:Int):=by omega
  rw [if_neg h1,if_neg h2]
  by_cases h3:An l y<An l x
  ·
   have h4:((An l y:Nat):Int)<(An l x:Int):=by omega
   rw [if_pos h3,if_pos h4];rfl
  ·
   have h4:¬((An l y:Nat):Int)<(An l x:Int):=by omega
   rw [if_neg h3,if_neg h4];rfl
end Oq
end
end Go.Proofs.YtmcpnjoomlgmlaaGreatDoor
