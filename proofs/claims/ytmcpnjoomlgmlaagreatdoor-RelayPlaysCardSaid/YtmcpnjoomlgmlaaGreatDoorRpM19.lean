/- Contracts of functions, walked (part 19).
Conditions: as each theorem says. -/
import Derived.Test.YtmcpnjoomlgmlaaGreatDoorRpM18
set_option maxRecDepth 100000
set_option maxHeartbeats 16000000
open Bool renaming not_true->A61,false_eq_true->A63
open Nat renaming zero_le->A59,le_refl->A60,lt_trichotomy->A62
open Go.Proofs.Tryz
open Go.Proofs.Tryz renaming prog->zp
open Go.Lib renaming hid->lh
open List renaming set->zl
open Go.Ending renaming returned->ze
namespace Go.Proofs.YtmcpnjoomlgmlaaGreatDoor
attribute [local go_sem ↓] Go.wp_at_zero Go.wp_at_succ
section
open Go.RowKit Go.Sort
namespace Oq
attribute [local go_sem] Bool.not_false A61
attribute [local go_sem ↓] O6
def pU (lt:Id->Id->Bool) (D:Array Id) (a:Nat):Id->Bool:=fun x=>lt x D[a]!
def pD (lt:Id->Id->Bool) (D:Array Id) (a:Nat):Id->Bool:=fun x=> !lt x D[a]!
theorem Vm {p:Id->Bool} {d:Array Id} {j i:Nat} (h:i<=j) (hp:p d[i]! =true):scanUp p d j i=scanUp p d j (i+1):=by
 conv=>lhs;unfold scanUp
 rw [if_pos (by rw [hp];simp [h])]
theorem Lu {p:Id->Bool} {d:Array Id} {j i:Nat} (h:¬i<=j\/p d[i]! =false):scanUp p d j i=i:=by
 unfold scanUp;rw [if_neg]
 rcases h with h|h
 · simp [h]
 · rw [h];simp
theorem Vn {p:Id->Bool} {d:Array Id} {i j:Nat} (h:i<=j+1) (hp:p d[j+1]! =true):scanDown p d i (j+1)=scanDown p d i j:=by
 conv=>lhs;unfold scanDown
 rw [if_pos (by rw [hp];simp [h])]
theorem Lv {p:Id->Bool} {d:Array Id} {i j:Nat} (h:¬i<=j\/p d[j]! =false):scanDown p d i j=j:=by
 cases j with
 |zero=>rfl
 |succ j=>
  unfold scanDown;rw [if_neg]
  rcases h with h|h
  · simp [h]
  · rw [h];simp
theorem Vo {lt:Id->Id->Bool} {D:Array Id} {a i j:Nat} (h0:0<i) (h1:i<=j+1):
  i<=scanUp (pU lt D a) D j i/\scanUp (pU lt D a) D j i<=j+1/\scanDown (pD lt D a) D (scanUp (pU lt D a) D j i) j<=j/\scanUp (pU lt D a) D j i<=scanDown (pD lt D a) D (scanUp (pU lt D a) D j i) j+1/\
   (¬scanUp (pU lt D a) D j i>scanDown (pD lt D a) D (scanUp (pU lt D a) D j i) j->scanUp (pU lt D a) D j i<scanDown (pD lt D a) D (scanUp (pU lt D a) D j i) j):=by
 obtain ⟨u1,u2,_,u4⟩:=scanUp_spec (pU lt D a) D j _ i rfl;generalize scanUp (pU lt D a) D j i=I at*;obtain ⟨d1,d2,_,d4⟩:=scanDown_spec (pD lt D a) D I j;generalize scanDown (pD lt D a) D I j=J at*;refine ⟨u1,u2 h1,d1,d2 (by have:=u2 h1;omega),fun h=> ?_⟩
 rcases Nat.lt_or_ge I J with hl|hl
 · exact hl
 ·
  have e:I=J:=by omega
  have k1:=u4 (by omega);have k2:=d4 (by omega) (by omega);rw [e] at k1;unfold pU at k1;unfold pD at k2;rw [k1] at k2
  cases k2
def Jj (w0:World) (base:Nat) (A:Option Addr) (c:Nat) (d:Array Id) (r:Nat) (e:Ending) (v:World):Prop:=∃al:Bool,e=.returned (.tuple #[.int .i64 (r:Int),.bool al])/\Srt w0 v base A c d
theorem Az8 (w0:World) (base c:Nat) (A:Option Addr) (d:Array Id) (n:Nat) (a b p:Nat) (fid:Nat) (pre post:Array Value) (cmp:Id->Id->Int) (w:World)
  (hc:Fu w0 fid pre post cmp) (h:Srt w0 w base A c d) (hdn:d.size=n) (hn:n<=1000) (hap:a<=p) (hpb:p<b) (hb:b<=n):
  Calls zp 203 #[.slice A n c,.int .i64 a,.int .i64 b,.int .i64 p,.func (.func fid) pre post] w (Jj w0 base A c (swp (partLoop (Ac cmp) a (a+1) (b-1) (swp d a p)).2 (partLoop (Ac cmp) a (a+1) (b-1) (swp d a p)).1 a) (partLoop (Ac cmp) a (a+1) (b-1) (swp d a p)).1):=by
 have eg:=hc.enters;have HC:=lh hc;have HS:=lh h;clear hc h;obtain ⟨g,rfl,bp,bq⟩:=HS.out.at (i:=a) (by omega);have a8:Hid (∀(wz:World) (j:Nat) (D:Array Id) (al:Bool),(j,D)=partLoop (Ac cmp) a (a+1) (b-1) (swp d a p)->Srt w0 wz base (some ⟨g,0,none⟩) c (swp D j a)->Jj w0 base (some ⟨g,0,none⟩) c (swp (partLoop (Ac cmp) a (a+1) (b-1) (swp d a p)).2 (partLoop (Ac cmp) a (a+1) (b-1) (swp d a p)).1 a) (partLoop (Ac cmp) a (a+1) (b-1) (swp d a p)).1 (.returned (.tuple #[.int .i64 (j:Int),.bool al])) wz):=fun wz j D al e h=>by rw [<- e];exact ⟨al,rfl,h⟩
 generalize Jj w0 base (some ⟨g,0,none⟩) c (swp (partLoop (Ac cmp) a (a+1) (b-1) (swp d a p)).2 (partLoop (Ac cmp) a (a+1) (b-1) (swp d a p)).1 a) (partLoop (Ac cmp) a (a+1) (b-1) (swp d a p)).1=POST at*;have bi:Hid (∀(i j:Nat) (D:Array Id),partLoop (Ac cmp) a i j D=if scanUp (pU (Ac cmp) D a) D j i>scanDown (pD (Ac cmp) D a) D (scanUp (pU (Ac cmp) D a) D j i) j then (scanDown (pD (Ac cmp) D a) D (scanUp (pU (Ac cmp) D a) D j i) j,D) else partLoop (Ac cmp) a (scanUp (pU (Ac cmp) D a) D j i+1) (scanDown (pD (Ac cmp) D a) D (scanUp (pU (Ac cmp) D a) D j i) j-1) (swp D (scanUp (pU (Ac cmp) D a) D j i) (scanDown (pD (Ac cmp) D a) D (scanUp (pU (Ac cmp) D a) D j i) j))):=fun i j D=>partLoop_eq (Ac cmp) a i j D;generalize bb:partLoop (Ac cmp) a (a+1) (b-1) (swp d a p)=PL at*;replace bb:=lh bb;go_enter func203,ntmps203;obtain ⟨a1,a2,a3⟩:=ix a n
 obtain ⟨p1,p2,p3⟩:=ix p n
 have ea:IntKind.i64.wrap ((a:Int)+1)=((a+1:Nat):Int):=by rw [IntWalk.i64_in _ (by omega)];omega
 have eb:IntKind.i64.wrap ((b:Int)-1)=((b-1:Nat):Int):=by rw [IntWalk.i64_in _ (by omega)];omega
 have hS:=HS;have F0:Fr Non w w.drew:=(Fr.refl Non w).drew;go_upto_region 1 with (fail)
 clear F0;obtain ⟨x,hx⟩:=Ab d[a]!;obtain ⟨y,hy⟩:=Ab d[p]!;have ah:=hS.out.cells (i:=a) (by omega);have ag:=hS.out.cells (i:=p) (by omega);rw [hx.out] at ah;rw [hy.out] at ag;have ab:cI w g (a*3) x.b:=ah.1;have ad:cI w g (a*3+1) x.s:=ah.2.1;have aa:cU w g (a*3+2) x.u:=ah.2.2;have af:cI w g (p*3) y.b:=ag.1;have ac:cI w g (p*3+1) y.s:=ag.2.1;have ae:cU w g (p*3+2) y.u:=ag.2.2;have F0:Fr Non w w.drew:=(Fr.refl Non w).drew;have a0:=(show Srt w0 w.drew base _ c _ from hS.out.non F0).swap (i:=a) (j:=p) (by omega) (by omega);rw [hx.out,hy.out] at a0;obtain ⟨a6,a7,a4⟩:=a0;refine Cv (S:=fun w'=>cI w' g (a*3) x.b/\cI w' g (a*3+1) x.s/\cU w' g (a*3+2) x.u/\cI w' g (p*3) y.b/\cI w' g (p*3+1) y.s/\cU w' g (p*3+2) y.u) 13 (by kernel_rfl) ?_;refine tkM 0 2 ⟨ab,ad,aa,af,ac,ae⟩ (h:=?_);refine tkP 2 ⟨ab,ad,aa,af,ac,ae⟩ ?_;simp only [zl];refine tkP 3 ⟨ab,ad,aa,af,ac,ae⟩ ?_;simp only [zl];refine tkM 4 4 ⟨ab,ad,aa,af,ac,ae⟩ (h:=?_);refine tkP 8 ⟨ab,ad,aa,af,ac,ae⟩ ?_;simp only [zl];refine tkP 9 ⟨ab,ad,aa,af,ac,ae⟩ ?_;simp only [zl];refine tkP 10 ⟨ab,ad,aa,af,ac,ae⟩ ?_;simp only [zl];refine tkM 11 2 ⟨ab,ad,aa,af,ac,ae⟩ (h:=?_);refine Cp (by kernel_rfl) ?_;refine stT 13 (h:=?_);refine tkN 14 1 trivial (h:=?_);refine stT 15 (h:=?_);refine oD ?_;go_simp;clear a6 a7;generalize Cy (Cy w.drew g (a*3) y) g (p*3) x=wz at*;have a9:=lh a4;clear a4 hS HS F0 ah ag ab ad aa af ac ae hx hy;have bf:(swp d a p).size=n:=by rw [size_swp];exact hdn
 generalize swp d a p=D at*;clear hdn
 go_upto_block 0 with (fail)
 go_cut [12] from 32 to 49 (fun s wc=>∃k:Nat,s=.int .i64 (k:Int)/\Hid (k=scanUp (pU (Ac cmp) D a) D (b-1) (a+1))/\Hid (Srt w0 wc base (some ⟨g,0,none⟩) c D))
 case first=>
  go_wp2_with fail
  go_loopw [12] (fun v wr=>∃k:Nat,v=.int .i64 (k:Int)/\a+1<=k/\k<=b/\Hid (Srt w0 wr base (some ⟨g,0,none⟩) c D)/\Hid (scanUp (pU (Ac cmp) D a) D (b-1) k=scanUp (pU (Ac cmp) D a) D (b-1) (a+1))) (fun v _=>b+1-(intOf v).toNat)
  case atStart=>exact ⟨(a+1),rfl,by omega,by omega,a9,rfl⟩
  case round=>
   clear a9;obtain ⟨k,rfl,bl,bh,hS,ax⟩:=hrel
   by_cases aw:k<=(b-1)
   ·
    obtain ⟨k1,k2,k3⟩:=ix k n
    have e1:=iw ((k:Int)+1);have u0:decide ((k:Int)<=(((b-1):Nat):Int))=true:=decide_eq_true (by omega);have bd:decide (k<=(b-1))=true:=decide_eq_true aw;go_upto_region 3 with (fail)
    obtain ⟨x,hx⟩:=Ab D[k]!;obtain ⟨y,hy⟩:=Ab D[a]!;have ah:=hS.out.cells (i:=k) (by omega);have ag:=hS.out.cells (i:=a) (by omega);rw [hx.out] at ah;rw [hy.out] at ag;have ab:cI wr g (k*3) x.b:=ah.1;have ad:cI wr g (k*3+1) x.s:=ah.2.1;have aa:cU wr g (k*3+2) x.u:=ah.2.2;have af:cI wr g (a*3) y.b:=ag.1;have ac:cI wr g (a*3+1) y.s:=ag.2.1;have ae:cU wr g (a*3+2) y.u:=ag.2.2;have F0:Fr Non wr wr.drew:=(Fr.refl Non wr).drew;have kc:=lh (fun (v:World) (hv:Fr Non wr v)=>HC.out.tells x y v (hS.out.fr.trans hv zr) (by rw [<- hx.out];exact hS.out.okAt (by omega)) (by rw [<- hy.out];exact hS.out.okAt (by omega)))
    rcases zb (decide (cmp x y<0)) with cT|cT
    ·
     have aj:pU (Ac cmp) D a D[k]! =true:=by unfold pU;rw [hx.out,hy.out];exact cT
     have ay:Hid (scanUp (pU (Ac cmp) D a) D (b-1) (k+1)=scanUp (pU (Ac cmp) D a) D (b-1) (a+1)):=by
      show _=_;rw [<- ax.out];exact (Vm aw aj).symm
     clear aj;refine wp_region_held_drew (S:=fun w'=>cI w' g (k*3) x.b/\cI w' g (k*3+1) x.s/\cU w' g (k*3+2) x.u/\cI w' g (a*3) y.b/\cI w' g (a*3+1) y.s/\cU w' g (a*3+2) y.u) (by kernel_rfl) ⟨ab,ad,aa,af,ac,ae⟩ (fun uu=> ?_);refine tkN 0 13 uu (h:=?_);clear uu;refine oG 13 (fun K hK=> ?_);go_simp;go_wp2_with fail;refine (kc.out _ F0).mono ?_;rintro _ v1 ⟨rfl,f1⟩;have F1:=F0.trans f1 zr;obtain ⟨ak,ao,ar,av,aq,ap⟩:=zk6 F1 ab ad aa af ac ae;refine hK.out _ _ ⟨ak,ao,ar,av,aq,ap⟩ (fun uu=> ?_);clear hK K;try simp only [Ah,zl]
     refine tkN 14 2 uu (h:=?_);clear uu;refine oD ?_;go_simp;have au:=lh (hS.out.non F1);clear ab ad aa af ac ae ak ao ar av aq ap ah ag;go_wp2_with fail;go_roundw
     case rel=>exact ⟨k+1,by go_num,by omega,by omega,au,ay⟩
     case measure=>first|(simp [intOf];done)|(simp [intOf];omega)
    ·
     have aj:pU (Ac cmp) D a D[k]! =false:=by unfold pU;rw [hx.out,hy.out];exact cT
     have hd:Hid (k=scanUp (pU (Ac cmp) D a) D (b-1) (a+1)):=by show _=_;rw [<- ax.out];exact (Lu (.inr aj)).symm
     clear aj;refine wp_region_held_drew (S:=fun w'=>cI w' g (k*3) x.b/\cI w' g (k*3+1) x.s/\cU w' g (k*3+2) x.u/\cI w' g (a*3) y.b/\cI w' g (a*3+1) y.s/\cU w' g (a*3+2) y.u) (by kernel_rfl) ⟨ab,ad,aa,af,ac,ae⟩ (fun uu=> ?_);refine tkN 0 13 uu (h:=?_);clear uu;refine oG 13 (fun K hK=> ?_);go_simp;go_wp2_with fail;refine (kc.out _ F0).mono ?_;rintro _ v1 ⟨rfl,f1⟩;have F1:=F0.trans f1 zr;obtain ⟨ak,ao,ar,av,aq,ap⟩:=zk6 F1 ab ad aa af ac ae;refine hK.out _ _ ⟨ak,ao,ar,av,aq,ap⟩ (fun uu=> ?_);clear hK K;try simp only [Ah,zl]
     refine tkN 14 2 uu (h:=?_);clear uu;refine oD ?_;go_simp;have au:=lh (hS.out.non F1);clear ab ad aa af ac ae ak ao ar av aq ap ah ag;go_wp2_with fail;go_meet;exact ⟨k,rfl,hd,au⟩
   ·
    have hd:Hid (k=scanUp (pU (Ac cmp) D a) D (b-1) (a+1)):=by show _=_;rw [<- ax.out];exact (Lu (.inl aw)).symm
    have u0:decide ((k:Int)<=(((b-1):Nat):Int))=false:=decide_eq_false (by omega);have bd:decide (k<=(b-1))=false:=decide_eq_false aw;have F0:Fr Non wr wr.drew:=(Fr.refl Non wr).drew;have au:=lh (hS.out.non F0);go_upto_region 3 with (fail)
    have Z0:True:=trivial;refine wp_region_held_drew (S:=fun w'=>True) (by kernel_rfl) Z0 (fun hHeld=> ?_);clear hHeld;refine tkN 0 4 Z0 (h:=skN 4 11 Z0 (h:=tkN 15 1 Z0 (h:=?_)));refine oD ?_;go_simp;clear Z0;go_wp2_with fail;go_meet;exact ⟨k,rfl,hd,au⟩
 case rest=>
  obtain ⟨I,rfl,hI,ba⟩:=hcut;clear a9;generalize wc=wx at*;have a5:=Vo (lt:=Ac cmp) (D:=D) (a:=a) (i:=(a+1)) (j:=(b-1)) (by omega) (by omega);have ai:=bi.out (a+1) (b-1) D;rw [<- hI.out] at a5 ai;have bk:=a5.1;have bn:=a5.2.1
  go_upto_block 2 with (fail)
  go_cut [13] from 50 to 68 (fun s wc=>∃k:Nat,s=.int .i64 (k:Int)/\Hid (k=scanDown (pD (Ac cmp) D a) D I (b-1))/\Hid (Srt w0 wc base (some ⟨g,0,none⟩) c D))
  case first=>
   go_wp2_with fail
   go_loopw [13] (fun v wr=>∃k:Nat,v=.int .i64 (k:Int)/\k<=(b-1)/\Hid (Srt w0 wr base (some ⟨g,0,none⟩) c D)/\Hid (scanDown (pD (Ac cmp) D a) D I k=scanDown (pD (Ac cmp) D a) D I (b-1))) (fun v _=>(intOf v).toNat)
   case atStart=>exact ⟨(b-1),rfl,A60 _,ba,rfl⟩
   case round=>
    clear ba;obtain ⟨k,rfl,bh,hS,ax⟩:=hrel
    by_cases aw:I<=k
    ·
     obtain ⟨kp,rfl⟩:∃kp,k=kp+1:=⟨k-1,by omega⟩;have jc:((kp+1:Nat):Int)=(kp:Int)+1:=by omega
     rw [jc];have k1:(0:Int)<=(kp:Int)+1:=by omega
     have k2:(kp:Int)+1<n:=by omega
     have k3:((kp:Int)+1).toNat=kp+1:=by omega
     have wj:=iw (kp:Int);have bo:IntKind.i64.wrap ((kp:Int)+1-1)=(kp:Int):=by rw [show (kp:Int)+1-1=kp by omega];exact wj
     have u0:decide (((I:Nat):Int)<=(kp:Int)+1)=true:=decide_eq_true (by omega);have bd:decide (I<=kp+1)=true:=decide_eq_true aw;go_upto_region 5 with (fail)
     obtain ⟨x,hx⟩:=Ab D[kp+1]!;obtain ⟨y,hy⟩:=Ab D[a]!;have ah:=hS.out.cells (i:=(kp+1)) (by omega);have ag:=hS.out.cells (i:=a) (by omega);rw [hx.out] at ah;rw [hy.out] at ag;have ab:cI wr g ((kp+1)*3) x.b:=ah.1;have ad:cI wr g ((kp+1)*3+1) x.s:=ah.2.1;have aa:cU wr g ((kp+1)*3+2) x.u:=ah.2.2;have af:cI wr g (a*3) y.b:=ag.1;have ac:cI wr g (a*3+1) y.s:=ag.2.1;have ae:cU wr g (a*3+2) y.u:=ag.2.2;have F0:Fr Non wr wr.drew:=(Fr.refl Non wr).drew;have kc:=lh (fun (v:World) (hv:Fr Non wr v)=>HC.out.tells x y v (hS.out.fr.trans hv zr) (by rw [<- hx.out];exact hS.out.okAt (by omega)) (by rw [<- hy.out];exact hS.out.okAt (by omega)))
     rcases zb (decide (cmp x y<0)) with cT|cT
     ·
      have aj:pD (Ac cmp) D a D[kp+1]! =false:=by unfold pD;rw [hx.out,hy.out,show Ac cmp x y=true from cT];rfl
      have hd:Hid (kp+1=scanDown (pD (Ac cmp) D a) D I (b-1)):=by show _=_;rw [<- ax.out];exact (Lv (.inr aj)).symm
      clear aj;refine wp_region_held_drew (S:=fun w'=>cI w' g ((kp+1)*3) x.b/\cI w' g ((kp+1)*3+1) x.s/\cU w' g ((kp+1)*3+2) x.u/\cI w' g (a*3) y.b/\cI w' g (a*3+1) y.s/\cU w' g (a*3+2) y.u) (by kernel_rfl) ⟨ab,ad,aa,af,ac,ae⟩ (fun uu=> ?_);refine tkN 0 13 uu (h:=?_);clear uu;refine oG 13 (fun K hK=> ?_);go_simp;go_wp2_with fail;refine (kc.out _ F0).mono ?_;rintro _ v1 ⟨rfl,f1⟩;have F1:=F0.trans f1 zr;obtain ⟨ak,ao,ar,av,aq,ap⟩:=zk6 F1 ab ad aa af ac ae;refine hK.out _ _ ⟨ak,ao,ar,av,aq,ap⟩ (fun uu=> ?_);clear hK K;try simp only [Ah,zl]
      refine tkN 14 3 uu (h:=?_);clear uu;refine oD ?_;go_simp;have au:=lh (hS.out.non F1);clear ab ad aa af ac ae ak ao ar av aq ap ah ag;go_wp2_with fail;go_meet;exact ⟨kp+1,by go_num,hd,au⟩
     ·
      have aj:pD (Ac cmp) D a D[kp+1]! =true:=by unfold pD;rw [hx.out,hy.out,show Ac cmp x y=false from cT];rfl
      have ay:Hid (scanDown (pD (Ac cmp) D a) D I kp=scanDown (pD (Ac cmp) D a) D I (b-1)):=by
       show _=_;rw [<- ax.out];exact (Vn aw aj).symm
      clear aj;refine wp_region_held_drew (S:=fun w'=>cI w' g ((kp+1)*3) x.b/\cI w' g ((kp+1)*3+1) x.s/\cU w' g ((kp+1)*3+2) x.u/\cI w' g (a*3) y.b/\cI w' g (a*3+1) y.s/\cU w' g (a*3+2) y.u) (by kernel_rfl) ⟨ab,ad,aa,af,ac,ae⟩ (fun uu=> ?_);refine tkN 0 13 uu (h:=?_);clear uu;refine oG 13 (fun K hK=> ?_);go_simp;go_wp2_with fail;refine (kc.out _ F0).mono ?_;rintro _ v1 ⟨rfl,f1⟩;have F1:=F0.trans f1 zr;obtain ⟨ak,ao,ar,av,aq,ap⟩:=zk6 F1 ab ad aa af ac ae;refine hK.out _ _ ⟨ak,ao,ar,av,aq,ap⟩ (fun uu=> ?_);clear hK K;try simp only [Ah,zl]
      refine tkN 14 3 uu (h:=?_);clear uu;refine oD ?_;go_simp;have au:=lh (hS.out.non F1);clear ab ad aa af ac ae ak ao ar av aq ap ah ag;go_wp2_with fail;go_roundw
      case rel=>exact ⟨kp,by go_num,by omega,au,ay⟩
      case measure=>first|(simp [intOf];done)|(simp [intOf];omega)
    ·
     have hd:Hid (k=scanDown (pD (Ac cmp) D a) D I (b-1)):=by show _=_;rw [<- ax.out];exact (Lv (.inl aw)).symm
     have u0:decide (((I:Nat):Int)<=(k:Int))=false:=decide_eq_false (by omega);have bd:decide (I<=k)=false:=decide_eq_false aw;have F0:Fr Non wr wr.drew:=(Fr.refl Non wr).drew;have au:=lh (hS.out.non F0);go_upto_region 5 with (fail)
     have Z0:True:=trivial;refine wp_region_held_drew (S:=fun w'=>True) (by kernel_rfl) Z0 (fun hHeld=> ?_);clear hHeld;refine tkN 0 4 Z0 (h:=skN 4 12 Z0 (h:=tkN 16 1 Z0 (h:=?_)));refine oD ?_;go_simp;clear Z0;go_wp2_with fail;go_meet;exact ⟨k,rfl,hd,au⟩
  case rest=>
   obtain ⟨J,rfl,hJ,az⟩:=hcut;clear ba hI;generalize wc=wy at*;rw [<- hJ.out] at a5 ai;obtain ⟨_,_,bj,bm,bc⟩:=a5;clear hJ;have I1:(0:Int)<=I:=by omega
   have I3:(I:Int).toNat=I:=by omega
   obtain ⟨J1,J2,J3⟩:=ix J n
   rw [bb.out] at ai
   by_cases hgt:I>J
   ·
    rw [if_pos hgt] at ai;replace ai:=lh ai;have u0:decide ((I:Int)>(J:Int))=true:=decide_eq_true (by omega);have u1:decide ((J:Int)<(I:Int))=true:=u0;have u2:decide (J<I)=true:=decide_eq_true hgt;go_upto_region 8 with (fail)
    obtain ⟨x,hx⟩:=Ab D[J]!;obtain ⟨y,hy⟩:=Ab D[a]!;have ah:=az.out.cells (i:=J) (by omega);have ag:=az.out.cells (i:=a) (by omega);rw [hx.out] at ah;rw [hy.out] at ag;have ab:cI wy g (J*3) x.b:=ah.1;have ad:cI wy g (J*3+1) x.s:=ah.2.1;have aa:cU wy g (J*3+2) x.u:=ah.2.2;have af:cI wy g (a*3) y.b:=ag.1;have ac:cI wy g (a*3+1) y.s:=ag.2.1;have ae:cU wy g (a*3+2) y.u:=ag.2.2;have F0:Fr Non wy wy.drew:=(Fr.refl Non wy).drew;have a0:=(show Srt w0 wy.drew base _ c _ from az.out.non F0).swap (i:=J) (j:=a) (by omega) (by omega);rw [hx.out,hy.out] at a0;obtain ⟨a6,a7,a4⟩:=a0;refine Cv (S:=fun w'=>cI w' g (J*3) x.b/\cI w' g (J*3+1) x.s/\cU w' g (J*3+2) x.u/\cI w' g (a*3) y.b/\cI w' g (a*3+1) y.s/\cU w' g (a*3+2) y.u) 13 (by kernel_rfl) ?_;refine tkM 0 2 ⟨ab,ad,aa,af,ac,ae⟩ (h:=?_);refine tkP 2 ⟨ab,ad,aa,af,ac,ae⟩ ?_;simp only [zl];refine tkP 3 ⟨ab,ad,aa,af,ac,ae⟩ ?_;simp only [zl];refine tkM 4 4 ⟨ab,ad,aa,af,ac,ae⟩ (h:=?_);refine tkP 8 ⟨ab,ad,aa,af,ac,ae⟩ ?_;simp only [zl];refine tkP 9 ⟨ab,ad,aa,af,ac,ae⟩ ?_;simp only [zl];refine tkP 10 ⟨ab,ad,aa,af,ac,ae⟩ ?_;simp only [zl];refine tkM 11 2 ⟨ab,ad,aa,af,ac,ae⟩ (h:=?_);refine Cp (by kernel_rfl) ?_;refine stT 13 (h:=?_);refine tkN 14 1 trivial (h:=?_);refine stT 15 (h:=?_);refine oD ?_;go_simp;clear a6 a7;generalize Cy (Cy wy.drew g (J*3) y) g (a*3) x=wz at*;have hd:=lh (a8.out wz J D true ai.out.symm a4);clear a4 ai a8;go_wp2_with fail;exact hd.out
   ·
    rw [if_neg hgt] at ai;have aw:=bc hgt;have u0:decide ((I:Int)>(J:Int))=false:=decide_eq_false (by omega);have u1:decide ((J:Int)<(I:Int))=false:=u0;have u2:decide (J<I)=false:=decide_eq_false hgt;have I2:(I:Int)<n:=by omega
    have eI:IntKind.i64.wrap ((I:Int)+1)=((I+1:Nat):Int):=by rw [IntWalk.i64_in _ (by omega)];omega
    have eJ:IntKind.i64.wrap ((J:Int)-1)=((J-1:Nat):Int):=by rw [IntWalk.i64_in _ (by omega)];omega
    replace ai:=lh ai;go_upto_region 10 with (fail)
    obtain ⟨x,hx⟩:=Ab D[I]!;obtain ⟨y,hy⟩:=Ab D[J]!;have ah:=az.out.cells (i:=I) (by omega);have ag:=az.out.cells (i:=J) (by omega);rw [hx.out] at ah;rw [hy.out] at ag;have ab:cI wy g (I*3) x.b:=ah.1;have ad:cI wy g (I*3+1) x.s:=ah.2.1;have aa:cU wy g (I*3+2) x.u:=ah.2.2;have af:cI wy g (J*3) y.b:=ag.1;have ac:cI wy g (J*3+1) y.s:=ag.2.1;have ae:cU wy g (J*3+2) y.u:=ag.2.2;have F0:Fr Non wy wy.drew:=(Fr.refl Non wy).drew;have a0:=(show Srt w0 wy.drew base _ c _ from az.out.non F0).swap (i:=I) (j:=J) (by omega) (by omega);rw [hx.out,hy.out] at a0;obtain ⟨a6,a7,a4⟩:=a0;refine Cv (S:=fun w'=>cI w' g (I*3) x.b/\cI w' g (I*3+1) x.s/\cU w' g (I*3+2) x.u/\cI w' g (J*3) y.b/\cI w' g (J*3+1) y.s/\cU w' g (J*3+2) y.u) 13 (by kernel_rfl) ?_;refine tkM 0 2 ⟨ab,ad,aa,af,ac,ae⟩ (h:=?_);refine tkP 2 ⟨ab,ad,aa,af,ac,ae⟩ ?_;simp only [zl];refine tkP 3 ⟨ab,ad,aa,af,ac,ae⟩ ?_;simp only [zl];refine tkM 4 4 ⟨ab,ad,aa,af,ac,ae⟩ (h:=?_);refine tkP 8 ⟨ab,ad,aa,af,ac,ae⟩ ?_;simp only [zl];refine tkP 9 ⟨ab,ad,aa,af,ac,ae⟩ ?_;simp only [zl];refine tkP 10 ⟨ab,ad,aa,af,ac,ae⟩ ?_;simp only [zl];refine tkM 11 2 ⟨ab,ad,aa,af,ac,ae⟩ (h:=?_);refine Cp (by kernel_rfl) ?_;refine stT 13 (h:=?_);refine tkN 14 1 trivial (h:=?_);refine stT 15 (h:=?_);refine oD ?_;go_simp;clear a6 a7;generalize Cy (Cy wy.drew g (I*3) y) g (J*3) x=wz at*;have be:=lh a4;have bg:(swp D I J).size=n:=by rw [size_swp];exact bf
    clear a4 az ah ag ab ad aa af ac ae hx hy F0 bb;go_wp2_with fail
    go_loopw [12,13] (fun v v2 wr=>∃(i j:Nat) (D2:Array Id),v=.int .i64 (i:Int)/\v2=.int .i64 (j:Int)/\a+1<=i/\i<=j+1/\j<b/\D2.size=n/\Hid (Srt w0 wr base (some ⟨g,0,none⟩) c D2)/\Hid (PL=partLoop (Ac cmp) a i j D2)) (fun v v2 _=>(intOf v2).toNat+1-(intOf v).toNat)
    case atStart=>exact ⟨I+1,J-1,swp D I J,rfl,rfl,by omega,by omega,by omega,bg,be,ai⟩
    case round=>
     clear be bg ai bf eI eJ u0 u1 u2;obtain ⟨i,j,D2,rfl,rfl,bs,br,bt,bf,a9,bb⟩:=hrel;generalize wr=wo at*
     go_upto_block 6 with (fail)
     go_cut [12] from 105 to 122 (fun s wc=>∃k:Nat,s=.int .i64 (k:Int)/\Hid (k=scanUp (pU (Ac cmp) D2 a) D2 j i)/\Hid (Srt w0 wc base (some ⟨g,0,none⟩) c D2))
     case first=>
      go_wp2_with fail
      go_loopw [12] (fun v wr=>∃k:Nat,v=.int .i64 (k:Int)/\a+1<=k/\k<=b/\Hid (Srt w0 wr base (some ⟨g,0,none⟩) c D2)/\Hid (scanUp (pU (Ac cmp) D2 a) D2 j k=scanUp (pU (Ac cmp) D2 a) D2 j i)) (fun v _=>b+1-(intOf v).toNat)
      case atStart=>exact ⟨i,rfl,by omega,by omega,a9,rfl⟩
      case round=>
       clear a9;obtain ⟨k,rfl,bl,bh,hS,ax⟩:=hrel
       by_cases aw:k<=j
       ·
        obtain ⟨k1,k2,k3⟩:=ix k n
        have e1:=iw ((k:Int)+1);have u0:decide ((k:Int)<=((j:Nat):Int))=true:=decide_eq_true (by omega);have bd:decide (k<=j)=true:=decide_eq_true aw;go_upto_region 13 with (fail)
        obtain ⟨x,hx⟩:=Ab D2[k]!;obtain ⟨y,hy⟩:=Ab D2[a]!;have ah:=hS.out.cells (i:=k) (by omega);have ag:=hS.out.cells (i:=a) (by omega);rw [hx.out] at ah;rw [hy.out] at ag;have ab:cI wr g (k*3) x.b:=ah.1;have ad:cI wr g (k*3+1) x.s:=ah.2.1;have aa:cU wr g (k*3+2) x.u:=ah.2.2;have af:cI wr g (a*3) y.b:=ag.1;have ac:cI wr g (a*3+1) y.s:=ag.2.1;have ae:cU wr g (a*3+2) y.u:=ag.2.2;have F0:Fr Non wr wr.drew:=(Fr.refl Non wr).drew;have kc:=lh (fun (v:World) (hv:Fr Non wr v)=>HC.out.tells x y v (hS.out.fr.trans hv zr) (by rw [<- hx.out];exact hS.out.okAt (by omega)) (by rw [<- hy.out];exact hS.out.okAt (by omega)))
        rcases zb (decide (cmp x y<0)) with cT|cT
        ·
         have aj:pU (Ac cmp) D2 a D2[k]! =true:=by unfold pU;rw [hx.out,hy.out];exact cT
         have ay:Hid (scanUp (pU (Ac cmp) D2 a) D2 j (k+1)=scanUp (pU (Ac cmp) D2 a) D2 j i):=by
          show _=_;rw [<- ax.out];exact (Vm aw aj).symm
         clear aj;refine wp_region_held_drew (S:=fun w'=>cI w' g (k*3) x.b/\cI w' g (k*3+1) x.s/\cU w' g (k*3+2) x.u/\cI w' g (a*3) y.b/\cI w' g (a*3+1) y.s/\cU w' g (a*3+2) y.u) (by kernel_rfl) ⟨ab,ad,aa,af,ac,ae⟩ (fun uu=> ?_);refine tkN 0 13 uu (h:=?_);clear uu;refine oG 13 (fun K hK=> ?_);go_simp;go_wp2_with fail;refine (kc.out _ F0).mono ?_;rintro _ v1 ⟨rfl,f1⟩;have F1:=F0.trans f1 zr;obtain ⟨ak,ao,ar,av,aq,ap⟩:=zk6 F1 ab ad aa af ac ae;refine hK.out _ _ ⟨ak,ao,ar,av,aq,ap⟩ (fun uu=> ?_);clear hK K;try simp only [Ah,zl]
         refine tkN 14 2 uu (h:=?_);clear uu;refine oD ?_;go_simp;have au:=lh (hS.out.non F1);clear ab ad aa af ac ae ak ao ar av aq ap ah ag;go_wp2_with fail;go_roundw
         case rel=>exact ⟨k+1,by go_num,by omega,by omega,au,ay⟩
         case measure=>first|(simp [intOf];done)|(simp [intOf];omega)
        ·
         have aj:pU (Ac cmp) D2 a D2[k]! =false:=by unfold pU;rw [hx.out,hy.out];exact cT
         have hd:Hid (k=scanUp (pU (Ac cmp) D2 a) D2 j i):=by show _=_;rw [<- ax.out];exact (Lu (.inr aj)).symm
         clear aj;refine wp_region_held_drew (S:=fun w'=>cI w' g (k*3) x.b/\cI w' g (k*3+1) x.s/\cU w' g (k*3+2) x.u/\cI w' g (a*3) y.b/\cI w' g (a*3+1) y.s/\cU w' g (a*3+2) y.u) (by kernel_rfl) ⟨ab,ad,aa,af,ac,ae⟩ (fun uu=> ?_);refine tkN 0 13 uu (h:=?_);clear uu;refine oG 13 (fun K hK=> ?_);go_simp;go_wp2_with fail;refine (kc.out _ F0).mono ?_;rintro _ v1 ⟨rfl,f1⟩;have F1:=F0.trans f1 zr;obtain ⟨ak,ao,ar,av,aq,ap⟩:=zk6 F1 ab ad aa af ac ae;refine hK.out _ _ ⟨ak,ao,ar,av,aq,ap⟩ (fun uu=> ?_);clear hK K;try simp only [Ah,zl]
         refine tkN 14 2 uu (h:=?_);clear uu;refine oD ?_;go_simp;have au:=lh (hS.out.non F1);clear ab ad aa af ac ae ak ao ar av aq ap ah ag;go_wp2_with fail;go_meet;exact ⟨k,rfl,hd,au⟩
       ·
        have hd:Hid (k=scanUp (pU (Ac cmp) D2 a) D2 j i):=by show _=_;rw [<- ax.out];exact (Lu (.inl aw)).symm
        have u0:decide ((k:Int)<=((j:Nat):Int))=false:=decide_eq_false (by omega);have bd:decide (k<=j)=false:=decide_eq_false aw;have F0:Fr Non wr wr.drew:=(Fr.refl Non wr).drew;have au:=lh (hS.out.non F0);go_upto_region 13 with (fail)
        have Z0:True:=trivial;refine wp_region_held_drew (S:=fun w'=>True) (by kernel_rfl) Z0 (fun hHeld=> ?_);clear hHeld;refine tkN 0 4 Z0 (h:=skN 4 11 Z0 (h:=tkN 15 1 Z0 (h:=?_)));refine oD ?_;go_simp;clear Z0;go_wp2_with fail;go_meet;exact ⟨k,rfl,hd,au⟩
     case rest=>
      obtain ⟨I,rfl,hI,ba⟩:=hcut;clear a9;generalize wc=wx at*;have a5:=Vo (lt:=Ac cmp) (D:=D2) (a:=a) (i:=i) (j:=j) (by omega) (by omega);have ai:=bi.out i j D2;rw [<- hI.out] at a5 ai;have bk:=a5.1;have bn:=a5.2.1
      go_upto_block 8 with (fail)
      go_cut [13] from 123 to 141 (fun s wc=>∃k:Nat,s=.int .i64 (k:Int)/\Hid (k=scanDown (pD (Ac cmp) D2 a) D2 I j)/\Hid (Srt w0 wc base (some ⟨g,0,none⟩) c D2))
      case first=>
       go_wp2_with fail
       go_loopw [13] (fun v wr=>∃k:Nat,v=.int .i64 (k:Int)/\k<=j/\Hid (Srt w0 wr base (some ⟨g,0,none⟩) c D2)/\Hid (scanDown (pD (Ac cmp) D2 a) D2 I k=scanDown (pD (Ac cmp) D2 a) D2 I j)) (fun v _=>(intOf v).toNat)
       case atStart=>exact ⟨j,rfl,A60 _,ba,rfl⟩
       case round=>
        clear ba;obtain ⟨k,rfl,bh,hS,ax⟩:=hrel
        by_cases aw:I<=k
        ·
         obtain ⟨kp,rfl⟩:∃kp,k=kp+1:=⟨k-1,by omega⟩;have jc:((kp+1:Nat):Int)=(kp:Int)+1:=by omega
         rw [jc];have k1:(0:Int)<=(kp:Int)+1:=by omega
         have k2:(kp:Int)+1<n:=by omega
         have k3:((kp:Int)+1).toNat=kp+1:=by omega
         have wj:=iw (kp:Int);have bo:IntKind.i64.wrap ((kp:Int)+1-1)=(kp:Int):=by rw [show (kp:Int)+1-1=kp by omega];exact wj
         have u0:decide (((I:Nat):Int)<=(kp:Int)+1)=true:=decide_eq_true (by omega);have bd:decide (I<=kp+1)=true:=decide_eq_true aw;go_upto_region 15 with (fail)
         obtain ⟨x,hx⟩:=Ab D2[kp+1]!;obtain ⟨y,hy⟩:=Ab D2[a]!;have ah:=hS.out.cells (i:=(kp+1)) (by omega);have ag:=hS.out.cells (i:=a) (by omega);rw [hx.out] at ah;rw [hy.out] at ag;have ab:cI wr g ((kp+1)*3) x.b:=ah.1;have ad:cI wr g ((kp+1)*3+1) x.s:=ah.2.1;have aa:cU wr g ((kp+1)*3+2) x.u:=ah.2.2;have af:cI wr g (a*3) y.b:=ag.1;have ac:cI wr g (a*3+1) y.s:=ag.2.1;have ae:cU wr g (a*3+2) y.u:=ag.2.2;have F0:Fr Non wr wr.drew:=(Fr.refl Non wr).drew;have kc:=lh (fun (v:World) (hv:Fr Non wr v)=>HC.out.tells x y v (hS.out.fr.trans hv zr) (by rw [<- hx.out];exact hS.out.okAt (by omega)) (by rw [<- hy.out];exact hS.out.okAt (by omega)))
         rcases zb (decide (cmp x y<0)) with cT|cT
         ·
          have aj:pD (Ac cmp) D2 a D2[kp+1]! =false:=by unfold pD;rw [hx.out,hy.out,show Ac cmp x y=true from cT];rfl
          have hd:Hid (kp+1=scanDown (pD (Ac cmp) D2 a) D2 I j):=by show _=_;rw [<- ax.out];exact (Lv (.inr aj)).symm
          clear aj;refine wp_region_held_drew (S:=fun w'=>cI w' g ((kp+1)*3) x.b/\cI w' g ((kp+1)*3+1) x.s/\cU w' g ((kp+1)*3+2) x.u/\cI w' g (a*3) y.b/\cI w' g (a*3+1) y.s/\cU w' g (a*3+2) y.u) (by kernel_rfl) ⟨ab,ad,aa,af,ac,ae⟩ (fun uu=> ?_);refine tkN 0 13 uu (h:=?_);clear uu;refine oG 13 (fun K hK=> ?_);go_simp;go_wp2_with fail;refine (kc.out _ F0).mono ?_;rintro _ v1 ⟨rfl,f1⟩;have F1:=F0.trans f1 zr;obtain ⟨ak,ao,ar,av,aq,ap⟩:=zk6 F1 ab ad aa af ac ae;refine hK.out _ _ ⟨ak,ao,ar,av,aq,ap⟩ (fun uu=> ?_);clear hK K;try simp only [Ah,zl]
          refine tkN 14 3 uu (h:=?_);clear uu;refine oD ?_;go_simp;have au:=lh (hS.out.non F1);clear ab ad aa af ac ae ak ao ar av aq ap ah ag;go_wp2_with fail;go_meet;exact ⟨kp+1,by go_num,hd,au⟩
         ·
          have aj:pD (Ac cmp) D2 a D2[kp+1]! =true:=by unfold pD;rw [hx.out,hy.out,show Ac cmp x y=false from cT];rfl
          have ay:Hid (scanDown (pD (Ac cmp) D2 a) D2 I kp=scanDown (pD (Ac cmp) D2 a) D2 I j):=by
           show _=_;rw [<- ax.out];exact (Vn aw aj).symm
          clear aj;refine wp_region_held_drew (S:=fun w'=>cI w' g ((kp+1)*3) x.b/\cI w' g ((kp+1)*3+1) x.s/\cU w' g ((kp+1)*3+2) x.u/\cI w' g (a*3) y.b/\cI w' g (a*3+1) y.s/\cU w' g (a*3+2) y.u) (by kernel_rfl) ⟨ab,ad,aa,af,ac,ae⟩ (fun uu=> ?_);refine tkN 0 13 uu (h:=?_);clear uu;refine oG 13 (fun K hK=> ?_);go_simp;go_wp2_with fail;refine (kc.out _ F0).mono ?_;rintro _ v1 ⟨rfl,f1⟩;have F1:=F0.trans f1 zr;obtain ⟨ak,ao,ar,av,aq,ap⟩:=zk6 F1 ab ad aa af ac ae;refine hK.out _ _ ⟨ak,ao,ar,av,aq,ap⟩ (fun uu=> ?_);clear hK K;try simp only [Ah,zl]
          refine tkN 14 3 uu (h:=?_);clear uu;refine oD ?_;go_simp;have au:=lh (hS.out.non F1);clear ab ad aa af ac ae ak ao ar av aq ap ah ag;go_wp2_with fail;go_roundw
          case rel=>exact ⟨kp,by go_num,by omega,au,ay⟩
          case measure=>first|(simp [intOf];done)|(simp [intOf];omega)
        ·
         have hd:Hid (k=scanDown (pD (Ac cmp) D2 a) D2 I j):=by show _=_;rw [<- ax.out];exact (Lv (.inl aw)).symm
         have u0:decide (((I:Nat):Int)<=(k:Int))=false:=decide_eq_false (by omega);have bd:decide (I<=k)=false:=decide_eq_false aw;have F0:Fr Non wr wr.drew:=(Fr.refl Non wr).drew;have au:=lh (hS.out.non F0);go_upto_region 15 with (fail)
         have Z0:True:=trivial;refine wp_region_held_drew (S:=fun w'=>True) (by kernel_rfl) Z0 (fun hHeld=> ?_);clear hHeld;refine tkN 0 4 Z0 (h:=skN 4 12 Z0 (h:=tkN 16 1 Z0 (h:=?_)));refine oD ?_;go_simp;clear Z0;go_wp2_with fail;go_meet;exact ⟨k,rfl,hd,au⟩
      case rest=>
       obtain ⟨J,rfl,hJ,az⟩:=hcut;clear ba hI;generalize wc=wy at*;rw [<- hJ.out] at a5 ai;obtain ⟨_,_,bj,bm,bc⟩:=a5;clear hJ;have I1:(0:Int)<=I:=by omega
       have I3:(I:Int).toNat=I:=by omega
       obtain ⟨J1,J2,J3⟩:=ix J n
       rw [<- bb.out] at ai
       by_cases hgt:I>J
       ·
        rw [if_pos hgt] at ai;replace ai:=lh ai;have u0:decide ((I:Int)>(J:Int))=true:=decide_eq_true (by omega);have u1:decide ((J:Int)<(I:Int))=true:=u0;have u2:decide (J<I)=true:=decide_eq_true hgt;go_upto_region 21 with (fail)
        obtain ⟨x,hx⟩:=Ab D2[J]!;obtain ⟨y,hy⟩:=Ab D2[a]!;have ah:=az.out.cells (i:=J) (by omega);have ag:=az.out.cells (i:=a) (by omega);rw [hx.out] at ah;rw [hy.out] at ag;have ab:cI wy g (J*3) x.b:=ah.1;have ad:cI wy g (J*3+1) x.s:=ah.2.1;have aa:cU wy g (J*3+2) x.u:=ah.2.2;have af:cI wy g (a*3) y.b:=ag.1;have ac:cI wy g (a*3+1) y.s:=ag.2.1;have ae:cU wy g (a*3+2) y.u:=ag.2.2;have F0:Fr Non wy wy.drew:=(Fr.refl Non wy).drew;have a0:=(show Srt w0 wy.drew base _ c _ from az.out.non F0).swap (i:=J) (j:=a) (by omega) (by omega);rw [hx.out,hy.out] at a0;obtain ⟨a6,a7,a4⟩:=a0;refine Cv (S:=fun w'=>cI w' g (J*3) x.b/\cI w' g (J*3+1) x.s/\cU w' g (J*3+2) x.u/\cI w' g (a*3) y.b/\cI w' g (a*3+1) y.s/\cU w' g (a*3+2) y.u) 13 (by kernel_rfl) ?_;refine tkM 0 2 ⟨ab,ad,aa,af,ac,ae⟩ (h:=?_);refine tkP 2 ⟨ab,ad,aa,af,ac,ae⟩ ?_;simp only [zl];refine tkP 3 ⟨ab,ad,aa,af,ac,ae⟩ ?_;simp only [zl];refine tkM 4 4 ⟨ab,ad,aa,af,ac,ae⟩ (h:=?_);refine tkP 8 ⟨ab,ad,aa,af,ac,ae⟩ ?_;simp only [zl];refine tkP 9 ⟨ab,ad,aa,af,ac,ae⟩ ?_;simp only [zl];refine tkP 10 ⟨ab,ad,aa,af,ac,ae⟩ ?_;simp only [zl];refine tkM 11 2 ⟨ab,ad,aa,af,ac,ae⟩ (h:=?_);refine Cp (by kernel_rfl) ?_;refine stT 13 (h:=?_);refine tkN 14 1 trivial (h:=?_);refine stT 15 (h:=?_);refine oD ?_;go_simp;clear a6 a7;generalize Cy (Cy wy.drew g (J*3) y) g (a*3) x=wz at*;have hd:=lh (a8.out wz J D2 false ai.out.symm a4);clear a4 ai a8;go_wp2_with fail;exact hd.out
       ·
        rw [if_neg hgt] at ai;have aw:=bc hgt;have u0:decide ((I:Int)>(J:Int))=false:=decide_eq_false (by omega);have u1:decide ((J:Int)<(I:Int))=false:=u0;have u2:decide (J<I)=false:=decide_eq_false hgt;have I2:(I:Int)<n:=by omega
        have eI:IntKind.i64.wrap ((I:Int)+1)=((I+1:Nat):Int):=by rw [IntWalk.i64_in _ (by omega)];omega
        have eJ:IntKind.i64.wrap ((J:Int)-1)=((J-1:Nat):Int):=by rw [IntWalk.i64_in _ (by omega)];omega
        replace ai:=lh ai;go_upto_region 18 with (fail)
        obtain ⟨x,hx⟩:=Ab D2[I]!;obtain ⟨y,hy⟩:=Ab D2[J]!;have ah:=az.out.cells (i:=I) (by omega);have ag:=az.out.cells (i:=J) (by omega);rw [hx.out] at ah;rw [hy.out] at ag;have ab:cI wy g (I*3) x.b:=ah.1;have ad:cI wy g (I*3+1) x.s:=ah.2.1;have aa:cU wy g (I*3+2) x.u:=ah.2.2;have af:cI wy g (J*3) y.b:=ag.1;have ac:cI wy g (J*3+1) y.s:=ag.2.1;have ae:cU wy g (J*3+2) y.u:=ag.2.2;have F0:Fr Non wy wy.drew:=(Fr.refl Non wy).drew;have a0:=(show Srt w0 wy.drew base _ c _ from az.out.non F0).swap (i:=I) (j:=J) (by omega) (by omega);rw [hx.out,hy.out] at a0;obtain ⟨a6,a7,a4⟩:=a0;refine Cv (S:=fun w'=>cI w' g (I*3) x.b/\cI w' g (I*3+1) x.s/\cU w' g (I*3+2) x.u/\cI w' g (J*3) y.b/\cI w' g (J*3+1) y.s/\cU w' g (J*3+2) y.u) 13 (by kernel_rfl) ?_;refine tkM 0 2 ⟨ab,ad,aa,af,ac,ae⟩ (h:=?_);refine tkP 2 ⟨ab,ad,aa,af,ac,ae⟩ ?_;simp only [zl];refine tkP 3 ⟨ab,ad,aa,af,ac,ae⟩ ?_;simp only [zl];refine tkM 4 4 ⟨ab,ad,aa,af,ac,ae⟩ (h:=?_);refine tkP 8 ⟨ab,ad,aa,af,ac,ae⟩ ?_;simp only [zl];refine tkP 9 ⟨ab,ad,aa,af,ac,ae⟩ ?_;simp only [zl];refine tkP 10 ⟨ab,ad,aa,af,ac,ae⟩ ?_;simp only [zl];refine tkM 11 2 ⟨ab,ad,aa,af,ac,ae⟩ (h:=?_);refine Cp (by kernel_rfl) ?_;refine stT 13 (h:=?_);refine tkN 14 1 trivial (h:=?_);refine stT 15 (h:=?_);refine oD ?_;go_simp;clear a6 a7;generalize Cy (Cy wy.drew g (I*3) y) g (J*3) x=wz at*;have be:=lh a4;have bg:(swp D2 I J).size=n:=by rw [size_swp];exact bf
        clear a4 az ah ag ab ad aa af ac ae hx hy F0 bb;go_wp2_with fail;go_roundw
        case rel=>exact ⟨I+1,J-1,swp D2 I J,rfl,rfl,by omega,by omega,by omega,bg,be,ai⟩
        case measure=>first|(simp [intOf];done)|(simp [intOf];omega)
end Oq
end
section
open Go.RowKit Go.Sort
namespace Oq
theorem Az9 {lt:Id->Id->Bool} {d:Array Id} {a b l:Nat} {x y:Bool} (h:b-a<=12):pdq lt d a b l x y=insertionSort lt d a b:=by
 unfold pdq;rw [if_pos h]
theorem Vp {lt:Id->Id->Bool} {d:Array Id} {i j k:Nat}:(median lt d i j k 0).2<=3:=by
 have h:∀(a b s:Nat),(order2 lt d a b s).2.2<=s+1:=fun a b s=>by
  unfold order2
  split
  · exact A60 _
  · exact Nat.le_succ _
 unfold median;have h1:=h i j 0;have h2:=h (order2 lt d i j 0).2.1 k (order2 lt d i j 0).2.2;have h3:=h (order2 lt d i j 0).1 (order2 lt d (order2 lt d i j 0).2.1 k (order2 lt d i j 0).2.2).1 (order2 lt d (order2 lt d i j 0).2.1 k (order2 lt d i j 0).2.2).2.2;dsimp only;omega
theorem A00 {lt:Id->Id->Bool} (hS:SWO lt) {d:Array Id} {i j k:Nat} (hij:lt d[i]! d[j]! =true\/lt d[j]! d[i]! =true) (hik:lt d[i]! d[k]! =true\/lt d[k]! d[i]! =true) (hjk:lt d[j]! d[k]! =true\/lt d[k]! d[j]! =true):
  ((median lt d i j k 0).1=i\/(median lt d i j k 0).1=j\/(median lt d i j k 0).1=k)/\(∃u,(u=i\/u=j\/u=k)/\lt d[u]! d[(median lt d i j k 0).1]! =true)/\(∃u,(u=i\/u=j\/u=k)/\lt d[(median lt d i j k 0).1]! d[u]! =true):=by
 have asy:∀x y,lt x y=true->lt y x=false:=fun x y h=>by
  cases h2:lt y x with
  |false=>rfl
  |true=>have:=hS.trans x y x h h2;rw [hS.irrefl] at this;cases this
 have tr:=hS.trans;have oT:∀(x y z:Nat),lt d[y]! d[x]! =true->order2 lt d x y z=(y,x,z+1):=fun x y z h=>by unfold order2;rw [if_pos h]
 have oF:∀(x y z:Nat),lt d[y]! d[x]! =false->order2 lt d x y z=(x,y,z):=fun x y z h=>by unfold order2;rw [if_neg (by rw [h];decide)]
 unfold median
 rcases hij with a|a<;>rcases hik with b|b<;>rcases hjk with c|c
 ·
  have a':=asy _ _ a;have b':=asy _ _ b;have c':=asy _ _ c;simp only [oF _ _ _ a',oF _ _ _ c'];exact ⟨by simp,⟨i,.inl rfl,a⟩,⟨k,.inr (.inr rfl),c⟩⟩
 ·
  have a':=asy _ _ a;have b':=asy _ _ b;simp only [oF _ _ _ a',oT _ _ _ c,oF _ _ _ b'];exact ⟨by simp,⟨i,.inl rfl,b⟩,⟨j,.inr (.inl rfl),c⟩⟩
 ·
  have h1:=tr _ _ _ a c;rw [asy _ _ b] at h1
  cases h1
 ·
  have a':=asy _ _ a;simp only [oF _ _ _ a',oT _ _ _ c,oT _ _ _ b];exact ⟨by simp,⟨k,.inr (.inr rfl),b⟩,⟨j,.inr (.inl rfl),a⟩⟩
 ·
  have b':=asy _ _ b;have a':=asy _ _ a;simp only [oT _ _ _ a,oF _ _ _ b',oF _ _ _ a'];exact ⟨by simp,⟨j,.inr (.inl rfl),a⟩,⟨k,.inr (.inr rfl),b⟩⟩
 ·
  have h1:=tr _ _ _ c a;rw [asy _ _ b] at h1
  cases h1
 ·
  have c':=asy _ _ c;simp only [oT _ _ _ a,oT _ _ _ b,oF _ _ _ c'];exact ⟨by simp,⟨j,.inr (.inl rfl),c⟩,⟨i,.inl rfl,b⟩⟩
 ·
  simp only [oT _ _ _ a,oT _ _ _ b,oT _ _ _ c];exact ⟨by simp,⟨k,.inr (.inr rfl),c⟩,⟨i,.inl rfl,a⟩⟩
theorem A01 {lt:Id->Id->Bool} (hS:SWO lt) {d:Array Id} {n p u v:Nat} (hn:n=d.size) (hp:p<n) (hu:u<n) (hv:v<n) (h1:lt d[u]! d[p]! =true) (h2:lt d[p]! d[v]! =true):
  1<=(partition lt d 0 n p).1/\(partition lt d 0 n p).1+2<=n:=by
 obtain ⟨_,r2,r3,r4,r5⟩:=partition_holds lt hS d 0 n p (A59 _) hp (Nat.le_of_eq hn)
 have r6:(partition lt d 0 n p).2.2[(partition lt d 0 n p).1]! =d[p]! :=by
  rw [partition_arr,partition_fst];obtain ⟨_,q2,q3,_,_⟩:=partLoop_spec lt 0 n _ (0+1) (n-1) (swp d 0 p) (A60 _) (Nat.lt_succ_self 0) (by omega) (by omega) (by rw [size_swp];omega) (fun t h1 h2=>by omega) (fun t h1 h2=>by omega);generalize partLoop lt 0 (0+1) (n-1) (swp d 0 p)=res at q2 q3 ⊢;obtain ⟨r,d'⟩:=res;have hs:d'.size=d.size:=by rw [q3.1,size_swp]
  have ea:d'[0]! =(swp d 0 p)[0]! :=q3.2.1 0 (Or.inl (Nat.lt_succ_self 0))
  have ep:(swp d 0 p)[0]! =d[p]! :=by
   by_cases e:(0:Nat)=p
   · rw [<- e,swp_right d 0 0 (by omega)]
   · rw [swp_left d 0 p (by omega) e]
  dsimp only at q2 ⊢
  by_cases e:r=0
  · rw [e,swp_right d' 0 0 (by omega),ea,ep]
  · rw [swp_left d' r 0 (by omega) e,ea,ep]
 generalize (partition lt d 0 n p).1=m at*;generalize (partition lt d 0 n p).2.2=D at*
 have asy:∀x y,lt x y=true->lt y x=false:=fun x y h=>by
  cases h2:lt y x with
  |false=>rfl
  |true=>have:=hS.trans x y x h h2;rw [hS.irrefl] at this;cases this
 have hD:D.size=n:=by rw [r3.1];exact hn.symm
 have find:∀w,w<n->∃q,q<n/\D[q]! =d[w]! :=fun w hw=>by
  have e1:(D.extract 0 n).toList=D.toList:=by rw [<- hD];simp
  have e2:(d.extract 0 n).toList=d.toList:=by rw [hn];simp
  have hpm:=r3.2.2;rw [e1,e2] at hpm;have hm:d[w]! ∈d.toList:=List.mem_of_getElem? (Hh (by omega));obtain ⟨q,hq⟩:=List.getElem?_of_mem (hpm.mem_iff.2 hm);have hql:q<D.size:=by have:=(List.getElem?_eq_some_iff.1 hq).1;simpa using this
  rw [Hh hql] at hq;injection hq with hq
  exact ⟨q,by omega,hq⟩
 constructor
 ·
  obtain ⟨q,hq,e⟩:=find u hu
  rcases A62 q m with h|h|h
  · omega
  ·
   rw [h,r6] at e;rw [<- e,hS.irrefl] at h1
   cases h1
  ·
   have:=r5 q h hq;rw [e,r6,h1] at this
   cases this
 ·
  obtain ⟨q,hq,e⟩:=find v hv
  rcases A62 q m with h|h|h
  ·
   have:=r4 q (A59 _) h;rw [e,r6] at this;rw [asy _ _ this] at h2
   cases h2
  ·
   rw [h,r6] at e;rw [<- e,hS.irrefl] at h2
   cases h2
  · omega
theorem Vq {d d':Array Id} (h:PermIn 0 d.size d d'):d'.toList.Perm d.toList:=by
 have h4:=h.2.2;have e1:(d'.extract 0 d.size).toList=d'.toList:=by rw [<- h.1];simp
 have e2:(d.extract 0 d.size).toList=d.toList:=by simp
 rw [e1,e2] at h4;exact h4
theorem A02 {lt:Id->Id->Bool} {d:Array Id} {n:Nat} (hn:n=13\/n=14) (hm:1<=(partition lt d 0 n (median lt d 3 6 9 0).1).1/\(partition lt d 0 n (median lt d 3 6 9 0).1).1+2<=n):
  pdq lt d 0 n 4 true true=if (median lt d 3 6 9 0).2=0/\scanSorted lt d n (0+1)=n then d else
   if (partition lt d 0 n (median lt d 3 6 9 0).1).1<n-(partition lt d 0 n (median lt d 3 6 9 0).1).1
   then insertionSort lt (insertionSort lt (partition lt d 0 n (median lt d 3 6 9 0).1).2.2 0 (partition lt d 0 n (median lt d 3 6 9 0).1).1) ((partition lt d 0 n (median lt d 3 6 9 0).1).1+1) n
   else insertionSort lt (insertionSort lt (partition lt d 0 n (median lt d 3 6 9 0).1).2.2 ((partition lt d 0 n (median lt d 3 6 9 0).1).1+1) n) 0 (partition lt d 0 n (median lt d 3 6 9 0).1).1:=by
 have hc:choosePivot lt d 0 n=((median lt d 3 6 9 0).1,if (median lt d 3 6 9 0).2=0 then .increasing else if (median lt d 3 6 9 0).2=12 then .decreasing else .unknown):=by
  rcases hn with rfl|rfl<;>rfl
 have hf:=Vp (lt:=lt) (d:=d) (i:=3) (j:=6) (k:=9)
 have hpi:partialInsertionSort lt d 0 n=if scanSorted lt d n (0+1)=n then (d,true) else (d,false):=by
  unfold partialInsertionSort partialIns;dsimp only
  by_cases h:scanSorted lt d n (0+1)=n
  · rw [if_pos h,if_pos h]
  · rw [if_neg h,if_neg h,if_pos (by omega)]
 have hsm:∀(D:Array Id) (a b:Nat) (x y:Bool),b-a<=12->pdq lt D a b 4 x y=insertionSort lt D a b:=fun D a b x y h=>Az9 h;have hn2:¬n-0<=12:=by omega
 unfold pdq;rw [if_neg hn2,if_neg (by decide)];simp only [A61,A63,if_false,hc];generalize median lt d 3 6 9 0=R at*;obtain ⟨P,M⟩:=R;dsimp only at hf hm ⊢;have h12:M≠12:=by omega
 have h2:0<=(partition lt d 0 n P).1/\(partition lt d 0 n P).1<n:=⟨A59 _,by omega⟩
 by_cases h0:M=0
 ·
  by_cases hs:scanSorted lt d n (0+1)=n
  · simp [h0,hs,hpi]
  ·
   simp only [h0,hs,hpi,if_true,if_false,h2,and_false,and_self,dite_true,reduceCtorEq,A63,Bool.and_self,decide_true,Nat.lt_irrefl,gt_iff_lt,decide_false,Bool.false_and,Nat.sub_zero]
   by_cases hlt:(partition lt d 0 n P).1<n-(partition lt d 0 n P).1
   · rw [if_pos hlt,if_pos hlt,hsm _ _ _ _ _ (by omega),hsm _ _ _ _ _ (by omega)]
   · rw [if_neg hlt,if_neg hlt,hsm _ _ _ _ _ (by omega),hsm _ _ _ _ _ (by omega)]
 ·
  simp only [h0,h12,hpi,if_false,h2,false_and,and_self,dite_true,reduceCtorEq,A63,Bool.and_self,decide_false,Bool.and_false,Nat.lt_irrefl,gt_iff_lt,Bool.false_and,Nat.sub_zero]
  by_cases hlt:(partition lt d 0 n P).1<n-(partition lt d 0 n P).1
  · rw [if_pos hlt,if_pos hlt,hsm _ _ _ _ _ (by omega),hsm _ _ _ _ _ (by omega)]
  · rw [if_neg hlt,if_neg hlt,hsm _ _ _ _ _ (by omega),hsm _ _ _ _ _ (by omega)]
end Oq
end
section
open Go.RowKit Go.Sort Go.Shelf
namespace Oq
attribute [local go_sem] Bool.not_false A61
attribute [local go_sem ↓] O6
theorem Vr (w0:World) (base c:Nat) (A:Option Addr) (d:Array Id) (n:Nat) (a b l:Nat) (fid:Nat) (pre post:Array Value) (cmp:Id->Id->Int) (w:World)
  (hc:Fu w0 fid pre post cmp) (h:Srt w0 w base A c d) (hdn:d.size=n) (hn:n<=1000) (hab:a<=b) (hb:b<=n) (h12:b-a<=12):
  Calls zp 150 #[.slice A n c,.int .i64 a,.int .i64 b,.int .i64 l,.func (.func fid) pre post] w (Eo w0 base A c (insertionSort (Ac cmp) d a b)):=by
 have eg:=hc.enters;have HC:=lh hc;have HS:=lh h;clear hc h;clear eg;have ki:=lh (fun (v:World) (hS:Srt w0 v base A c d)=>Vk w0 base c A d n a b fid pre post cmp v HC.out hS hdn hn hab hb);unfold Eo at ki;have hfin:Hid (∀wz,Srt w0 wz base A c (insertionSort (Ac cmp) d a b)->Eo w0 base A c (insertionSort (Ac cmp) d a b) (.returned (.tuple #[])) wz):=fun wz h=>⟨rfl,h⟩;generalize Eo w0 base A c (insertionSort (Ac cmp) d a b)=POST at*;generalize insertionSort (Ac cmp) d a b=RES at*;go_enter func150,ntmps150;have eb:=iw ((b:Int)-(a:Int));have t12:decide ((b:Int)-(a:Int)<=12)=true:=decide_eq_true (by omega);go_wp2_with fail
 go_loopw [1,2,3,10,11] (fun va vb vl v1 v2 wr=>va=.int .i64 (a:Int)/\vb=.int .i64 (b:Int)/\vl=.int .i64 (l:Int)/\v1=.bool true/\v2=.bool true/\Hid (Srt w0 wr base A c d)) (fun _ _ _ _ _ _=>0)
 case atStart=>exact ⟨rfl,rfl,rfl,rfl,rfl,HS⟩
 case round=>
  obtain ⟨rfl,rfl,rfl,rfl,rfl,hS⟩:=hrel;have k1:=lh (ki.out wr hS.out);clear ki;go_wp2_with (go_at_call 196;(with_reducible refine (k1.out).mono ?_);rintro _ wz ⟨rfl,hz⟩)
  first|exact hfin.out _ hz|(go_end0;exact hfin.out _ hz)
theorem A03 (w0:World) (base c:Nat) (A:Option Addr) (d:Array Id) (n:Nat) (fid:Nat) (pre post:Array Value) (cmp:Id->Id->Int) (w:World)
  (hc:Fu w0 fid pre post cmp) (h:Srt w0 w base A c d) (hdn:d.size=n) (hn:n<=1000) (h13:n=13\/n=14) (hO:SWO (Ac cmp)) (hT:∀i j,i<n->j<n->i≠j->Ac cmp d[i]! d[j]! =true\/Ac cmp d[j]! d[i]! =true):
  Calls zp 150 #[.slice A n c,.int .i64 0,.int .i64 n,.int .i64 4,.func (.func fid) pre post] w (Eo w0 base A c (pdq (Ac cmp) d 0 n 4 true true)):=by
 have eg:=hc.enters;have HC:=lh hc;have HS:=lh h;clear hc h;clear eg;obtain ⟨ax,⟨u,hu,au⟩,⟨v,hv,hv2⟩⟩:=A00 hO (hT 3 6 (by omega) (by omega) (by omega)) (hT 3 9 (by omega) (by omega) (by omega)) (hT 6 9 (by omega) (by omega) (by omega));have aq:(median (Ac cmp) d 3 6 9 0).1<n:=by omega
 have ad:=A01 hO hdn.symm aq (by omega) (by omega) au hv2;have ac:=A02 h13 ad;have ay:=Vp (lt:=Ac cmp) (d:=d) (i:=3) (j:=6) (k:=9);have kc:=lh (fun (v:World) (hS:Srt w0 v base A c d)=>Az4 w0 base c A d n fid pre post cmp v HC.out hS hdn hn h13);have af:Hid (∀(v:World),Srt w0 v base A c d->Calls zp 201 #[.slice A n c,.int .i64 0,.int .i64 n,.func (.func fid) pre post] v (Ji w0 base A c d (scanSorted (Ac cmp) d n (0+1)) n)):=fun v hS=>Az7 w0 base c A d n 0 n fid pre post cmp v HC.out hS hdn hn (by omega) (A60 _) (by omega)
 have ag:Hid (∀(v:World),Srt w0 v base A c d->Calls zp 203 #[.slice A n c,.int .i64 0,.int .i64 n,.int .i64 ((median (Ac cmp) d 3 6 9 0).1:Int),.func (.func fid) pre post] v (Jj w0 base A c (partition (Ac cmp) d 0 n (median (Ac cmp) d 3 6 9 0).1).2.2 (partition (Ac cmp) d 0 n (median (Ac cmp) d 3 6 9 0).1).1)):=fun v hS=>by
  have h9:=Az8 w0 base c A d n 0 n (median (Ac cmp) d 3 6 9 0).1 fid pre post cmp v HC.out hS hdn hn (A59 _) aq (A60 _);rw [<- partition_arr,<- partition_fst] at h9;exact h9
 have ae:(partition (Ac cmp) d 0 n (median (Ac cmp) d 3 6 9 0).1).2.2.size=n:=by rw [(partition_holds (Ac cmp) hO d 0 n (median (Ac cmp) d 3 6 9 0).1 (A59 _) aq (Nat.le_of_eq hdn.symm)).2.2.1.1];exact hdn
 have ai:∀(D:Array Id) (a b:Nat),D.size=n->a<=b->b<=n->(insertionSort (Ac cmp) D a b).size=n:=fun D a b h1 h2 h3=>by rw [(insertionSort_holds hO D a b h2 (by omega)).1.1];exact h1
 have kS:=lh (fun (D:Array Id) (a b:Nat) (v:World) (hS:Srt w0 v base A c D) (h1:D.size=n) (h2:a<=b) (h3:b<=n) (h4:b-a<=12)=>Vr w0 base c A D n a b 4 fid pre post cmp v HC.out hS h1 hn h2 h3 h4);have kI:=lh (fun (D:Array Id) (a b:Nat) (v:World) (hS:Srt w0 v base A c D) (h1:D.size=n) (h2:a<=b) (h3:b<=n)=>Vk w0 base c A D n a b fid pre post cmp v HC.out hS h1 hn h2 h3);unfold Lt at kc;unfold Ji at af;unfold Jj at ag;unfold Eo at kI;have ab:Hid (∀wz dz,dz=pdq (Ac cmp) d 0 n 4 true true->Srt w0 wz base A c dz->Eo w0 base A c (pdq (Ac cmp) d 0 n 4 true true) (.returned (.tuple #[])) wz):=fun wz dz e h=>⟨rfl,e▸h⟩;generalize Eo w0 base A c (pdq (Ac cmp) d 0 n 4 true true)=POST at*;generalize pdq (Ac cmp) d 0 n 4 true true=RES at*;generalize median (Ac cmp) d 3 6 9 0=R at*;obtain ⟨P,M⟩:=R;dsimp only at aq ad ac ay ae kc ag;generalize scanSorted (Ac cmp) d n (0+1)=SC at*;generalize (partition (Ac cmp) d 0 n P).1=m at*;generalize (partition (Ac cmp) d 0 n P).2.2=D4 at*;have az:=ad.1;have a3:=ad.2;have aa:Hid (M=0->SC=n->RES=d):=fun h1 h2=>by rw [ac,if_pos ⟨h1,h2⟩]
 have aj:Hid (¬(M=0/\SC=n)->m<n-m->insertionSort (Ac cmp) (insertionSort (Ac cmp) D4 0 m) (m+1) n=RES):=fun h1 h2=>by rw [ac,if_neg h1,if_pos h2]
 have ah:Hid (¬(M=0/\SC=n)->¬m<n-m->insertionSort (Ac cmp) (insertionSort (Ac cmp) D4 (m+1) n) 0 m=RES):=fun h1 h2=>by rw [ac,if_neg h1,if_neg h2]
 have kl:Hid (∀(v:World),Srt w0 v base A c D4->Calls zp 150 #[.slice A n c,.int .i64 0,.int .i64 (m:Int),.int .i64 4,.func (.func fid) pre post] v (Eo w0 base A c (insertionSort (Ac cmp) D4 0 m))):=fun v hS=>kS.out D4 0 m v hS ae (A59 _) (by omega) (by omega)
 have kr:Hid (∀(v:World),Srt w0 v base A c D4->Calls zp 150 #[.slice A n c,.int .i64 ((m:Int)+1),.int .i64 n,.int .i64 4,.func (.func fid) pre post] v (Eo w0 base A c (insertionSort (Ac cmp) D4 (m+1) n))):=fun v hS=>by
  have h9:=kS.out D4 (m+1) n v hS ae (by omega) (A60 _) (by omega);rw [show ((m+1:Nat):Int)=(m:Int)+1 by omega] at h9;exact h9
 have av:=ai D4 0 m ae (A59 _) (by omega);have ar:=ai D4 (m+1) n ae (by omega) (A60 _);unfold Eo at kl kr;generalize insertionSort (Ac cmp) D4 0 m=DL at*;generalize insertionSort (Ac cmp) D4 (m+1) n=DR at*;clear ac ad ax hu au hv hv2 hT ai kS HC hO;go_enter func150,ntmps150;have e0:=iw (n:Int);have em:=iw (m:Int);have a0:IntKind.i64.wrap ((m:Int)+1)=((m+1:Nat):Int):=by rw [IntWalk.i64_in _ (by omega)];omega
 have a1:=iw ((n:Int)-(m:Int));have q8:(n:Int).tdiv 8=1:=by rcases h13 with rfl|rfl<;>decide
 have a4:decide ((n:Int)<=12)=false:=decide_eq_false (by omega);have aw:decide (n<=12)=false:=decide_eq_false (by omega);go_wp2_with fail
 go_loopw [1,2,3,10,11] (fun va vb vl v1 v2 wr=>(va=.int .i64 0/\vb=.int .i64 (n:Int)/\vl=.int .i64 4/\v1=.bool true/\v2=.bool true/\Hid (Srt w0 wr base A c d))\/(∃(a b:Nat) (b1 b2:Bool) (D:Array Id),va=.int .i64 (a:Int)/\vb=.int .i64 (b:Int)/\vl=.int .i64 4/\v1=.bool b1/\v2=.bool b2/\a<=b/\b<=n/\b-a<=12/\D.size=n/\Hid (Srt w0 wr base A c D)/\Hid (insertionSort (Ac cmp) D a b=RES))) (fun va vb _ _ _ _=>(intOf vb-intOf va).toNat)
 case atStart=>exact .inl ⟨rfl,rfl,rfl,rfl,rfl,HS⟩
 case round=>
  clear HS
  rcases hrel with ⟨rfl,rfl,rfl,rfl,rfl,hS⟩|⟨a,b,b1,b2,D,rfl,rfl,rfl,rfl,rfl,hab,hbn,hba,hDs,hS,hR⟩
  case inr=>
   have eb:=iw ((b:Int)-(a:Int));have a2:decide ((b:Int)-(a:Int)<=12)=true:=decide_eq_true (by omega);have k1:=lh (kI.out D a b wr hS.out hDs hab hbn);rw [hR.out] at k1;clear kI kl kr kc af ag;go_wp2_with (go_at_call 196;(with_reducible refine (k1.out).mono ?_);rintro _ wz ⟨rfl,hz⟩)
   first|exact ab.out _ _ rfl hz|(go_end0;exact ab.out _ _ rfl hz)
  case inl=>
   have k1:=lh (kc.out wr hS.out);clear kc kI;have ao:Hid (M=0->Ez M=1):=fun h=>by unfold Ez;rw [if_pos h]
   have ap:Hid (M≠0->Ez M=0):=fun h=>by unfold Ez;rw [if_neg h,if_neg (by omega)]
   obtain ⟨H,hH⟩:=Ab (Ez M);rw [hH.out] at k1 ao ap;clear hH
   by_cases h0:M=0
   ·
    obtain rfl:H=1:=ao.out h0;clear ao ap
    by_cases hsn:SC=n
    ·
     have hb:(SC==n)=true:=beq_iff_eq.2 hsn;have hd:=lh (fun wz h=>ab.out wz d (aa.out h0 hsn).symm h);clear aj ah aa ab kl kr ag hsn h0
     go_wp2_with (first
      |(go_at_call 199;(with_reducible refine (k1.out).mono ?_);rintro _ w1 ⟨rfl,s1⟩;have k2:=lh (af.out w1 s1))
      |(go_at_call 201;(with_reducible refine (k2.out).mono ?_);rintro _ w2 ⟨rfl,s2⟩))
     first|exact hd.out _ s2|(go_end0;exact hd.out _ s2)
    ·
     have hb:(SC==n)=false:=beq_eq_false_iff_ne.2 hsn;have ak:¬(M=0/\SC=n):=fun h=>hsn h.2
     go_upto_region 17 with (first
      |(go_at_call 199;(with_reducible refine (k1.out).mono ?_);rintro _ w1 ⟨rfl,s1⟩;have k2:=lh (af.out w1 s1))
      |(go_at_call 201;(with_reducible refine (k2.out).mono ?_);rintro _ w2 ⟨rfl,s2⟩))
     have F0:Fr Non w2 w2.drew:=(Fr.refl Non w2).drew;have k3:=lh (ag.out _ (s2.non F0));clear ag k1;have Z0:True:=trivial;refine wp_region_held_drew (S:=fun w'=>True) (by kernel_rfl) Z0 (fun hHeld=> ?_);clear hHeld;refine tkN 0 3 Z0 (h:=skN 3 13 Z0 (h:=tkN 16 1 Z0 (h:=?_)));refine oD ?_;go_simp;clear Z0
     by_cases hlt:m<n-m
     ·
      have hd:=lh (aj.out ak hlt);have l1:decide ((m:Int)<(n:Int)-(m:Int))=true:=decide_eq_true (by omega);clear aj ah aa ab
      go_wp2_with (first
       |(go_at_call 203;(with_reducible refine (k3.out).mono ?_);rintro _ w3 ⟨al,rfl,s3⟩;have k4:=lh (kl.out w3 s3);have k5:=lh (kr.out w3 s3))
       |(go_at_call 150;(with_reducible refine (k4.out).mono ?_);rintro _ w4 ⟨rfl,s4⟩))
      have s5:=lh s4;clear s4 s3 k3 kl kr k4 k5 af;go_roundw
      case rel=>exact .inr ⟨m+1,n,_,_,DL,by first|rfl|go_num,by first|rfl|go_num,rfl,rfl,rfl,by omega,by omega,by omega,av,s5,hd⟩
      case measure=>first|(simp [intOf];done)|(simp [intOf];omega)
     ·
      have hd:=lh (ah.out ak hlt);have l1:decide ((m:Int)<(n:Int)-(m:Int))=false:=decide_eq_false (by omega);clear aj ah aa ab
      go_wp2_with (first
       |(go_at_call 203;(with_reducible refine (k3.out).mono ?_);rintro _ w3 ⟨al,rfl,s3⟩;have k4:=lh (kl.out w3 s3);have k5:=lh (kr.out w3 s3))
       |(go_at_call 150;(with_reducible refine (k5.out).mono ?_);rintro _ w4 ⟨rfl,s4⟩))
      have s5:=lh s4;clear s4 s3 k3 kl kr k4 k5 af;go_roundw
      case rel=>exact .inr ⟨0,m,_,_,DR,by first|rfl|go_num,by first|rfl|go_num,rfl,rfl,rfl,by omega,by omega,by omega,ar,s5,hd⟩
      case measure=>first|(simp [intOf];done)|(simp [intOf];omega)
   ·
    obtain rfl:H=0:=ap.out h0;have ak:¬(M=0/\SC=n):=fun h=>h0 h.1;clear ao ap;go_upto_region 17 with (go_at_call 199;(with_reducible refine (k1.out).mono ?_);rintro _ w1 ⟨rfl,s1⟩;have k2:=lh (af.out w1 s1))
    have F0:Fr Non w1 w1.drew:=(Fr.refl Non w1).drew;have k3:=lh (ag.out _ (s1.non F0));clear ag k1;have Z0:True:=trivial;refine wp_region_held_drew (S:=fun w'=>True) (by kernel_rfl) Z0 (fun hHeld=> ?_);clear hHeld;refine tkN 0 3 Z0 (h:=skN 3 13 Z0 (h:=tkN 16 1 Z0 (h:=?_)));refine oD ?_;go_simp;clear Z0
    by_cases hlt:m<n-m
    ·
     have hd:=lh (aj.out ak hlt);have l1:decide ((m:Int)<(n:Int)-(m:Int))=true:=decide_eq_true (by omega);clear aj ah aa ab
     go_wp2_with (first
      |(go_at_call 203;(with_reducible refine (k3.out).mono ?_);rintro _ w3 ⟨al,rfl,s3⟩;have k4:=lh (kl.out w3 s3);have k5:=lh (kr.out w3 s3))
      |(go_at_call 150;(with_reducible refine (k4.out).mono ?_);rintro _ w4 ⟨rfl,s4⟩))
     have s5:=lh s4;clear s4 s3 k3 kl kr k4 k5 af;go_roundw
     case rel=>exact .inr ⟨m+1,n,_,_,DL,by first|rfl|go_num,by first|rfl|go_num,rfl,rfl,rfl,by omega,by omega,by omega,av,s5,hd⟩
     case measure=>first|(simp [intOf];done)|(simp [intOf];omega)
    ·
     have hd:=lh (ah.out ak hlt);have l1:decide ((m:Int)<(n:Int)-(m:Int))=false:=decide_eq_false (by omega);clear aj ah aa ab
     go_wp2_with (first
      |(go_at_call 203;(with_reducible refine (k3.out).mono ?_);rintro _ w3 ⟨al,rfl,s3⟩;have k4:=lh (kl.out w3 s3);have k5:=lh (kr.out w3 s3))
      |(go_at_call 150;(with_reducible refine (k5.out).mono ?_);rintro _ w4 ⟨rfl,s4⟩))
     have s5:=lh s4;clear s4 s3 k3 kl kr k4 k5 af;go_roundw
     case rel=>exact .inr ⟨0,m,_,_,DR,by first|rfl|go_num,by first|rfl|go_num,rfl,rfl,rfl,by omega,by omega,by omega,ar,s5,hd⟩
     case measure=>first|(simp [intOf];done)|(simp [intOf];omega)
theorem A04 (n:Nat) (w:World) (hn:n<=1000):Calls zp 143 #[.int .u64 (n:Int)] w fun e w'=>e=.returned (.int .i64 (Lib.bitLen n:Nat))/\w'=w:=by
 have L:=Tryz.sortIdents;have h:=Any.bits_Len (SlLaysF0.n15.bits (P:=zp) (ρ:=Tryz.sortIdents_ren) {L with}) (n:Int) w (by omega) (by omega);rwa [Int.toNat_natCast] at h
def Jk (w0:World) (base:Nat) (A:Option Addr) (c:Nat) (d:Array Id) (lt:Id->Id->Bool) (e:Ending) (v:World):Prop:=e=.returned (.tuple #[])/\∃d':Array Id,Srt w0 v base A c d'/\d'.size=d.size/\d'.toList.Perm d.toList/\SortedIn lt 0 d.size d'
theorem A05 (w0:World) (base c:Nat) (A:Option Addr) (d:Array Id) (n:Nat) (fid:Nat) (pre post:Array Value) (cmp:Id->Id->Int) (w:World)
  (hc:Fu w0 fid pre post cmp) (h:Srt w0 w base A c d) (hdn:d.size=n) (hn:n<=1000) (h14:n<=14) (hO:SWO (Ac cmp)) (hT:∀i j,i<n->j<n->i≠j->Ac cmp d[i]! d[j]! =true\/Ac cmp d[j]! d[i]! =true):
  Calls zp 97 #[.slice A n c,.func (.func fid) pre post] w (Jk w0 base A c d (Ac cmp)):=by
 have eg:=hc.enters;have HC:=lh hc;have HS:=lh h;clear hc h;clear eg;have kb:=lh (fun (v:World)=>A04 n v hn);have hbl:Hid (n=13\/n=14->Lib.bitLen n=4):=fun h=>by rcases h with rfl|rfl<;>decide
 have kp:Hid (∀(v:World) (l:Nat),l=Lib.bitLen n->Srt w0 v base A c d->Calls zp 150 #[.slice A n c,.int .i64 0,.int .i64 n,.int .i64 (l:Int),.func (.func fid) pre post] v (Jk w0 base A c d (Ac cmp))):=fun v l hl hS=>by
  by_cases h12:n<=12
  ·
   refine Calls.mono (Vr w0 base c A d n 0 n l fid pre post cmp v HC.out hS hdn hn (A59 _) (A60 _) (by omega)) ?_;rintro e v' ⟨rfl,h1⟩;obtain ⟨h2,h3⟩:=insertionSort_holds hO d 0 n (A59 _) (by omega);rw [hdn.symm] at h1 h2 h3;exact ⟨rfl,_,h1,h2.1,Vq h2,h3⟩
  ·
   have h13:n=13\/n=14:=by omega
   have hl4:l=4:=by rw [hl,hbl.out h13]
   subst hl4;refine Calls.mono (A03 w0 base c A d n fid pre post cmp v HC.out hS hdn hn h13 hO hT) ?_;rintro e v' ⟨rfl,h1⟩;obtain ⟨h2,h3⟩:=pdq_sorts (Ac cmp) hO d 0 n 4 true true (A59 _) (by omega) (Or.inl rfl);rw [hdn.symm] at h1 h2 h3;exact ⟨rfl,_,h1,h2.1,Vq h2,h3⟩
 have k2:=lh (fun (v:World)=>kp.out v (Lib.bitLen n) rfl);have hfin:Hid (∀wz,(∃d':Array Id,Srt w0 wz base A c d'/\d'.size=d.size/\d'.toList.Perm d.toList/\SortedIn (Ac cmp) 0 d.size d')->Jk w0 base A c d (Ac cmp) (.returned (.tuple #[])) wz):=fun wz h=>⟨rfl,h⟩;unfold Jk at k2;generalize Jk w0 base A c d (Ac cmp)=POST at*;clear HC hO hT kp hbl;generalize Lib.bitLen n=L at*;go_enter func97,ntmps97;have e0:IntKind.u64.wrap (n:Int)=(n:Int):=by simp [IntKind.wrap,IntKind.bits,IntKind.signed];omega
 go_wp2_with (first
  |(go_at_call 143;(with_reducible refine (kb.out _).mono ?_);rintro _ w1 ⟨rfl,rfl⟩;have k3:=lh (k2.out _ HS.out))
  |(go_at_call 150;(with_reducible refine (k3.out).mono ?_);rintro _ w2 ⟨rfl,hz⟩))
 first|exact hfin.out _ hz|(go_end0;exact hfin.out _ hz)
end Oq
end
section
open Go.RowKit Go.Sort
namespace Oq
def Ff (l:List Pn) (x y:Id):Int:=if Ao l x<Ao l y then-1 else if Ao l y<Ao l x then 1 else if Id.less x y=true then-1 else if Id.less y x=true then 1 else 0
theorem Ig (l:List Pn) (x y:Id):Ac (Ff l) x y=Br l x y:=by
 unfold Ac Ff;rw [Bool.eq_iff_iff,decide_eq_true_iff,rkLess_iff]
 by_cases h1:Ao l x<Ao l y
 ·
  rw [if_pos h1];exact ⟨fun _=> .inl h1,fun _=>by omega⟩
 ·
  rw [if_neg h1]
  by_cases h2:Ao l y<Ao l x
  ·
   rw [if_pos h2];exact ⟨fun h=>by omega,fun h=>by omega⟩
  ·
   rw [if_neg h2]
   by_cases h3:Id.less x y=true
   ·
    rw [if_pos h3];exact ⟨fun _=> .inr ⟨by omega,h3⟩,fun _=>by omega⟩
   ·
    rw [if_neg h3];refine ⟨fun h=> ?_,fun h=> ?_⟩
    · split at h<;>omega
    ·
     rcases h with h|h
     · exact absurd h h1
     · exact absurd h.2 h3
theorem A06 (l:List Pn):SWO (Ac (Ff l)) where
 irrefl x:=by rw [Ig];exact Au1 l x
 trans x y z h1 h2:=by
  rw [Ig] at*;exact Of h1 h2
 ntrans x y z h1 h2:=by
  rw [Ig] at*;rw [Bool.eq_false_iff];intro h
  rcases Jd l x y with a|a|a
  · rw [h1] at a;cases a
  · rw [a,h2] at h;cases h
  ·
   rcases Jd l y z with b|b|b
   · rw [h2] at b;cases b
   ·
    rw [b] at a;rw [Oe a] at h
    cases h
   ·
    rw [Oe (Of b a)] at h
    cases h
theorem A07 (l:List Pn) {d:Array Id} (hnd:d.toList.Nodup):∀i j,i<d.size->j<d.size->i≠j->Ac (Ff l) d[i]! d[j]! =true\/Ac (Ff l) d[j]! d[i]! =true:=by
 intro i j hi hj hne;rw [Ig,Ig]
 rcases Jd l d[i]! d[j]! with h|h|h
 · exact .inl h
 ·
  exfalso;have h1:=Hh hi;have h2:=Hh hj;rw [h] at h1;obtain ⟨k1,e1⟩:=List.getElem?_eq_some_iff.1 h1;obtain ⟨k2,e2⟩:=List.getElem?_eq_some_iff.1 h2;have hpw:=List.pairwise_iff_getElem.1 hnd
  rcases A62 i j with a|a|a
  · exact hpw i j k1 k2 a (e1.trans e2.symm)
  · exact hne a
  · exact hpw j i k2 k1 a (e2.trans e1.symm)
 · exact .inr h
theorem A08 {l:List Pn} {d d':Array Id} (hp:d'.toList.Perm d.toList) (hz:d'.size=d.size) (hs:SortedIn (Ac (Ff l)) 0 d.size d'):d'.toList=Ck l d.toList:=by
 refine Oj ?_ hp;unfold RowK;rw [List.pairwise_iff_getElem];intro i j hi hj hij;have hi':i<d'.size:=by simpa using hi
 have hj':j<d'.size:=by simpa using hj
 have h1:=hs i j (A59 _) hij (by omega);rw [Ig,getElem!_pos d' i hi',getElem!_pos d' j hj'] at h1;simpa using h1
end Oq
end
section
open Go.RowKit
namespace Oq
def Fv (a b:Int):Int:=if a=0 then b else a
theorem A09 (a b:Int) (k:Nat) (w:World) (hk:Blk w k 3 #[.int .i64 a,.int .i64 b]):
  Calls zp 135 #[.slice (some ⟨k,0,none⟩) 2 2] w fun e w'=>e=.returned (.int .i64 (Fv a b))/\w=w':=by
 have k0:=hk.cell 0;have k1:=hk.cell 1
 by_cases h1:a=0
 ·
  have f1:(a !=0)=false:=by simp [h1]
  by_cases h2:b=0
  ·
   have f2:(b !=0)=false:=by simp [h2]
   have hr:Hid (Fv a b=0):=by show _=_;unfold Fv;rw [if_pos h1,h2]
   clear h1 h2;go_enter func135,ntmps135;go_wp2;refine wp_loop_rounds 3 ?_;rw [rounds_succ];go_wp2;rw [rounds_succ];go_wp2;rw [rounds_succ];go_wp2
   go_ret
   exact ⟨by rw [hr.out];rfl,rfl⟩
  ·
   have f2:(b !=0)=true:=by simp [h2]
   have hr:Hid (Fv a b=b):=by show _=_;unfold Fv;rw [if_pos h1]
   clear h1 h2;go_enter func135,ntmps135;go_wp2;refine wp_loop_rounds 3 ?_;rw [rounds_succ];go_wp2;rw [rounds_succ];go_wp2
   go_ret
   exact ⟨by rw [hr.out];rfl,rfl⟩
 ·
  have f1:(a !=0)=true:=by simp [h1]
  have hr:Hid (Fv a b=a):=by show _=_;unfold Fv;rw [if_neg h1]
  clear h1;go_enter func135,ntmps135;go_wp2;refine wp_loop_rounds 3 ?_;rw [rounds_succ];go_wp2
  go_ret
  exact ⟨by rw [hr.out];rfl,rfl⟩
theorem A10 (l:List Pn) (x y:Id):Fv (Bn (Ao l x:Int) (Ao l y:Int)) (if Id.less x y=true then-1 else if Id.less y x=true then 1 else 0)=Ff l x y:=by
 unfold Fv Ff Bn
 by_cases h1:Ao l x<Ao l y
 ·
  have h2:((Ao l x:Nat):Int)<(Ao l y:Int):=by omega
  rw [if_pos h1,if_pos h2];rfl
 ·
  have h2:¬((Ao l x:Nat):Int)<(Ao l y:Int):=by omega
  rw [if_neg h1,if_neg h2]
  by_cases h3:Ao l y<Ao l x
  ·
   have h4:((Ao l y:Nat):Int)<(Ao l x:Int):=by omega
   rw [if_pos h3,if_pos h4];rfl
  ·
   have h4:¬((Ao l y:Nat):Int)<(Ao l x:Int):=by omega
   rw [if_neg h3,if_neg h4];rfl
