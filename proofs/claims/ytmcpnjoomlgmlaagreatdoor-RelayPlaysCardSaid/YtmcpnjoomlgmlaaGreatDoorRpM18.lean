/- Contracts of functions, walked (part 18).
Conditions: as each theorem says. -/
import Derived.Test.YtmcpnjoomlgmlaaGreatDoorRpM17
set_option maxRecDepth 100000
set_option maxHeartbeats 16000000
open Nat renaming le_refl->A59
open Go.Proofs.Tryz
open Go.Proofs.Tryz renaming prog->zp
open Go.Lib renaming hid->lh
open List renaming set->zl
open Go.Ending renaming returned->ze
namespace Go.Proofs.YtmcpnjoomlgmlaaGreatDoor
section
open Go.RowKit Go.Sort
attribute [local go_sem ↓] Go.wp_at_zero Go.wp_at_succ
namespace Oq
attribute [local go_sem] Bool.not_false Bool.not_true
attribute [local go_sem ↓] O6
theorem Vk (w0:World) (base c:Nat) (A:Option Addr) (d:Array Id) (n:Nat) (a b:Nat) (fid:Nat) (pre post:Array Value) (cmp:Id->Id->Int) (w:World)
  (hc:Fu w0 fid pre post cmp) (h:Srt w0 w base A c d) (hdn:d.size=n) (hn:n<=1000) (hab:a<=b) (hb:b<=n):
  Calls zp 196 #[.slice A n c,.int .i64 a,.int .i64 b,.func (.func fid) pre post] w (Eo w0 base A c (insertionSort (Ac cmp) d a b)):=by
 have eg:=hc.enters;have HC:=lh hc;have HS:=lh h;clear hc h;have aq:Hid (∀dz wz,dz=insertionSort (Ac cmp) d a b->Srt w0 wz base A c dz->Eo w0 base A c (insertionSort (Ac cmp) d a b) (.returned (.tuple #[])) wz):=fun dz wz e hz=>⟨rfl,e▸hz⟩;generalize Eo w0 base A c (insertionSort (Ac cmp) d a b)=POST at*;go_enter func196,ntmps196;have e0:=iw ((a:Int)+1);go_wp2_with fail
 go_loopw [8] (fun v wr=>∃(i:Nat) (dk:Array Id),v=.int .i64 (i:Int)/\a<i/\i<=b+1/\dk.size=n/\Hid (Srt w0 wr base A c dk)/\Hid (insOuter (Ac cmp) a b i dk=insertionSort (Ac cmp) d a b)) (fun v _=>b+1-(intOf v).toNat)
 case atStart=>exact ⟨a+1,d,by go_num,by omega,by omega,hdn,HS,rfl⟩
 case round=>
  obtain ⟨i,dk,rfl,a9,a7,a2,hS,hO⟩:=hrel
  by_cases hlt:i<b
  ·
   have i2:(i:Int)<b:=by omega
   have t0:decide ((i:Int)<b)=true:=decide_eq_true i2;have a3:decide (i<b)=true:=decide_eq_true hlt;have be:=iw ((i:Int)+1);go_wp2_with fail;generalize wr=wo at*
   go_loopw [9] (fun v wr=>∃(j:Nat) (dj:Array Id),v=.int .i64 (j:Int)/\a<=j/\j<=i/\dj.size=n/\Hid (Srt w0 wr base A c dj)/\Hid (insInner (Ac cmp) a j dj=insInner (Ac cmp) a i dk)) (fun v _=>(intOf v).toNat)
   case atStart=>exact ⟨i,dk,rfl,by omega,A59 _,a2,hS,rfl⟩
   case round=>
    clear hS;obtain ⟨j,dj,rfl,a8,bb,aw,hS,hI⟩:=hrel
    have out:Hid ((j=0\/(a<j&&Ac cmp dj[j]! dj[j-1]!)=false)->insOuter (Ac cmp) a b (i+1) dj=insertionSort (Ac cmp) d a b):=fun hs=>by
     rw [<- hO.out];conv=>rhs;unfold insOuter
     rw [if_pos hlt,<- hI.out]
     cases j with
     |zero=>rfl
     |succ j=>
      unfold insInner
      rcases hs with hs|hs
      · omega
      · rw [if_neg (by rw [show j+1-1=j from rfl] at hs;simp only [gt_iff_lt];rw [hs];simp)]
    by_cases hja:a<j
    ·
     obtain ⟨jp,rfl⟩:∃jp,j=jp+1:=⟨j-1,by omega⟩;obtain ⟨g,rfl,bc,ba⟩:=hS.out.at (i:=jp+1) (by omega);have jc:((jp+1:Nat):Int)=(jp:Int)+1:=by omega
     rw [jc];have j1:(0:Int)<=(jp:Int)+1:=by omega
     have j2:(jp:Int)+1<n:=by omega
     have j3:((jp:Int)+1).toNat=jp+1:=by omega
     obtain ⟨k1,k2,k3⟩:=ix jp n
     have wj:=iw (jp:Int);have bd:IntKind.i64.wrap ((jp:Int)+1-1)=(jp:Int):=by rw [show (jp:Int)+1-1=jp by omega];exact wj
     have u0:decide ((a:Int)<(jp:Int)+1)=true:=decide_eq_true (by omega);have a5:decide ((jp:Int)+1>(a:Int))=true:=u0;have a1:decide (a<jp+1)=true:=decide_eq_true hja;go_upto_region 4 with (fail)
     obtain ⟨x,hx⟩:=Ab dj[jp+1]!;obtain ⟨y,hy⟩:=Ab dj[jp]!;have ag:=hS.out.cells (i:=(jp+1)) (by omega);have ah:=hS.out.cells (i:=jp) (by omega);rw [hx.out] at ag;rw [hy.out] at ah;have aa:cI wr g ((jp+1)*3) x.b:=ag.1;have ae:cI wr g ((jp+1)*3+1) x.s:=ag.2.1;have ab:cU wr g ((jp+1)*3+2) x.u:=ag.2.2;have af:cI wr g (jp*3) y.b:=ah.1;have ac:cI wr g (jp*3+1) y.s:=ah.2.1;have ad:cU wr g (jp*3+2) y.u:=ah.2.2;have F0:Fr Non wr wr.drew:=(Fr.refl Non wr).drew;have kc:=lh (fun (v:World) (hv:Fr Non wr v)=>HC.out.tells x y v (hS.out.fr.trans hv zr) (by rw [<- hx.out];exact hS.out.okAt (by omega)) (by rw [<- hy.out];exact hS.out.okAt (by omega)))
     rcases zb (decide (cmp x y<0)) with cT|cT
     ·
      have aj:Ac cmp dj[jp+1]! dj[jp]! =true:=by rw [hx.out,hy.out];exact cT
      refine wp_region_held_drew (S:=fun w'=>cI w' g ((jp+1)*3) x.b/\cI w' g ((jp+1)*3+1) x.s/\cU w' g ((jp+1)*3+2) x.u/\cI w' g (jp*3) y.b/\cI w' g (jp*3+1) y.s/\cU w' g (jp*3+2) y.u) (by kernel_rfl) ⟨aa,ae,ab,af,ac,ad⟩ (fun uu=> ?_);refine tkN 0 14 uu (h:=?_);clear uu;refine oG 14 (fun K hK=> ?_);go_simp;go_wp2_with fail;refine (kc.out _ F0).mono ?_;rintro _ v1 ⟨rfl,f1⟩;have F1:=F0.trans f1 zr;obtain ⟨au,al,ar,ap,ao,ak⟩:=zk6 F1 aa ae ab af ac ad;refine hK.out _ _ ⟨au,al,ar,ap,ao,ak⟩ (fun uu=> ?_);clear hK K;try simp only [Ah,zl]
      refine tkN 15 2 uu (h:=?_);clear uu;refine oD ?_;go_simp;replace aj:=lh aj;go_upto_region 6 with (fail)
      have ai:=lh (hS.out.non F1);clear hS ag ah kc aa ae ab af ac ad au al ar ap ao ak F0 f1 hx hy;generalize v1=u1 at*;obtain ⟨x,hx⟩:=Ab dj[jp+1]!;obtain ⟨y,hy⟩:=Ab dj[jp]!;have ag:=ai.out.cells (i:=(jp+1)) (by omega);have ah:=ai.out.cells (i:=jp) (by omega);rw [hx.out] at ag;rw [hy.out] at ah;have aa:cI u1 g ((jp+1)*3) x.b:=ag.1;have ae:cI u1 g ((jp+1)*3+1) x.s:=ag.2.1;have ab:cU u1 g ((jp+1)*3+2) x.u:=ag.2.2;have af:cI u1 g (jp*3) y.b:=ah.1;have ac:cI u1 g (jp*3+1) y.s:=ah.2.1;have ad:cU u1 g (jp*3+2) y.u:=ah.2.2;have F0:Fr Non u1 u1.drew:=(Fr.refl Non u1).drew;have az:=(show Srt w0 u1.drew base _ c _ from ai.out.non F0).swap (i:=(jp+1)) (j:=jp) (by omega) (by omega);rw [hx.out,hy.out] at az;obtain ⟨a0,a6,ay⟩:=az;refine Cv (S:=fun w'=>cI w' g ((jp+1)*3) x.b/\cI w' g ((jp+1)*3+1) x.s/\cU w' g ((jp+1)*3+2) x.u/\cI w' g (jp*3) y.b/\cI w' g (jp*3+1) y.s/\cU w' g (jp*3+2) y.u) 15 (by kernel_rfl) ?_;refine tkM 0 2 ⟨aa,ae,ab,af,ac,ad⟩ (h:=?_);refine tkP 2 ⟨aa,ae,ab,af,ac,ad⟩ ?_;simp only [zl];refine tkP 3 ⟨aa,ae,ab,af,ac,ad⟩ ?_;simp only [zl];refine tkP 4 ⟨aa,ae,ab,af,ac,ad⟩ ?_;simp only [zl];refine tkM 5 5 ⟨aa,ae,ab,af,ac,ad⟩ (h:=?_);refine tkP 10 ⟨aa,ae,ab,af,ac,ad⟩ ?_;simp only [zl];refine tkP 11 ⟨aa,ae,ab,af,ac,ad⟩ ?_;simp only [zl];refine tkP 12 ⟨aa,ae,ab,af,ac,ad⟩ ?_;simp only [zl];refine tkM 13 2 ⟨aa,ae,ab,af,ac,ad⟩ (h:=?_);refine Cp (by kernel_rfl) ?_;refine stT 15 (h:=?_);refine tkN 16 1 trivial (h:=?_);refine stT 17 (h:=?_);refine oD ?_;go_simp;clear a0 a6;generalize Cy (Cy u1.drew g ((jp+1)*3) y) g (jp*3) x=wz at*
      have a4:Hid (insInner (Ac cmp) a jp (swp dj (jp+1) jp)=insInner (Ac cmp) a i dk):=by
       show _=_;rw [<- hI.out];conv=>rhs;unfold insInner
       rw [if_pos (by rw [aj.out,Bool.and_true];exact decide_eq_true hja)]
      have av:=lh ay;clear ay;go_wp2_with fail;go_roundw
      case rel=>exact ⟨jp,swp dj (jp+1) jp,by go_num,by omega,by omega,by rw [size_swp];exact aw,av,a4⟩
      case measure=>first|(simp [intOf];done)|(simp [intOf];omega)
     ·
      have aj:Ac cmp dj[jp+1]! dj[jp]! =false:=by rw [hx.out,hy.out];exact cT
      refine wp_region_held_drew (S:=fun w'=>cI w' g ((jp+1)*3) x.b/\cI w' g ((jp+1)*3+1) x.s/\cU w' g ((jp+1)*3+2) x.u/\cI w' g (jp*3) y.b/\cI w' g (jp*3+1) y.s/\cU w' g (jp*3+2) y.u) (by kernel_rfl) ⟨aa,ae,ab,af,ac,ad⟩ (fun uu=> ?_);refine tkN 0 14 uu (h:=?_);clear uu;refine oG 14 (fun K hK=> ?_);go_simp;go_wp2_with fail;refine (kc.out _ F0).mono ?_;rintro _ v1 ⟨rfl,f1⟩;have F1:=F0.trans f1 zr;obtain ⟨au,al,ar,ap,ao,ak⟩:=zk6 F1 aa ae ab af ac ad;refine hK.out _ _ ⟨au,al,ar,ap,ao,ak⟩ (fun uu=> ?_);clear hK K;try simp only [Ah,zl]
      refine tkN 15 2 uu (h:=?_);clear uu;refine oD ?_;go_simp;have ax:=lh (out.out (.inr (by rw [show jp+1-1=jp from rfl,aj,Bool.and_false])));have ai:=lh (hS.out.non F1);clear aj out aa ae ab af ac ad au al ar ap ao ak;go_wp2_with fail;go_roundw
      case rel=>exact ⟨i+1,dj,by go_num,by omega,by omega,aw,ai,ax⟩
      case measure=>first|(simp [intOf];done)|(simp [intOf];omega)
    ·
     have ax:=lh (out.out (.inr (by rw [decide_eq_false hja,Bool.false_and])));have u0:decide ((a:Int)<(j:Int))=false:=decide_eq_false (by omega);have a5:decide ((j:Int)>(a:Int))=false:=u0;have a1:decide (a<j)=false:=decide_eq_false hja;have F0:Fr Non wr wr.drew:=(Fr.refl Non wr).drew;have ai:=lh (hS.out.non F0);go_upto_region 4 with (fail)
     have Z0:True:=trivial;refine wp_region_held_drew (S:=fun w'=>True) (by kernel_rfl) Z0 (fun hHeld=> ?_);clear hHeld;refine tkN 0 4 Z0 (h:=skN 4 12 Z0 (h:=tkN 16 1 Z0 (h:=?_)));refine oD ?_;go_simp;clear Z0;clear out;go_wp2_with fail;go_roundw
     case rel=>exact ⟨i+1,dj,by go_num,by omega,by omega,aw,ai,ax⟩
     case measure=>first|(simp [intOf];done)|(simp [intOf];omega)
  ·
   have t0:decide ((i:Int)<b)=false:=decide_eq_false (by omega);have a3:decide (i<b)=false:=decide_eq_false hlt;have hd:=lh (aq.out dk wr (by rw [<- hO.out];(conv=>rhs;unfold insOuter);rw [if_neg hlt]) hS.out);clear aq hO;go_wp2_with fail
   go_end0
   exact hd.out
def Gp (w0:World) (base:Nat) (A:Option Addr) (c:Nat) (d:Array Id) (g2:Nat) (s:Nat) (v:Value) (e:Ending) (w':World):Prop:=e=.returned v/\Srt w0 w' base A c d/\Blk w' g2 3 #[.int .i64 (s:Int)]
theorem Srt.cnt {w0 v:World} {base c g2:Nat} {A:Option Addr} {d:Array Id} {cs:Array Value} (h:Srt w0 v base A c d) (hb:Blk v g2 3 cs) (hg:w0.heap.size<=g2) (u:Value):Srt w0 (v.setCell ⟨g2,0,none⟩ u) base A c d:=
 ⟨h.own.setOne (h.own.ne hb (by decide)),h.fr.setCell (p:=⟨g2,0,none⟩) (fun hh=>absurd hh (by show ¬g2<_;omega)) u,h.ok,h.base⟩
theorem Vl {d:Array Id} {lt:Id->Id->Bool} {i j s n:Nat} (hi:i<n) (hj:j<n):(order2 lt d i j s).1<n/\(order2 lt d i j s).2.1<n/\(order2 lt d i j s).2.2<=s+1:=by
 unfold order2
 split
 · exact ⟨hj,hi,A59 _⟩
 · exact ⟨hi,hj,Nat.le_succ _⟩
theorem Az2 (w0:World) (base c:Nat) (A:Option Addr) (d:Array Id) (n:Nat) (i j s g2:Nat) (fid:Nat) (pre post:Array Value) (cmp:Id->Id->Int) (w:World)
  (hc:Fu w0 fid pre post cmp) (h:Srt w0 w base A c d) (hdn:d.size=n) (_hn:n<=1000) (hi:i<n) (hj:j<n) (hs:s<=1000) (hg2:w0.heap.size<=g2) (hb:Blk w g2 3 #[.int .i64 (s:Int)]):
  Calls zp 237 #[.slice A n c,.int .i64 i,.int .i64 j,.pointer (some ⟨g2,0,none⟩),.func (.func fid) pre post] w (Gp w0 base A c d g2 (order2 (Ac cmp) d i j s).2.2 (.tuple #[.int .i64 ((order2 (Ac cmp) d i j s).1:Int),.int .i64 ((order2 (Ac cmp) d i j s).2.1:Int)])):=by
 have eg:=hc.enters;have HC:=lh hc;have HS:=lh h;clear hc h;obtain ⟨g,rfl,az,aw⟩:=HS.out.at (i:=i) (by omega);have hT:Hid (Ac cmp d[j]! d[i]! =true->∀wz,Srt w0 wz base (some ⟨g,0,none⟩) c d->Blk wz g2 3 #[.int .i64 ((s:Int)+1)]->Gp w0 base (some ⟨g,0,none⟩) c d g2 (order2 (Ac cmp) d i j s).2.2 (.tuple #[.int .i64 ((order2 (Ac cmp) d i j s).1:Int),.int .i64 ((order2 (Ac cmp) d i j s).2.1:Int)]) (.returned (.tuple #[.int .i64 (j:Int),.int .i64 (i:Int)])) wz):=fun h wz h1 h2=>by unfold order2;rw [if_pos h];exact ⟨rfl,h1,h2⟩
 have hF:Hid (Ac cmp d[j]! d[i]! =false->∀wz,Srt w0 wz base (some ⟨g,0,none⟩) c d->Blk wz g2 3 #[.int .i64 (s:Int)]->Gp w0 base (some ⟨g,0,none⟩) c d g2 (order2 (Ac cmp) d i j s).2.2 (.tuple #[.int .i64 ((order2 (Ac cmp) d i j s).1:Int),.int .i64 ((order2 (Ac cmp) d i j s).2.1:Int)]) (.returned (.tuple #[.int .i64 (i:Int),.int .i64 (j:Int)])) wz):=fun h wz h1 h2=>by unfold order2;rw [if_neg (by rw [h];simp)];exact ⟨rfl,h1,h2⟩
 generalize Gp w0 base (some ⟨g,0,none⟩) c d g2 (order2 (Ac cmp) d i j s).2.2 (.tuple #[.int .i64 ((order2 (Ac cmp) d i j s).1:Int),.int .i64 ((order2 (Ac cmp) d i j s).2.1:Int)])=POST at*;go_enter func237,ntmps237;obtain ⟨i1,i2,i3⟩:=ix i n
 obtain ⟨j1,j2,j3⟩:=ix j n
 have es:=iw ((s:Int)+1);have hS:=HS;clear HS;go_upto_region 1 with (fail)
 obtain ⟨x,hx⟩:=Ab d[j]!;obtain ⟨y,hy⟩:=Ab d[i]!;have ae:=hS.out.cells (i:=j) (by omega);have af:=hS.out.cells (i:=i) (by omega);rw [hx.out] at ae;rw [hy.out] at af;have ab:cI w g (j*3) x.b:=ae.1;have ad:cI w g (j*3+1) x.s:=ae.2.1;have ac:cU w g (j*3+2) x.u:=ae.2.2;have ai:cI w g (i*3) y.b:=af.1;have ag:cI w g (i*3+1) y.s:=af.2.1;have ah:cU w g (i*3+2) y.u:=af.2.2;have F0:Fr Non w w.drew:=(Fr.refl Non w).drew;have kc:=lh (fun (v:World) (hv:Fr Non w v)=>HC.out.tells x y v (hS.out.fr.trans hv zr) (by rw [<- hx.out];exact hS.out.okAt (by omega)) (by rw [<- hy.out];exact hS.out.okAt (by omega)))
 rcases zb (decide (cmp x y<0)) with cT|cT
 ·
  have ar:Ac cmp d[j]! d[i]! =true:=by rw [hx.out,hy.out];exact cT
  have hd:=lh (hT.out ar);clear hT hF ar;refine wp_region_held_drew (S:=fun w'=>cI w' g (j*3) x.b/\cI w' g (j*3+1) x.s/\cU w' g (j*3+2) x.u/\cI w' g (i*3) y.b/\cI w' g (i*3+1) y.s/\cU w' g (i*3+2) y.u) (by kernel_rfl) ⟨ab,ad,ac,ai,ag,ah⟩ (fun uu=> ?_);refine tkN 0 9 uu (h:=?_);clear uu;refine oG 9 (fun K hK=> ?_);go_simp;go_wp2_with fail;refine (kc.out _ F0).mono ?_;rintro _ v1 ⟨rfl,f1⟩;have F1:=F0.trans f1 zr;obtain ⟨ao,ap,al,aj,aq,ak⟩:=zk6 F1 ab ad ac ai ag ah;refine hK.out _ _ ⟨ao,ap,al,aj,aq,ak⟩ (fun uu=> ?_);clear hK K;try simp only [Ah,zl]
  refine tkN 10 1 uu (h:=?_);clear uu;refine oD ?_;go_simp;have au:=lh (hS.out.non F1);have aa:=hb.fr F1 zq;have hz:=lh (au.out.cnt aa hg2 (.int .i64 ((s:Int)+1)));have av:Blk (v1.setCell ⟨g2,0,none⟩ (.int .i64 ((s:Int)+1))) g2 3 #[.int .i64 ((s:Int)+1)]:=aa.set 0 _;have ay:cI v1 g2 0 (s:Int):=aa.cell 0;have ax:=aa.frozen 0;clear hS ae af kc ab ad ac ai ag ah ao ap al aj aq ak F0 f1 hb aa;go_wp2_with fail;exact hd.out _ hz.out av
 ·
  have ar:Ac cmp d[j]! d[i]! =false:=by rw [hx.out,hy.out];exact cT
  have hd:=lh (hF.out ar);clear hT hF ar;refine wp_region_held_drew (S:=fun w'=>cI w' g (j*3) x.b/\cI w' g (j*3+1) x.s/\cU w' g (j*3+2) x.u/\cI w' g (i*3) y.b/\cI w' g (i*3+1) y.s/\cU w' g (i*3+2) y.u) (by kernel_rfl) ⟨ab,ad,ac,ai,ag,ah⟩ (fun uu=> ?_);refine tkN 0 9 uu (h:=?_);clear uu;refine oG 9 (fun K hK=> ?_);go_simp;go_wp2_with fail;refine (kc.out _ F0).mono ?_;rintro _ v1 ⟨rfl,f1⟩;have F1:=F0.trans f1 zr;obtain ⟨ao,ap,al,aj,aq,ak⟩:=zk6 F1 ab ad ac ai ag ah;refine hK.out _ _ ⟨ao,ap,al,aj,aq,ak⟩ (fun uu=> ?_);clear hK K;try simp only [Ah,zl]
  refine tkN 10 1 uu (h:=?_);clear uu;refine oD ?_;go_simp;have au:=lh (hS.out.non F1);have aa:=hb.fr F1 zq;clear hS ae af kc ab ad ac ai ag ah ao ap al aj aq ak F0 f1 hb;go_wp2_with fail;exact hd.out _ au.out aa
theorem Az3 (w0:World) (base c:Nat) (A:Option Addr) (d:Array Id) (n:Nat) (i j k s g2:Nat) (fid:Nat) (pre post:Array Value) (cmp:Id->Id->Int) (w:World)
  (hc:Fu w0 fid pre post cmp) (h:Srt w0 w base A c d) (hdn:d.size=n) (hn:n<=1000) (hi:i<n) (hj:j<n) (hk:k<n) (hs:s<=900) (hg2:w0.heap.size<=g2) (hb:Blk w g2 3 #[.int .i64 (s:Int)]):
  Calls zp 229 #[.slice A n c,.int .i64 i,.int .i64 j,.int .i64 k,.pointer (some ⟨g2,0,none⟩),.func (.func fid) pre post] w (Gp w0 base A c d g2 (median (Ac cmp) d i j k s).2 (.int .i64 ((median (Ac cmp) d i j k s).1:Int))):=by
 have eg:=hc.enters;have HC:=lh hc;have HS:=lh h;clear hc h;clear eg;have ko:=lh (fun (i j s:Nat) (v:World) (hS:Srt w0 v base A c d) (h1:i<n) (h2:j<n) (h3:s<=1000) (hb:Blk v g2 3 #[.int .i64 (s:Int)])=>Az2 w0 base c A d n i j s g2 fid pre post cmp v HC.out hS hdn hn h1 h2 h3 hg2 hb);obtain ⟨a1,a2,a3⟩:=Vl (lt:=Ac cmp) (d:=d) (s:=s) hi hj;have hm:Hid (median (Ac cmp) d i j k s=((order2 (Ac cmp) d (order2 (Ac cmp) d i j s).1 (order2 (Ac cmp) d (order2 (Ac cmp) d i j s).2.1 k (order2 (Ac cmp) d i j s).2.2).1 (order2 (Ac cmp) d (order2 (Ac cmp) d i j s).2.1 k (order2 (Ac cmp) d i j s).2.2).2.2).2.1,(order2 (Ac cmp) d (order2 (Ac cmp) d i j s).1 (order2 (Ac cmp) d (order2 (Ac cmp) d i j s).2.1 k (order2 (Ac cmp) d i j s).2.2).1 (order2 (Ac cmp) d (order2 (Ac cmp) d i j s).2.1 k (order2 (Ac cmp) d i j s).2.2).2.2).2.2)):=rfl;rw [hm.out];clear hm;have k1:=lh (ko.out i j s w HS.out hi hj (by omega) hb);obtain ⟨b1,b2,b3⟩:=Vl (lt:=Ac cmp) (d:=d) (s:=(order2 (Ac cmp) d i j s).2.2) a2 hk;have k2:=lh (fun (v:World) (hS:Srt w0 v base A c d) (hb:Blk v g2 3 #[.int .i64 ((order2 (Ac cmp) d i j s).2.2:Int)])=>ko.out (order2 (Ac cmp) d i j s).2.1 k (order2 (Ac cmp) d i j s).2.2 v hS a2 hk (by omega) hb);have k3:=lh (fun (v:World) (hS:Srt w0 v base A c d) (hb:Blk v g2 3 #[.int .i64 ((order2 (Ac cmp) d (order2 (Ac cmp) d i j s).2.1 k (order2 (Ac cmp) d i j s).2.2).2.2:Int)])=>ko.out (order2 (Ac cmp) d i j s).1 (order2 (Ac cmp) d (order2 (Ac cmp) d i j s).2.1 k (order2 (Ac cmp) d i j s).2.2).1 (order2 (Ac cmp) d (order2 (Ac cmp) d i j s).2.1 k (order2 (Ac cmp) d i j s).2.2).2.2 v hS a1 b1 (by omega) hb);clear a1 a2 a3 b1 b2 b3 ko;generalize order2 (Ac cmp) d i j s=r1 at*;generalize order2 (Ac cmp) d r1.2.1 k r1.2.2=r2 at*;generalize order2 (Ac cmp) d r1.1 r2.1 r2.2.2=r3 at*;unfold Gp at k1 k2 k3;have aa:Hid (∀(wz:World),Srt w0 wz base A c d->Blk wz g2 3 #[.int .i64 (r3.2.2:Int)]->Gp w0 base A c d g2 r3.2.2 (.int .i64 (r3.2.1:Int)) (.returned (.int .i64 (r3.2.1:Int))) wz):=fun wz h1 h2=>⟨rfl,h1,h2⟩;generalize Gp w0 base A c d g2 r3.2.2 (.int .i64 (r3.2.1:Int))=POST at*;go_enter func229,ntmps229
 go_wp2_with (first
  |(go_at_call 237;(with_reducible refine (k1.out).mono ?_);rintro _ w1 ⟨rfl,s1,b1⟩)
  |(go_at_call 237;(with_reducible refine (k2.out _ s1 b1).mono ?_);rintro _ w2 ⟨rfl,s2,b2⟩)
  |(go_at_call 237;(with_reducible refine (k3.out _ s2 b2).mono ?_);rintro _ w3 ⟨rfl,s3,b3⟩))
 exact aa.out w3 s3 b3
def Ez (s:Nat):Int:=if s=0 then 1 else if s=12 then 2 else 0
def Lt (w0:World) (base:Nat) (A:Option Addr) (c:Nat) (d:Array Id) (P M:Nat) (e:Ending) (v:World):Prop:=e=.returned (.tuple #[.int .i64 (P:Int),.int .i64 (Ez M)])/\Srt w0 v base A c d
theorem Az4 (w0:World) (base c:Nat) (A:Option Addr) (d:Array Id) (n:Nat) (fid:Nat) (pre post:Array Value) (cmp:Id->Id->Int) (w:World)
  (hc:Fu w0 fid pre post cmp) (h:Srt w0 w base A c d) (hdn:d.size=n) (hn:n<=1000) (h13:n=13\/n=14):
  Calls zp 199 #[.slice A n c,.int .i64 0,.int .i64 n,.func (.func fid) pre post] w (Lt w0 base A c d (median (Ac cmp) d 3 6 9 0).1 (median (Ac cmp) d 3 6 9 0).2):=by
 have eg:=hc.enters;have HC:=lh hc;have HS:=lh h;clear hc h;clear eg;have hl:=hn;have km:=lh (fun (v:World) (g2:Nat) (hS:Srt w0 v base A c d) (h3:w0.heap.size<=g2) (hb:Blk v g2 3 #[.int .i64 ((0:Nat):Int)])=>Az3 w0 base c A d n 3 6 9 0 g2 fid pre post cmp v HC.out hS hdn hn (by omega) (by omega) (by omega) (by omega) h3 hb);unfold Gp at km;generalize median (Ac cmp) d 3 6 9 0=R at*;obtain ⟨P,M⟩:=R
 (try dsimp only at km ⊢)
 have f0:Fr Non w (w.alloc (.cells #[.int .i64 0] 3)):=(Fr.refl Non w).alloc _;have b0:=Blk.new w 3 #[.int .i64 0];have h9:=km.out _ w.heap.size (HS.out.non f0) HS.out.fr.size b0;rw [show ((3:Nat):Int)=3 from rfl,show ((6:Nat):Int)=6 from rfl,show ((9:Nat):Int)=9 from rfl] at h9;replace h9:=lh h9;have k1:=h9;clear h9;have aa:Hid (∀(wz:World) (H:Int),Ez M=H->Srt w0 wz base A c d->Lt w0 base A c d P M (.returned (.tuple #[.int .i64 (P:Int),.int .i64 H])) wz):=fun wz H e h1=>⟨by rw [e],h1⟩;generalize Lt w0 base A c d P M=POST at*;clear km HC hdn HS f0 b0;have ad:(13:Int).tdiv 4=3:=by decide
 have ae:(14:Int).tdiv 4=3:=by decide
 have hH:Hid ((M=0->Ez M=1)/\(M=12->Ez M=2)/\(M≠0->M≠12->Ez M=0)):=⟨fun h=>by unfold Ez;rw [if_pos h],fun h=>by unfold Ez;rw [if_neg (by omega),if_pos h],fun h1 h2=>by unfold Ez;rw [if_neg h1,if_neg h2]⟩
 rcases h13 with rfl|rfl
 ·
  go_enter func199,ntmps199
  by_cases h0:M=0
  ·
   have hd:=lh (fun wz=>aa.out wz 1 (hH.out.1 h0));subst h0;clear hH aa;go_wp2_with (go_at_call 229;(with_reducible refine (k1.out).mono ?_);rintro _ w1 ⟨rfl,s1,b1⟩;have c1:cI w1 w.heap.size 0 0:=b1.cell 0);exact hd.out w1 s1
  ·
   by_cases h12:M=12
   ·
    have hd:=lh (fun wz=>aa.out wz 2 (hH.out.2.1 h12));subst h12;clear hH aa;go_wp2_with (go_at_call 229;(with_reducible refine (k1.out).mono ?_);rintro _ w1 ⟨rfl,s1,b1⟩;have c1:cI w1 w.heap.size 0 12:=b1.cell 0);exact hd.out w1 s1
   ·
    have hd:=lh (fun wz=>aa.out wz 0 (hH.out.2.2 h0 h12));have e1:((M:Int)==0)=false:=beq_eq_false_iff_ne.2 (by omega);have e2:((M:Int)==12)=false:=beq_eq_false_iff_ne.2 (by omega);have ac:=lh h0;have ab:=lh h12;clear hH aa h0 h12;go_wp2_with (go_at_call 229;(with_reducible refine (k1.out).mono ?_);rintro _ w1 ⟨rfl,s1,b1⟩;have c1:cI w1 w.heap.size 0 (M:Int):=b1.cell 0);exact hd.out w1 s1
 ·
  go_enter func199,ntmps199
  by_cases h0:M=0
  ·
   have hd:=lh (fun wz=>aa.out wz 1 (hH.out.1 h0));subst h0;clear hH aa;go_wp2_with (go_at_call 229;(with_reducible refine (k1.out).mono ?_);rintro _ w1 ⟨rfl,s1,b1⟩;have c1:cI w1 w.heap.size 0 0:=b1.cell 0);exact hd.out w1 s1
  ·
   by_cases h12:M=12
   ·
    have hd:=lh (fun wz=>aa.out wz 2 (hH.out.2.1 h12));subst h12;clear hH aa;go_wp2_with (go_at_call 229;(with_reducible refine (k1.out).mono ?_);rintro _ w1 ⟨rfl,s1,b1⟩;have c1:cI w1 w.heap.size 0 12:=b1.cell 0);exact hd.out w1 s1
   ·
    have hd:=lh (fun wz=>aa.out wz 0 (hH.out.2.2 h0 h12));have e1:((M:Int)==0)=false:=beq_eq_false_iff_ne.2 (by omega);have e2:((M:Int)==12)=false:=beq_eq_false_iff_ne.2 (by omega);have ac:=lh h0;have ab:=lh h12;clear hH aa h0 h12;go_wp2_with (go_at_call 229;(with_reducible refine (k1.out).mono ?_);rintro _ w1 ⟨rfl,s1,b1⟩;have c1:cI w1 w.heap.size 0 (M:Int):=b1.cell 0);exact hd.out w1 s1
theorem Az5 {lt:Id->Id->Bool} {d:Array Id} {b i:Nat} (h:i<b) (hl:lt d[i]! d[i-1]! =false):scanSorted lt d b i=scanSorted lt d b (i+1):=by
 conv=>lhs;unfold scanSorted
 rw [if_pos (by rw [hl];simp [h])]
theorem Az6 {lt:Id->Id->Bool} {d:Array Id} {b i:Nat} (h:b<=i\/lt d[i]! d[i-1]! =true):scanSorted lt d b i=i:=by
 unfold scanSorted;rw [if_neg]
 rcases h with h|h
 · simp only [Bool.and_eq_true,decide_eq_true_eq];omega
 · rw [h];simp
def Ji (w0:World) (base:Nat) (A:Option Addr) (c:Nat) (d:Array Id) (S n:Nat) (e:Ending) (v:World):Prop:=e=.returned (.bool (S==n))/\Srt w0 v base A c d
theorem Az7 (w0:World) (base c:Nat) (A:Option Addr) (d:Array Id) (n:Nat) (a b:Nat) (fid:Nat) (pre post:Array Value) (cmp:Id->Id->Int) (w:World)
  (hc:Fu w0 fid pre post cmp) (h:Srt w0 w base A c d) (hdn:d.size=n) (hn:n<=1000) (hab:a<b) (hb:b<=n) (h50:b<50):
  Calls zp 201 #[.slice A n c,.int .i64 a,.int .i64 b,.func (.func fid) pre post] w (Ji w0 base A c d (scanSorted (Ac cmp) d b (a+1)) b):=by
 have eg:=hc.enters;have HC:=lh hc;have HS:=lh h;clear hc h;obtain ⟨g,rfl,a3,a1⟩:=HS.out.at (i:=a) (by omega);have aa:Hid (∀(wz:World) (i:Nat),scanSorted (Ac cmp) d b (a+1)=i->Srt w0 wz base (some ⟨g,0,none⟩) c d->Ji w0 base (some ⟨g,0,none⟩) c d (scanSorted (Ac cmp) d b (a+1)) b (.returned (.bool (i==b))) wz):=fun wz i e h=>⟨by rw [e],h⟩;have av:Hid (∀i,scanSorted (Ac cmp) d b i=scanSorted (Ac cmp) d b (a+1)->(b<=i\/Ac cmp d[i]! d[i-1]! =true)->scanSorted (Ac cmp) d b (a+1)=i):=fun i e h=>by rw [<- e];exact Az6 h
 generalize Ji w0 base (some ⟨g,0,none⟩) c d (scanSorted (Ac cmp) d b (a+1)) b=POST at*;go_enter func201,ntmps201;have e0:=iw ((a:Int)+1);have eb:=iw ((b:Int)-(a:Int));have t5:decide ((b:Int)-(a:Int)<50)=true:=decide_eq_true (by omega);go_wp2_with fail
 go_loopw [9,10] (fun v v2 wr=>v=.int .i64 ((a:Int)+1)/\v2=.int .i64 0/\Hid (Srt w0 wr base (some ⟨g,0,none⟩) c d)) (fun _ _ _=>0)
 case atStart=>exact ⟨rfl,rfl,HS⟩
 case round=>
  obtain ⟨rfl,rfl,az⟩:=hrel;go_wp2_with fail;generalize wr=wo at*
  go_loopw [9] (fun v wr=>∃i:Nat,v=.int .i64 (i:Int)/\a+1<=i/\i<=b/\Hid (Srt w0 wr base (some ⟨g,0,none⟩) c d)/\Hid (scanSorted (Ac cmp) d b i=scanSorted (Ac cmp) d b (a+1))) (fun v _=>b-(intOf v).toNat)
  case atStart=>exact ⟨a+1,by go_num,A59 _,by omega,az,rfl⟩
  case round=>
   clear az;obtain ⟨i,rfl,a5,a2,hS,aw⟩:=hrel
   by_cases hlt:i<b
   ·
    obtain ⟨ip,rfl⟩:∃ip,i=ip+1:=⟨i-1,by omega⟩;have jc:((ip+1:Nat):Int)=(ip:Int)+1:=by omega
    rw [jc];have j1:(0:Int)<=(ip:Int)+1:=by omega
    have j2:(ip:Int)+1<n:=by omega
    have j3:((ip:Int)+1).toNat=ip+1:=by omega
    obtain ⟨k1,k2,k3⟩:=ix ip n
    have wj:=iw (ip:Int);have a4:IntKind.i64.wrap ((ip:Int)+1-1)=(ip:Int):=by rw [show (ip:Int)+1-1=ip by omega];exact wj
    have e1:=iw ((ip:Int)+1+1);have u0:decide ((ip:Int)+1<(b:Int))=true:=decide_eq_true (by omega);have a0:decide (ip+1<b)=true:=decide_eq_true hlt;go_upto_region 5 with (fail)
    obtain ⟨x,hx⟩:=Ab d[ip+1]!;obtain ⟨y,hy⟩:=Ab d[ip]!;have ae:=hS.out.cells (i:=(ip+1)) (by omega);have af:=hS.out.cells (i:=ip) (by omega);rw [hx.out] at ae;rw [hy.out] at af;have ab:cI wr g ((ip+1)*3) x.b:=ae.1;have ad:cI wr g ((ip+1)*3+1) x.s:=ae.2.1;have ac:cU wr g ((ip+1)*3+2) x.u:=ae.2.2;have ai:cI wr g (ip*3) y.b:=af.1;have ag:cI wr g (ip*3+1) y.s:=af.2.1;have ah:cU wr g (ip*3+2) y.u:=af.2.2;have F0:Fr Non wr wr.drew:=(Fr.refl Non wr).drew;have kc:=lh (fun (v:World) (hv:Fr Non wr v)=>HC.out.tells x y v (hS.out.fr.trans hv zr) (by rw [<- hx.out];exact hS.out.okAt (by omega)) (by rw [<- hy.out];exact hS.out.okAt (by omega)))
    rcases zb (decide (cmp x y<0)) with cT|cT
    ·
     have au:Ac cmp d[ip+1]! d[ip]! =true:=by rw [hx.out,hy.out];exact cT
     have hd:=lh (fun wz=>aa.out wz (ip+1) (av.out (ip+1) aw.out (.inr au)));have f0:(((ip:Int)+1)==(b:Int))=false:=beq_eq_false_iff_ne.2 (by omega);have ay:((ip+1:Nat)==b)=false:=beq_eq_false_iff_ne.2 (by omega);rw [ay] at hd;clear au;refine wp_region_held_drew (S:=fun w'=>cI w' g ((ip+1)*3) x.b/\cI w' g ((ip+1)*3+1) x.s/\cU w' g ((ip+1)*3+2) x.u/\cI w' g (ip*3) y.b/\cI w' g (ip*3+1) y.s/\cU w' g (ip*3+2) y.u) (by kernel_rfl) ⟨ab,ad,ac,ai,ag,ah⟩ (fun uu=> ?_);refine tkN 0 14 uu (h:=?_);clear uu;refine oG 14 (fun K hK=> ?_);go_simp;go_wp2_with fail;refine (kc.out _ F0).mono ?_;rintro _ v1 ⟨rfl,f1⟩;have F1:=F0.trans f1 zr;obtain ⟨ap,aq,ao,aj,ar,al⟩:=zk6 F1 ab ad ac ai ag ah;refine hK.out _ _ ⟨ap,aq,ao,aj,ar,al⟩ (fun uu=> ?_);clear hK K;try simp only [Ah,zl]
     refine tkN 15 3 uu (h:=?_);clear uu;refine oD ?_;go_simp;have ak:=hS.out.non F1;clear ab ad ac ai ag ah ap aq ao aj ar al aa av ae af ay;go_wp2_with fail;exact hd.out _ ak
    ·
     have au:Ac cmp d[ip+1]! d[ip]! =false:=by rw [hx.out,hy.out];exact cT
     have ax:Hid (scanSorted (Ac cmp) d b (ip+1+1)=scanSorted (Ac cmp) d b (a+1)):=by
      show _=_;rw [<- aw.out];exact (Az5 hlt au).symm
     clear au;refine wp_region_held_drew (S:=fun w'=>cI w' g ((ip+1)*3) x.b/\cI w' g ((ip+1)*3+1) x.s/\cU w' g ((ip+1)*3+2) x.u/\cI w' g (ip*3) y.b/\cI w' g (ip*3+1) y.s/\cU w' g (ip*3+2) y.u) (by kernel_rfl) ⟨ab,ad,ac,ai,ag,ah⟩ (fun uu=> ?_);refine tkN 0 14 uu (h:=?_);clear uu;refine oG 14 (fun K hK=> ?_);go_simp;go_wp2_with fail;refine (kc.out _ F0).mono ?_;rintro _ v1 ⟨rfl,f1⟩;have F1:=F0.trans f1 zr;obtain ⟨ap,aq,ao,aj,ar,al⟩:=zk6 F1 ab ad ac ai ag ah;refine hK.out _ _ ⟨ap,aq,ao,aj,ar,al⟩ (fun uu=> ?_);clear hK K;try simp only [Ah,zl]
     refine tkN 15 3 uu (h:=?_);clear uu;refine oD ?_;go_simp;have ak:=lh (hS.out.non F1);clear ab ad ac ai ag ah ap aq ao aj ar al ae af;go_wp2_with fail;go_roundw
     case rel=>exact ⟨ip+1+1,by go_num,by omega,by omega,ak,ax⟩
     case measure=>first|(simp [intOf];done)|(simp [intOf];omega)
   ·
    obtain rfl:i=b:=by omega
    have hd:=lh (fun wz=>aa.out wz i (av.out i aw.out (.inl (A59 _))));rw [beq_self_eq_true] at hd;have u0:decide ((i:Int)<(i:Int))=false:=decide_eq_false (by omega);have a0:decide (i<i)=false:=decide_eq_false hlt;have f0:((i:Int)==(i:Int))=true:=beq_self_eq_true _;have F0:Fr Non wr wr.drew:=(Fr.refl Non wr).drew;have ak:=hS.out.non F0;clear aa av;go_upto_region 5 with (fail)
    have Z0:True:=trivial;refine wp_region_held_drew (S:=fun w'=>True) (by kernel_rfl) Z0 (fun hHeld=> ?_);clear hHeld;refine tkN 0 4 Z0 (h:=skN 4 13 Z0 (h:=tkN 17 1 Z0 (h:=?_)));refine oD ?_;go_simp;clear Z0;go_wp2_with fail;exact hd.out _ ak
