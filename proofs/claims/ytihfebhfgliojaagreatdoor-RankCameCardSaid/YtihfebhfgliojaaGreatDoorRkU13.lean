/-
  Contracts of the functions that the claim's statement reaches, walked one by one (part 13).
  Conditions: as each theorem says.
-/
import Derived.Test.YtihfebhfgliojaaGreatDoorRkU12
set_option maxRecDepth 100000
set_option maxHeartbeats 16000000
open Bool renaming not_eq_true->Ax6,not_false->Ay2,not_true->Ay3,or_false->Ay8,and_eq_true->Az3
open List renaming getElem?_eq_getElem->Ax3,length_append->Ax4,mem_of_getElem?->Ax8,getElem?_map->Ax9,mem_singleton->Ay0,take_of_length_le->Ay1,flatMap_append->Ay5,nodup_nil->Ay6,contains_iff_mem->Ay7,length_singleton->Ay9,eq_replicate_iff->Az0,getElem_map->Az1,not_mem_nil->Az2,getElem?_eq_none->Az4,find?_append->Az5
open Nat renaming le_trans->Ax5,le_refl->Ay4
open Go.World renaming size_alloc->Ax7
open Go.Proofs.Tryz
open Go.Proofs.Tryz renaming prog->zp
open Go.Lib renaming hid->lh
open List renaming set->zl
open Go.Ending renaming returned->ze
namespace Go.Proofs.YtihfebhfgliojaaGreatDoor
open Go.RowKit
attribute [local go_sem ↓] Go.wp_at_zero Go.wp_at_succ
namespace Oq
attribute [local go_sem] Ay2 Ay3
attribute [local go_sem ↓] Cx
def Cm (l:List Pn) (above ids:List Id):Nat->List Id
 |0=>[]
 |k+1=>match ids[k]? with
  |some y=>if (plc l y).isSome&& !Bq above y&& !Bq (Cm l above ids k) y then Cm l above ids k++[y] else Cm l above ids k
  |none=>Cm l above ids k
def C5 (l:List Pn) (ids:List Id):List Id:=Az (Cg l (Bd l ids) l.length)
def Fw (l:List Pn) (ids:List Id):List Id:=Az (Cm l (C5 l ids) ids ids.length)
theorem Ai7 {l:List Pn} {above ids:List Id} {k:Nat} {y:Id} (h:ids[k]? =some y):
  Cm l above ids (k+1)=if (plc l y).isSome&& !Bq above y&& !Bq (Cm l above ids k) y then Cm l above ids k++[y] else Cm l above ids k:=by
 show (match ids[k]? with|some y=>if (plc l y).isSome&& !Bq above y&& !Bq (Cm l above ids k) y then Cm l above ids k++[y] else Cm l above ids k|none=>Cm l above ids k)=_;rw [h]
theorem Nk (l:List Pn) (above ids:List Id):∀k,(Cm l above ids k).length<=k
 |0=>Ay4 _
 |k+1=>by
  have ih:=Nk l above ids k;unfold Cm
  split
  ·
   split
   · rw [Ax4,Ay9];omega
   · omega
  · omega
theorem plcI_pos {l:List Pn} {id:Id}:0<=Ar l id<->(plc l id).isSome=true:=by
 unfold Ar
 cases plc l id with
 |none=>simp
 |some p=>simp
theorem Sx (l:List Pn) (ids:List Id):(C5 l ids).length<=l.length:=by
 unfold C5;rw [Hg];exact Su _ _ _
theorem Ai8 (base:Nat) (r:RG) (B n c:Nat) (A:Option Addr) (ids:List Id) (w:World) (h:r.own w base) (hn:Hid (ids.length=n)) (hr:Rd w B 3 A n (ids.flatMap Id.cells)) (hnm:n<=100000):
  Calls zp 92 #[.agg r.cells,.slice A n c] w (Bp (Fw r.l ids) w):=by
 have bg:=Blk.new w 32 r.cells;have f0:Fr Non w (w.alloc (.cells r.cells 32)):=(Fr.refl Non w).alloc _;have kp:=lh (fun (id:Id) (w':World) (hf:Fr Non w w')=>Hf base r id w' (h.non hf));have hl:=Bi (P:=zp) w.heap.size 32 underlying32 rfl (cs:=r.cells) Co;have bb:=lh (fun (w':World) (hf:Fr Non w w')=>Sw base r B n c A ids w' (h.non hf) hn (hr.fr hf zr) (by omega));have bv:(C5 r.l ids).length<=1000:=Ax5 (Sx _ _) (Ax5 h.few (by omega));have bd:=lh (fun k y (hy:ids[k]? =some y)=>Ai7 (l:=r.l) (above:=C5 r.l ids) hy);have bk:=lh (Nk r.l (C5 r.l ids) ids);have a1:Hid (∀id,0<=Ar r.l id<->(plc r.l id).isSome=true):=fun id=>plcI_pos;have bm:Hid (Fw r.l ids=Az (Cm r.l (C5 r.l ids) ids n)):=by show _=_;rw [<- hn.out];rfl
 rw [bm.out];change Hid (∀(w':World),Fr Non w w'->Calls zp 135 #[.agg r.cells,.slice A n c] w' (Bp (C5 r.l ids) w')) at bb;clear h bm;generalize C5 r.l ids=ab at*;generalize r.cells=CS at*;generalize r.l=l at*;go_enter func92,ntmps92;go_upto_region 1 with (fail)
 generalize w.alloc (.cells CS 32)=w0 at*;go_wp2_with (go_at_call 135;(with_reducible refine (bb.out _ f0).mono ?_);rintro _ w1 ⟨A1,c1,rfl,o1,f1⟩;have bs:=f0.trans f1 zr;have b1:=bg.fr f1 zq;clear bb)
 go_loopw [6,7] (fun s v wr=>∃(k:Nat) (Ax:Option Addr) (cx:Nat) (xs:List Id),v=.int .i64 (k:Int)/\s=.slice Ax xs.length cx/\k<=n/\Hid (xs=Cm l ab ids k)/\Own wr w1.heap.size 38 3 Ax xs.length cx (xs.flatMap Id.cells)/\Fr Non w1 wr) (fun _ v _=>n-(intOf v).toNat)
 case atStart=>exact ⟨0,none,0,[],rfl,rfl,by omega,rfl,Own.nil _ _ _ _,Fr.refl _ _⟩
 case round=>
  obtain ⟨k,Ax,cx,xs,rfl,rfl,hk,az,ao,hf⟩:=hrel;have a8:Fr Non w wr:=bs.trans hf zr;have bj:=ao.row;have bx:xs.length<=k:=by rw [az.out];exact bk.out k
  by_cases hlt:k<n
  ·
   obtain ⟨y,hy⟩:∃y,ids[k]? =some y:=⟨_,Ax3 (by rw [hn.out];exact hlt)⟩;obtain ⟨b,aq,rfl,ba,k0,k1,k2⟩:=Id.at (hr.fr a8 zr) hy;have au:=lh (bd.out k y hy);rw [<- az.out] at au;obtain ⟨i1,i2,i3⟩:=ix k n
   have B0:=(b1.fr hf zq).drew;have a7:Fr Non w wr.drew:=a8.drew;have aj:cI wr.drew b (aq+k*3) y.b:=k0;have ai:cI wr.drew b (aq+k*3+1) y.s:=k1;have ak:cU wr.drew b (aq+k*3+2) y.u:=k2;have O0:Own wr.drew w1.heap.size 38 3 Ax xs.length cx (xs.flatMap Id.cells):=ao.drew;have H0:Fr Non w1 wr.drew:=hf.drew;have aw:=lh (kp.out y wr.drew a7);have a2:Hid (∀w',Fr Non w1 w'->Calls zp 31 #[.slice A1 ab.length c1,.agg y.V] w' (Ag (Bq ab y) w')):=fun w' hw=>Ma _ ab.length c1 A1 ab y w' rfl (o1.rd.fr hw zr) (by omega);have a4:Hid (∀w',Own w' w1.heap.size 38 3 Ax xs.length cx (xs.flatMap Id.cells)->Calls zp 31 #[.slice Ax xs.length cx,.agg y.V] w' (Ag (Bq xs y) w')):=fun w' hw=>Ma _ xs.length cx Ax xs y w' rfl hw.rd (by omega);have bf:=a1.out y
   have a6:Hid (∀b,(plc l y).isSome=b->decide (Ar l y>=0)=b):=fun b e=>by
    subst e
    cases hq:(plc l y).isSome with
    |true=>exact decide_eq_true (bf.2 hq)
    |false=>exact decide_eq_false (fun e=>by rw [bf.1 e] at hq;cases hq)
   clear kp bd bk k0 k1 k2 hy a1 bf;generalize Bq ab y=h1 at*;generalize Bq xs y=h2 at*;obtain ⟨ps,bi⟩:∃b,(plc l y).isSome=b:=⟨_,rfl⟩;have hP:=a6.out ps bi;rw [bi] at au;clear a6 bi;generalize Ar l y=P at*
   cases ps
   case false=>
    go_upto_region 6 with (fail)
    clear ao hf ba;refine wp_region_held_drew (S:=fun w'=>Blk w' w.heap.size 32 CS/\cI w' b (aq+k*3) y.b/\cI w' b (aq+k*3+1) y.s/\cU w' b (aq+k*3+2) y.u) (by kernel_rfl) ⟨B0,aj,ai,ak⟩ (fun hHeld=> ?_);clear hHeld;have uu:=aI B0 (aI aj (aI ai ak));refine tkH 0 uu (h:=tkH 1 uu (h:=tkH 2 uu (h:=tkH 3 uu (h:=tkH 4 uu (h:=?_)))));clear uu;simp only [zl];refine oG 5 (fun K hK=> ?_);go_simp;go_wp2_with (go_at_call 56;(with_reducible refine (aw.out).mono ?_);rintro _ v1 ⟨rfl,ah⟩;have B1:=B0.fr ah zq;obtain ⟨ad,ac,aa⟩:=zk3 ah aj ai ak;have a3:=a7.trans ah zr;have O1:=O0.fr ah zr;have H1:=H0.trans ah zr);refine hK.out _ _ ⟨B1,ad,ac,aa⟩ (fun hZ=> ?_);clear hZ hK K;try simp only [Ac,zl]
    have uu:=aI B1 (aI ad (aI ac aa));refine tkH 6 uu (h:=tkH 7 uu (h:=skH 8 uu (h:=skH 9 uu (h:=skH 10 uu (h:=skH 11 uu (h:=skH 12 uu (h:=skH 13 uu (h:=skH 14 uu (h:=tkH 15 uu (h:=tkH 16 uu (h:=skH 17 uu (h:=?_))))))))))));clear uu;simp only [zl];have uu:=aI B1 (aI ad (aI ac aa));refine skH 18 uu (h:=skH 19 uu (h:=skH 20 uu (h:=skH 21 uu (h:=skH 22 uu (h:=skH 23 uu (h:=tkH 24 uu (h:=?_)))))));clear uu;simp only [zl];refine oD ?_;go_simp;have ar:Hid (xs=Cm l ab ids (k+1)):=by show _=_;rw [au.out];rfl
    have hz:=H1;have oz:=O1;clear au az aw a2 a4;go_wp2_with fail;go_roundw
    case rel=>exact ⟨k+1,Ax,cx,xs,by go_num,rfl,by omega,ar,oz,hz⟩
    case measure=>simp [intOf];omega
   case true=>
    cases h1
    case true=>
     go_upto_region 6 with (fail)
     clear ao hf ba;refine wp_region_held_drew (S:=fun w'=>Blk w' w.heap.size 32 CS/\cI w' b (aq+k*3) y.b/\cI w' b (aq+k*3+1) y.s/\cU w' b (aq+k*3+2) y.u) (by kernel_rfl) ⟨B0,aj,ai,ak⟩ (fun hHeld=> ?_);clear hHeld;have uu:=aI B0 (aI aj (aI ai ak));refine tkH 0 uu (h:=tkH 1 uu (h:=tkH 2 uu (h:=tkH 3 uu (h:=tkH 4 uu (h:=?_)))));clear uu;simp only [zl];refine oG 5 (fun K hK=> ?_);go_simp;go_wp2_with (go_at_call 56;(with_reducible refine (aw.out).mono ?_);rintro _ v1 ⟨rfl,ah⟩;have B1:=B0.fr ah zq;obtain ⟨ad,ac,aa⟩:=zk3 ah aj ai ak;have a3:=a7.trans ah zr;have O1:=O0.fr ah zr;have H1:=H0.trans ah zr);refine hK.out _ _ ⟨B1,ad,ac,aa⟩ (fun hZ=> ?_);clear hZ hK K;try simp only [Ac,zl]
     have uu:=aI B1 (aI ad (aI ac aa));refine tkH 6 uu (h:=tkH 7 uu (h:=tkH 8 uu (h:=tkH 9 uu (h:=tkH 10 uu (h:=tkH 11 uu (h:=tkH 12 uu (h:=?_)))))));clear uu;simp only [zl];refine oG 13 (fun K hK=> ?_);go_simp;go_wp2_with (go_at_call 31;(with_reducible refine (a2.out _ H1).mono ?_);rintro _ v2 ⟨rfl,al⟩;have B2:=B1.fr al zq;obtain ⟨ae,ag,af⟩:=zk3 al ad ac aa;have a9:=a3.trans al zr;have O2:=O1.fr al zr;have H2:=H1.trans al zr);refine hK.out _ _ ⟨B2,ae,ag,af⟩ (fun hZ=> ?_);clear hZ hK K;try simp only [Ac,zl]
     have uu:=aI B2 (aI ae (aI ag af));refine tkH 14 uu (h:=tkH 15 uu (h:=tkH 16 uu (h:=skH 17 uu (h:=skH 18 uu (h:=skH 19 uu (h:=skH 20 uu (h:=skH 21 uu (h:=skH 22 uu (h:=skH 23 uu (h:=tkH 24 uu (h:=?_)))))))))));clear uu;simp only [zl];refine oD ?_;go_simp;have ar:Hid (xs=Cm l ab ids (k+1)):=by show _=_;rw [au.out];rfl
     have hz:=H2;have oz:=O2;clear au az aw a2 a4;go_wp2_with fail;go_roundw
     case rel=>exact ⟨k+1,Ax,cx,xs,by go_num,rfl,by omega,ar,oz,hz⟩
     case measure=>simp [intOf];omega
    case false=>
     cases h2
     case true=>
      go_upto_region 6 with (fail)
      clear ao hf ba;refine wp_region_held_drew (S:=fun w'=>Blk w' w.heap.size 32 CS/\cI w' b (aq+k*3) y.b/\cI w' b (aq+k*3+1) y.s/\cU w' b (aq+k*3+2) y.u) (by kernel_rfl) ⟨B0,aj,ai,ak⟩ (fun hHeld=> ?_);clear hHeld;have uu:=aI B0 (aI aj (aI ai ak));refine tkH 0 uu (h:=tkH 1 uu (h:=tkH 2 uu (h:=tkH 3 uu (h:=tkH 4 uu (h:=?_)))));clear uu;simp only [zl];refine oG 5 (fun K hK=> ?_);go_simp;go_wp2_with (go_at_call 56;(with_reducible refine (aw.out).mono ?_);rintro _ v1 ⟨rfl,ah⟩;have B1:=B0.fr ah zq;obtain ⟨ad,ac,aa⟩:=zk3 ah aj ai ak;have a3:=a7.trans ah zr;have O1:=O0.fr ah zr;have H1:=H0.trans ah zr);refine hK.out _ _ ⟨B1,ad,ac,aa⟩ (fun hZ=> ?_);clear hZ hK K;try simp only [Ac,zl]
      have uu:=aI B1 (aI ad (aI ac aa));refine tkH 6 uu (h:=tkH 7 uu (h:=tkH 8 uu (h:=tkH 9 uu (h:=tkH 10 uu (h:=tkH 11 uu (h:=tkH 12 uu (h:=?_)))))));clear uu;simp only [zl];refine oG 13 (fun K hK=> ?_);go_simp;go_wp2_with (go_at_call 31;(with_reducible refine (a2.out _ H1).mono ?_);rintro _ v2 ⟨rfl,al⟩;have B2:=B1.fr al zq;obtain ⟨ae,ag,af⟩:=zk3 al ad ac aa;have a9:=a3.trans al zr;have O2:=O1.fr al zr;have H2:=H1.trans al zr);refine hK.out _ _ ⟨B2,ae,ag,af⟩ (fun hZ=> ?_);clear hZ hK K;try simp only [Ac,zl]
      have uu:=aI B2 (aI ae (aI ag af));refine tkH 14 uu (h:=tkH 15 uu (h:=tkH 16 uu (h:=tkH 17 uu (h:=tkH 18 uu (h:=tkH 19 uu (h:=tkH 20 uu (h:=tkH 21 uu (h:=?_))))))));clear uu;simp only [zl];refine oG 22 (fun K hK=> ?_);go_simp;go_wp2_with (go_at_call 31;(with_reducible refine (a4.out _ O2).mono ?_);rintro _ v3 ⟨rfl,ap⟩;have B3:=B2.fr ap zq;obtain ⟨ax,a0,av⟩:=zk3 ap ae ag af;have bp:=a9.trans ap zr;have O3:=O2.fr ap zr;have H3:=H2.trans ap zr);refine hK.out _ _ ⟨B3,ax,a0,av⟩ (fun hZ=> ?_);clear hZ hK K;try simp only [Ac,zl]
      refine tkH 23 ⟨B3,ax,a0,av⟩ (h:=tkH 24 ⟨B3,ax,a0,av⟩ (h:=?_));simp only [zl];refine oD ?_;go_simp;have ar:Hid (xs=Cm l ab ids (k+1)):=by show _=_;rw [au.out];rfl
      have hz:=H3;have oz:=O3;clear au az aw a2 a4;go_wp2_with fail;go_roundw
      case rel=>exact ⟨k+1,Ax,cx,xs,by go_num,rfl,by omega,ar,oz,hz⟩
      case measure=>simp [intOf];omega
     case false=>
      go_upto_region 6 with (fail)
      clear ao hf ba;refine wp_region_held_drew (S:=fun w'=>Blk w' w.heap.size 32 CS/\cI w' b (aq+k*3) y.b/\cI w' b (aq+k*3+1) y.s/\cU w' b (aq+k*3+2) y.u) (by kernel_rfl) ⟨B0,aj,ai,ak⟩ (fun hHeld=> ?_);clear hHeld;have uu:=aI B0 (aI aj (aI ai ak));refine tkH 0 uu (h:=tkH 1 uu (h:=tkH 2 uu (h:=tkH 3 uu (h:=tkH 4 uu (h:=?_)))));clear uu;simp only [zl];refine oG 5 (fun K hK=> ?_);go_simp;go_wp2_with (go_at_call 56;(with_reducible refine (aw.out).mono ?_);rintro _ v1 ⟨rfl,ah⟩;have B1:=B0.fr ah zq;obtain ⟨ad,ac,aa⟩:=zk3 ah aj ai ak;have a3:=a7.trans ah zr;have O1:=O0.fr ah zr;have H1:=H0.trans ah zr);refine hK.out _ _ ⟨B1,ad,ac,aa⟩ (fun hZ=> ?_);clear hZ hK K;try simp only [Ac,zl]
      have uu:=aI B1 (aI ad (aI ac aa));refine tkH 6 uu (h:=tkH 7 uu (h:=tkH 8 uu (h:=tkH 9 uu (h:=tkH 10 uu (h:=tkH 11 uu (h:=tkH 12 uu (h:=?_)))))));clear uu;simp only [zl];refine oG 13 (fun K hK=> ?_);go_simp;go_wp2_with (go_at_call 31;(with_reducible refine (a2.out _ H1).mono ?_);rintro _ v2 ⟨rfl,al⟩;have B2:=B1.fr al zq;obtain ⟨ae,ag,af⟩:=zk3 al ad ac aa;have a9:=a3.trans al zr;have O2:=O1.fr al zr;have H2:=H1.trans al zr);refine hK.out _ _ ⟨B2,ae,ag,af⟩ (fun hZ=> ?_);clear hZ hK K;try simp only [Ac,zl]
      have uu:=aI B2 (aI ae (aI ag af));refine tkH 14 uu (h:=tkH 15 uu (h:=tkH 16 uu (h:=tkH 17 uu (h:=tkH 18 uu (h:=tkH 19 uu (h:=tkH 20 uu (h:=tkH 21 uu (h:=?_))))))));clear uu;simp only [zl];refine oG 22 (fun K hK=> ?_);go_simp;go_wp2_with (go_at_call 31;(with_reducible refine (a4.out _ O2).mono ?_);rintro _ v3 ⟨rfl,ap⟩;have B3:=B2.fr ap zq;obtain ⟨ax,a0,av⟩:=zk3 ap ae ag af;have bp:=a9.trans ap zr;have O3:=O2.fr ap zr;have H3:=H2.trans ap zr);refine hK.out _ _ ⟨B3,ax,a0,av⟩ (fun hZ=> ?_);clear hZ hK K;try simp only [Ac,zl]
      refine tkH 23 ⟨B3,ax,a0,av⟩ (h:=tkH 24 ⟨B3,ax,a0,av⟩ (h:=?_));simp only [zl];refine oD ?_;go_simp;have ar:Hid (xs++[y]=Cm l ab ids (k+1)):=by show _=_;rw [au.out];rfl
      have hz:=H3;have oz:=O3;have e0:=ax;have e1:=a0;have e2:=av;clear au az aw a2 a4;have bc:=oz.alloc (.cells y.V 38);have bq:=hz.alloc (.cells y.V 38);have bu:=Blk.new v3 38 y.V;have bw:=hz.size;go_wp2_with (at_builtin;go_loud (refine Bc (base:=w1.heap.size) (.tmp 42) (.tmp 47) 28 rfl rfl rfl rfl Dp bc (Rd.blk (n:=1) (size:=3) bu rfl) (by simp [Value.oneCell']) (by omega) (by omega) (by rw [Ax7];omega) ?_);intro A2 bl w4 bh bt bo)
      have be:Own w4 w1.heap.size 38 3 A2 (xs++[y]).length bl ((xs++[y]).flatMap Id.cells):=by
       rw [Ax4,Ay5];exact bh
      have br:Fr Non w1 w4:=bq.trans bt (fun j hj e=>by have h5:=(bj j e).1;omega);go_roundw
      case rel=>exact ⟨k+1,A2,bl,xs++[y],by go_num,by rw [Ax4];rfl,by omega,ar,be,br⟩
      case measure=>simp [intOf];omega
  ·
   obtain rfl:k=n:=by omega
   have ks:=lh (Ix wr.heap.size xs.length cx Ax xs wr rfl ao.rd (by omega))
   have a5:Hid (∀e w',SortPost xs xs.length wr e w'->Bp (Az (Cm l ab ids k)) w e w'):=by
    rintro e w' ⟨A5,c5,h1,h2,h3⟩;have bn:(Az xs).length=xs.length:=Hg xs;rw [<- az.out];exact ⟨A5,c5,by rw [bn];exact h1,by rw [bn];exact h2.lower a8.size,a8.trans h3 zr⟩
   generalize Bp (Az (Cm l ab ids k)) w=POST at*;clear az ao hr bg bd bk a1 kp;go_wp2_with (go_at_call 48;(with_reducible refine (ks.out).mono ?_);rintro _ w7 ⟨A5,c5,rfl,h5,h6⟩;have ay:=lh (a5.out _ _ ⟨A5,c5,rfl,h5,h6⟩);clear ks a5 h5 h6)
   first|exact ay.out|(go_ret;exact ay.out)
def Bu (l:List Pn) (above ids:List Id):Nat->List Id
 |0=>above
 |k+1=>match ids[k]? with
  |some y=>if (plc l y).isSome&& !Bq (Bu l above ids k) y then Bu l above ids k++[y] else Bu l above ids k
  |none=>Bu l above ids k
def Gj (l:List Pn) (ids:List Id):List Id:=Az (Bu l (C5 l ids) ids ids.length)
theorem Sy {l:List Pn} {above ids:List Id} {k:Nat} {y:Id} (h:ids[k]? =some y):
  Bu l above ids (k+1)=if (plc l y).isSome&& !Bq (Bu l above ids k) y then Bu l above ids k++[y] else Bu l above ids k:=by
 show (match ids[k]? with|some y=>if (plc l y).isSome&& !Bq (Bu l above ids k) y then Bu l above ids k++[y] else Bu l above ids k|none=>Bu l above ids k)=_;rw [h]
theorem Sz (l:List Pn) (above ids:List Id):∀k,(Bu l above ids k).length<=above.length+k
 |0=>Ay4 _
 |k+1=>by
  have ih:=Sz l above ids k;unfold Bu
  split
  ·
   split
   · rw [Ax4,Ay9];omega
   · omega
  · omega
theorem Ai9 (base:Nat) (r:RG) (B n c:Nat) (A:Option Addr) (ids:List Id) (w:World) (h:r.own w base) (hn:Hid (ids.length=n)) (hr:Rd w B 3 A n (ids.flatMap Id.cells)) (hnm:n<=100000):
  Calls zp 80 #[.agg r.cells,.slice A n c] w (Bp (Gj r.l ids) w):=by
 have bg:=Blk.new w 32 r.cells;have f0:Fr Non w (w.alloc (.cells r.cells 32)):=(Fr.refl Non w).alloc _;have kp:=lh (fun (id:Id) (w':World) (hf:Fr Non w w')=>Hf base r id w' (h.non hf));have hl:=Bi (P:=zp) w.heap.size 32 underlying32 rfl (cs:=r.cells) Co;have a4:=lh (fun (w':World) (hf:Fr Non w w')=>Sw base r B n c A ids w' (h.non hf) hn (hr.fr hf zr) (by omega));have bp:(C5 r.l ids).length<=1000:=Ax5 (Sx _ _) (Ax5 h.few (by omega));have a6:=lh (fun k y (hy:ids[k]? =some y)=>Sy (l:=r.l) (above:=C5 r.l ids) hy);have bd:=lh (Sz r.l (C5 r.l ids) ids);have av:Hid (∀id,0<=Ar r.l id<->(plc r.l id).isSome=true):=fun id=>plcI_pos;have bh:Hid (Gj r.l ids=Az (Bu r.l (C5 r.l ids) ids n)):=by show _=_;rw [<- hn.out];rfl
 have bf:Hid (C5 r.l ids=Bu r.l (C5 r.l ids) ids 0):=rfl;rw [bh.out];change Hid (∀(w':World),Fr Non w w'->Calls zp 135 #[.agg r.cells,.slice A n c] w' (Bp (C5 r.l ids) w')) at a4;clear h bh;generalize C5 r.l ids=ab at*;generalize r.cells=CS at*;generalize r.l=l at*;go_enter func80,ntmps80;go_upto_region 1 with (fail)
 have br:=f0.size;generalize w.alloc (.cells CS 32)=w0 at*;go_wp2_with (go_at_call 135;(with_reducible refine (a4.out _ f0).mono ?_);rintro _ w1 ⟨A1,c1,rfl,o1,f1⟩;have bs:=f0.trans f1 zr;have b1:=bg.fr f1 zq;clear a4);have bq:=f1.size
 go_loopw [5,6] (fun s v wr=>∃(k:Nat) (Ax:Option Addr) (cx:Nat) (xs:List Id),v=.int .i64 (k:Int)/\s=.slice Ax xs.length cx/\k<=n/\Hid (xs=Bu l ab ids k)/\Own wr w0.heap.size 38 3 Ax xs.length cx (xs.flatMap Id.cells)/\Fr Non w0 wr) (fun _ v _=>n-(intOf v).toNat)
 case atStart=>exact ⟨0,A1,c1,ab,rfl,rfl,by omega,bf,o1,f1⟩
 case round=>
  obtain ⟨k,Ax,cx,xs,rfl,rfl,hk,aw,aj,hf⟩:=hrel;have a1:Fr Non w wr:=f0.trans hf zr;have bc:=aj.row;have bu:xs.length<=ab.length+k:=by rw [aw.out];exact bd.out k
  by_cases hlt:k<n
  ·
   obtain ⟨y,hy⟩:∃y,ids[k]? =some y:=⟨_,Ax3 (by rw [hn.out];exact hlt)⟩;obtain ⟨b,ak,rfl,ba,k0,k1,k2⟩:=Id.at (hr.fr a1 zr) hy;have ao:=lh (a6.out k y hy);rw [<- aw.out] at ao;obtain ⟨i1,i2,i3⟩:=ix k n
   have B0:=(bg.fr hf zq).drew;have a3:Fr Non w wr.drew:=a1.drew;have ag:cI wr.drew b (ak+k*3) y.b:=k0;have af:cI wr.drew b (ak+k*3+1) y.s:=k1;have ah:cU wr.drew b (ak+k*3+2) y.u:=k2;have O0:Own wr.drew w0.heap.size 38 3 Ax xs.length cx (xs.flatMap Id.cells):=aj.drew;have H0:Fr Non w0 wr.drew:=hf.drew;have ax:=lh (kp.out y wr.drew a3);have a0:Hid (∀w',Own w' w0.heap.size 38 3 Ax xs.length cx (xs.flatMap Id.cells)->Calls zp 31 #[.slice Ax xs.length cx,.agg y.V] w' (Ag (Bq xs y) w')):=fun w' hw=>Ma _ xs.length cx Ax xs y w' rfl hw.rd (by omega);have a8:=av.out y
   have az:Hid (∀b,(plc l y).isSome=b->decide (Ar l y>=0)=b):=fun b e=>by
    subst e
    cases hq:(plc l y).isSome with
    |true=>exact decide_eq_true (a8.2 hq)
    |false=>exact decide_eq_false (fun e=>by rw [a8.1 e] at hq;cases hq)
   clear kp a6 bd k0 k1 k2 hy av a8 bf;generalize Bq xs y=h2 at*;obtain ⟨ps,bb⟩:∃b,(plc l y).isSome=b:=⟨_,rfl⟩;have hP:=az.out ps bb;rw [bb] at ao;clear az bb;generalize Ar l y=P at*
   cases ps
   case false=>
    go_upto_region 5 with (fail)
    clear aj hf ba;refine wp_region_held_drew (S:=fun w'=>Blk w' w.heap.size 32 CS/\cI w' b (ak+k*3) y.b/\cI w' b (ak+k*3+1) y.s/\cU w' b (ak+k*3+2) y.u) (by kernel_rfl) ⟨B0,ag,af,ah⟩ (fun hHeld=> ?_);clear hHeld;have uu:=aI B0 (aI ag (aI af ah));refine tkH 0 uu (h:=tkH 1 uu (h:=tkH 2 uu (h:=tkH 3 uu (h:=tkH 4 uu (h:=?_)))));clear uu;simp only [zl];refine oG 5 (fun K hK=> ?_);go_simp;go_wp2_with (go_at_call 56;(with_reducible refine (ax.out).mono ?_);rintro _ v1 ⟨rfl,ae⟩;have B1:=B0.fr ae zq;obtain ⟨ad,ac,aa⟩:=zk3 ae ag af ah;have a2:=a3.trans ae zr;have O1:=O0.fr ae zr;have H1:=H0.trans ae zr);refine hK.out _ _ ⟨B1,ad,ac,aa⟩ (fun hZ=> ?_);clear hZ hK K;try simp only [Ac,zl]
    have uu:=aI B1 (aI ad (aI ac aa));refine tkH 6 uu (h:=tkH 7 uu (h:=skH 8 uu (h:=skH 9 uu (h:=skH 10 uu (h:=skH 11 uu (h:=skH 12 uu (h:=skH 13 uu (h:=skH 14 uu (h:=tkH 15 uu (h:=?_))))))))));clear uu;simp only [zl];refine oD ?_;go_simp;have al:Hid (xs=Bu l ab ids (k+1)):=by show _=_;rw [ao.out];rfl
    have hz:=H1;have oz:=O1;clear ao aw ax a0;go_wp2_with fail;go_roundw
    case rel=>exact ⟨k+1,Ax,cx,xs,by go_num,rfl,by omega,al,oz,hz⟩
    case measure=>simp [intOf];omega
   case true=>
    cases h2
    case true=>
     go_upto_region 5 with (fail)
     clear aj hf ba;refine wp_region_held_drew (S:=fun w'=>Blk w' w.heap.size 32 CS/\cI w' b (ak+k*3) y.b/\cI w' b (ak+k*3+1) y.s/\cU w' b (ak+k*3+2) y.u) (by kernel_rfl) ⟨B0,ag,af,ah⟩ (fun hHeld=> ?_);clear hHeld;have uu:=aI B0 (aI ag (aI af ah));refine tkH 0 uu (h:=tkH 1 uu (h:=tkH 2 uu (h:=tkH 3 uu (h:=tkH 4 uu (h:=?_)))));clear uu;simp only [zl];refine oG 5 (fun K hK=> ?_);go_simp;go_wp2_with (go_at_call 56;(with_reducible refine (ax.out).mono ?_);rintro _ v1 ⟨rfl,ae⟩;have B1:=B0.fr ae zq;obtain ⟨ad,ac,aa⟩:=zk3 ae ag af ah;have a2:=a3.trans ae zr;have O1:=O0.fr ae zr;have H1:=H0.trans ae zr);refine hK.out _ _ ⟨B1,ad,ac,aa⟩ (fun hZ=> ?_);clear hZ hK K;try simp only [Ac,zl]
     have uu:=aI B1 (aI ad (aI ac aa));refine tkH 6 uu (h:=tkH 7 uu (h:=tkH 8 uu (h:=tkH 9 uu (h:=tkH 10 uu (h:=tkH 11 uu (h:=tkH 12 uu (h:=?_)))))));clear uu;simp only [zl];refine oG 13 (fun K hK=> ?_);go_simp;go_wp2_with (go_at_call 31;(with_reducible refine (a0.out _ O1).mono ?_);rintro _ v2 ⟨rfl,ai⟩;have B2:=B1.fr ai zq;obtain ⟨aq,au,ar⟩:=zk3 ai ad ac aa;have bm:=a2.trans ai zr;have O2:=O1.fr ai zr;have H2:=H1.trans ai zr);refine hK.out _ _ ⟨B2,aq,au,ar⟩ (fun hZ=> ?_);clear hZ hK K;try simp only [Ac,zl]
     refine tkH 14 ⟨B2,aq,au,ar⟩ (h:=tkH 15 ⟨B2,aq,au,ar⟩ (h:=?_));simp only [zl];refine oD ?_;go_simp;have al:Hid (xs=Bu l ab ids (k+1)):=by show _=_;rw [ao.out];rfl
     have hz:=H2;have oz:=O2;clear ao aw ax a0;go_wp2_with fail;go_roundw
     case rel=>exact ⟨k+1,Ax,cx,xs,by go_num,rfl,by omega,al,oz,hz⟩
     case measure=>simp [intOf];omega
    case false=>
     go_upto_region 5 with (fail)
     clear aj hf ba;refine wp_region_held_drew (S:=fun w'=>Blk w' w.heap.size 32 CS/\cI w' b (ak+k*3) y.b/\cI w' b (ak+k*3+1) y.s/\cU w' b (ak+k*3+2) y.u) (by kernel_rfl) ⟨B0,ag,af,ah⟩ (fun hHeld=> ?_);clear hHeld;have uu:=aI B0 (aI ag (aI af ah));refine tkH 0 uu (h:=tkH 1 uu (h:=tkH 2 uu (h:=tkH 3 uu (h:=tkH 4 uu (h:=?_)))));clear uu;simp only [zl];refine oG 5 (fun K hK=> ?_);go_simp;go_wp2_with (go_at_call 56;(with_reducible refine (ax.out).mono ?_);rintro _ v1 ⟨rfl,ae⟩;have B1:=B0.fr ae zq;obtain ⟨ad,ac,aa⟩:=zk3 ae ag af ah;have a2:=a3.trans ae zr;have O1:=O0.fr ae zr;have H1:=H0.trans ae zr);refine hK.out _ _ ⟨B1,ad,ac,aa⟩ (fun hZ=> ?_);clear hZ hK K;try simp only [Ac,zl]
     have uu:=aI B1 (aI ad (aI ac aa));refine tkH 6 uu (h:=tkH 7 uu (h:=tkH 8 uu (h:=tkH 9 uu (h:=tkH 10 uu (h:=tkH 11 uu (h:=tkH 12 uu (h:=?_)))))));clear uu;simp only [zl];refine oG 13 (fun K hK=> ?_);go_simp;go_wp2_with (go_at_call 31;(with_reducible refine (a0.out _ O1).mono ?_);rintro _ v2 ⟨rfl,ai⟩;have B2:=B1.fr ai zq;obtain ⟨aq,au,ar⟩:=zk3 ai ad ac aa;have bm:=a2.trans ai zr;have O2:=O1.fr ai zr;have H2:=H1.trans ai zr);refine hK.out _ _ ⟨B2,aq,au,ar⟩ (fun hZ=> ?_);clear hZ hK K;try simp only [Ac,zl]
     refine tkH 14 ⟨B2,aq,au,ar⟩ (h:=tkH 15 ⟨B2,aq,au,ar⟩ (h:=?_));simp only [zl];refine oD ?_;go_simp;have al:Hid (xs++[y]=Bu l ab ids (k+1)):=by show _=_;rw [ao.out];rfl
     have hz:=H2;have oz:=O2;have e0:=aq;have e1:=au;have e2:=ar;clear ao aw ax a0;have a5:=oz.alloc (.cells y.V 38);have bk:=hz.alloc (.cells y.V 38);have bo:=Blk.new v2 38 y.V;have bt:=hz.size;go_wp2_with (at_builtin;go_loud (refine Bc (base:=w0.heap.size) (.tmp 32) (.tmp 37) 28 rfl rfl rfl rfl Dp a5 (Rd.blk (n:=1) (size:=3) bo rfl) (by simp [Value.oneCell']) (by omega) (by omega) (by rw [Ax7];omega) ?_);intro A2 be w4 a9 bn bj)
     have a7:Own w4 w0.heap.size 38 3 A2 (xs++[y]).length be ((xs++[y]).flatMap Id.cells):=by
      rw [Ax4,Ay5];exact a9
     have bl:Fr Non w0 w4:=bk.trans bn (fun j hj e=>by have h5:=(bc j e).1;omega);go_roundw
     case rel=>exact ⟨k+1,A2,be,xs++[y],by go_num,by rw [Ax4];rfl,by omega,al,a7,bl⟩
     case measure=>simp [intOf];omega
  ·
   obtain rfl:k=n:=by omega
   have ks:=lh (Ix wr.heap.size xs.length cx Ax xs wr rfl aj.rd (by omega))
   have ay:Hid (∀e w',SortPost xs xs.length wr e w'->Bp (Az (Bu l ab ids k)) w e w'):=by
    rintro e w' ⟨A5,c5,h1,h2,h3⟩;have bi:(Az xs).length=xs.length:=Hg xs;rw [<- aw.out];exact ⟨A5,c5,by rw [bi];exact h1,by rw [bi];exact h2.lower a1.size,a1.trans h3 zr⟩
   generalize Bp (Az (Bu l ab ids k)) w=POST at*;clear aw aj hr bg a6 bd av kp;go_wp2_with (go_at_call 48;(with_reducible refine (ks.out).mono ?_);rintro _ w7 ⟨A5,c5,rfl,h5,h6⟩;have ap:=lh (ay.out _ _ ⟨A5,c5,rfl,h5,h6⟩);clear ks ay h5 h6)
   first|exact ap.out|(go_ret;exact ap.out)
end Oq
namespace Oq
theorem Aj0 (z:Array Value) (v:Value) (m:Nat) (h0:0<z.size) (h:∀i,i<z.size->z[i]! =v):(madeCells z m).toList=List.replicate m v:=by
 unfold madeCells;rw [Array.toList_map,Az0];refine ⟨by simp,fun u hu=> ?_⟩;obtain ⟨i,_,rfl⟩:=List.mem_map.1 hu;exact h _ (Nat.mod_lt _ h0)
theorem Aj1 {P:Program} {o:Oper} {a:Act} {K:Act->World->Prop} {Q:Exit->Act->World->Prop} {w:World} (l:Operand) (t:TypeId) (hop:o.op=Op.makeSlice t l l) {e:TypeId} {size bytes:Nat} {z:Value} (hT:SlT P t e z size bytes)
  {N:Int} {n:Nat} (hl:a.eval l=.int .i64 N) (hN:N=(n:Int)) (b2:bytes*n<=281474976710656) (b3:n<=9223372036854775807)
  (hK:∀w',Own w' w.heap.size e size (some ⟨w.heap.size,0,none⟩) n n (madeCells z.cells (n*size)).toList->Fr Non w w'->K (a.put o.dst (.slice (some ⟨w.heap.size,0,none⟩) n n)) w'):Oper.wp P o a w K Q:=by
 obtain ⟨ht,hinfo,_,_⟩:=hT;obtain ⟨i,hi,hz,hsize,hby⟩:=info_parts hinfo;subst hN;obtain ⟨w',hrun,r1,r2⟩:=run_make_full (P:=P) (w:=w) w.heap.size t e i z size ht hi hz hsize .i64 .i64 n (by rw [hby];exact b2) (by unfold maxLen;exact b3) (Ay4 _);have hf:Fr Non w w':=⟨r2.os,r2.tape,r2.output,r2.size,fun j hj _=>r2.block j hj (fun e=>by cases e)⟩;have hk':=hK w' r1 hf;unfold Oper.wp execOp;simp only [hop,hl,hrun,Sem.run_bind,Result.andThen_ok,Sem.run_pure];exact hk'
theorem Aj2 {P:Program} {ops:Array Oper} {rest:List Oper} {o:Oper} {a:Act} {Q:Exit->Act->World->Prop} {w:World} (hg:o.guard=none) (l:Operand) (t:TypeId) (hop:o.op=Op.makeSlice t l l) {e:TypeId} {size bytes:Nat} {z:Value} (hT:SlT P t e z size bytes)
  {N:Int} {n:Nat} (hl:a.eval l=.int .i64 N) (hN:N=(n:Int)) (b2:bytes*n<=281474976710656) (b3:n<=9223372036854775807)
  (hK:∀w',Own w' w.heap.size e size (some ⟨w.heap.size,0,none⟩) n n (madeCells z.cells (n*size)).toList->Fr Non w w'->wpList P ops Q rest (a.put o.dst (.slice (some ⟨w.heap.size,0,none⟩) n n)) w'):wpList P ops Q (o::rest) a w:=
 wpList_plain hg fun _ hK'=>Aj1 l t hop hT hl hN b2 b3 (fun w' h1 h2=>hK' _ _ (hK w' h1 h2))
end Oq
namespace Oq
attribute [local go_sem] Ay2 Ay3
attribute [local go_sem ↓] Cx
theorem Ej {P:Program} {o:Oper} {a:Act} {K:Act->World->Prop} {Q:Exit->Act->World->Prop} {w:World} (s x:Operand) (t:TypeId)
  (ho:o.op=.call {callee:=.builtin .append,args:=#[s,x],argTypes:=#[t,t]})
  {base size n c:Nat} {e:TypeId} {A:Option Addr} {xs:List Value} {z:Value} {bytes m cx B:Nat} {Ax:Option Addr} {news:List Value}
  (hs:a.eval s=.slice A n c) (hx:a.eval x=.slice Ax m cx)
  (hT:SlT P t e z size bytes) (h:Own w base e size A n c xs) (hr:Rd w B size Ax m news)
  (h1:∀u∈news,u.oneCell'=true) (hbytes:(n+m)*bytes<=140737488355328) (hmax:n+m<=9223372036854775807) (hbase:base<=w.heap.size)
  (hk:∀A' c' w',Own w' base e size A' (n+m) c' (xs++news)->Fr (fun k=>Ae A=some k) w w'->(Ae A'=Ae A\/Ae A'=some w.heap.size)->
   K (a.put o.dst (.slice A' (n+m) c')) w'):Oper.wp P o a w K Q:=by
 obtain ⟨A',c',w',hrun,h2,h3,h4⟩:=Hr (P:=P) (ty:=o.type) (cx:=cx) hT h hr h1 hbytes hmax hbase;unfold Oper.wp execOp;simp only [ho,resolve,invoke,builtin,Sem.run_bind,Sem.run_pure,Result.andThen_ok,List.map_toArray,List.map_cons,List.map_nil,hs,hx,hrun];exact hk A' c' w' h2 h3 h4
def ClosedOk (l:List Pn) (cs:List Id):Prop:=cs.Nodup/\∀id∈cs,(plc l id).isSome=true
theorem Rows.idsNodup {cards:List Cd} {l:List Pn} (h:Rows cards l):(l.map Pn.id).Nodup:=by
 refine List.pairwise_iff_getElem.2 (fun i j hi hj hij e=> ?_);rw [List.length_map] at hi hj;rw [Az1,Az1] at e;have h1:=(h.ok i _ (Ax3 hi)).plc;have h2:=(h.ok j _ (Ax3 hj)).plc;rw [e,h2] at h1;injection h1 with h1
 omega
theorem Rows.placed {cards:List Cd} {l:List Pn} (h:Rows cards l) {id:Id} (hid:id∈l.map Pn.id):(plc l id).isSome=true:=by
 obtain ⟨n,hn,rfl⟩:=List.mem_map.1 hid;obtain ⟨i,hi⟩:=List.getElem?_of_mem hn;rw [(h.ok i n hi).plc];rfl
theorem Nl {cards:List Cd} {l:List Pn} (h:Rows cards l):ClosedOk l (Az (l.map Pn.id)):=
 ⟨(E1 _).nodup_iff.2 h.idsNodup,fun _ hid=>h.placed ((E1 _).subset hid)⟩
theorem Nn (l:List Pn) (p:Nat->Bool):∀k,∀id∈Cg l p k,∃i m,i<k/\p i=true/\l[i]? =some m/\m.id=id:=by
 intro k id hid;unfold Cg at hid;obtain ⟨i,hi,h⟩:=List.mem_filterMap.1 hid;rw [List.mem_range] at hi
 cases hp:p i with
 |false=>rw [hp] at h;cases h
 |true=>
  rw [hp,if_pos rfl] at h
  cases hm:l[i]? with
  |none=>rw [hm] at h;cases h
  |some m=>rw [hm] at h;injection h with h;exact ⟨i,m,hi,hp,hm,h⟩
theorem Np {cards:List Cd} {l:List Pn} (h:Rows cards l) (p:Nat->Bool):∀k,(Cg l p k).Nodup:=by
 intro k
 induction k with
 |zero=>exact Ay6
 |succ k ih=>
  cases hm:l[k]? with
  |none=>
   have:Cg l p (k+1)=Cg l p k:=by
    unfold Cg;rw [List.range_succ,List.filterMap_append];simp [hm]
   rw [this];exact ih
  |some m=>
   rw [St l p k hm]
   cases hp:p k with
   |false=>simpa using ih
   |true=>
    rw [if_pos rfl,List.nodup_append];refine ⟨ih,List.nodup_cons.2 ⟨Az2,Ay6⟩,?_⟩;intro a ha b hb e;rw [Ay0] at hb;obtain ⟨i,m',hi,_,hm',e'⟩:=Nn l p k a ha;have h1:=(h.ok i m' hm').plc;have h2:=(h.ok k m hm).plc;rw [e',e,hb,h2] at h1;injection h1 with h1
    omega
theorem Aj3 {cards:List Cd} {l:List Pn} (h:Rows cards l) (ids:List Id):ClosedOk l (C5 l ids):=by
 refine ⟨(E1 _).nodup_iff.2 (Np h _ _),fun id hid=> ?_⟩;obtain ⟨i,m,_,_,hm,rfl⟩:=Nn l _ _ id ((E1 _).subset hid);exact h.placed (List.mem_map_of_mem (Ax8 hm))
theorem Aj4 {l:List Pn} {above ids:List Id} (h:ClosedOk l above):∀k,ClosedOk l (Bu l above ids k):=by
 intro k
 induction k with
 |zero=>exact h
 |succ k ih=>
  cases hy:ids[k]? with
  |none=>
   have:Bu l above ids (k+1)=Bu l above ids k:=by
    show (match ids[k]? with|some y=>if (plc l y).isSome&& !Bq (Bu l above ids k) y then Bu l above ids k++[y] else Bu l above ids k|none=>Bu l above ids k)=_;rw [hy]
   rw [this];exact ih
  |some y=>
   rw [Sy hy]
   split
   ·
    rename_i hc;rw [Az3,Bool.not_eq_true'] at hc;refine ⟨List.nodup_append.2 ⟨ih.1,List.nodup_cons.2 ⟨Az2,Ay6⟩,?_⟩,?_⟩
    ·
     intro a ha b hb e;rw [Ay0] at hb;rw [e,hb] at ha;rw [(Ly _ _).2 ha] at hc;exact absurd hc.2 (by simp)
    ·
     intro id hid
     rcases List.mem_append.1 hid with h1|h1
     · exact ih.2 id h1
     ·
      rw [Ay0] at h1;rw [h1];exact hc.1
   · exact ih
theorem Aj5 {cards:List Cd} {l:List Pn} (h:Rows cards l) (ids:List Id):ClosedOk l (Gj l ids):=by
 have k:=Aj4 (Aj3 h ids) (ids:=ids) ids.length;exact ⟨(E1 _).nodup_iff.2 k.1,fun id hid=>k.2 id ((E1 _).subset hid)⟩
def Ki (l:List Pn) (w:World) (e:Ending) (w':World):Prop:=∃cs:List Id,Bp cs w e w'/\ClosedOk l cs/\RowW cs
theorem Nq (l:List Id):(Az l).length=l.length:=(E1 l).length_eq
theorem Kj (base:Nat) (r:RG) (B n c:Nat) (A:Option Addr) (l0:List Int) (w:World) (h:r.own w base) (hn:Hid (l0.length=n)) (hr:Rd w B 1 A n (l0.map Iv)) (hok:∀x∈l0,I64 x):
  Calls zp 26 #[.agg r.cells,.slice A n c] w (Ki r.l w):=by
 have av:=h.few;have bg:=Blk.new w 32 r.cells;have f0:Fr Non w (w.alloc (.cells r.cells 32)):=(Fr.refl Non w).alloc _;have g1:Hid (r.cells[1]? =some (.slice r.lA r.l.length r.lC)):=rfl;have g2:Hid (r.cells[2]? =some (.slice r.iA r.l.length r.iC)):=rfl;have hl:=Bi (P:=zp) w.heap.size 32 underlying32 rfl (cs:=r.cells) Co;have ka:=lh (fun (w':World) (hf:Fr Non w w')=>Nj base r w' (h.non hf));have a4:Hid (ClosedOk r.l (Az r.ids)/\RowW (Az r.ids)):=⟨Nl h.rows,Po _⟩;have ap:Hid ((Az r.ids).length=r.l.length):=by show _=_;rw [Nq,Kh]
 have kw:=lh (fun (A':Option Addr) (c':Nat) (ids:List Id) (w':World) (hf:Fr Non w w') (ho:Rd w' w'.heap.size 3 A' ids.length (ids.flatMap Id.cells)) (hle:ids.length<=1000)=>Ai9 base r w'.heap.size ids.length c' A' ids w' (h.non hf) rfl ho (by omega));have al:Hid (∀ids,ClosedOk r.l (Gj r.l ids)/\RowW (Gj r.l ids)):=fun ids=>⟨Aj5 h.rows ids,Po _⟩;have hid:=lh (fun (p:Nat) (hp:p<r.l.length)=>h.idAt hp)
 have ab:Hid (∀(cs:List Id) w1 e w',Fr Non w w1->Bp cs w1 e w'->ClosedOk r.l cs/\RowW cs->Ki r.l w e w'):=by
  rintro cs w1 e w' hf ⟨A5,c5,h1,h2,h3⟩ ⟨h4,h5⟩;exact ⟨cs,⟨A5,c5,h1,h2.lower hf.size,hf.trans h3 zr⟩,h4,h5⟩
 clear h;unfold SortPost at ka;generalize Az r.ids=SI at*;generalize r.lA=LA at*;generalize r.lC=LC at*;generalize r.iA=IA at*;generalize r.iC=IC at*;generalize r.cells=CS at*;generalize Ki r.l w=POST at*;generalize r.l=l at*;obtain ⟨N,hN⟩:=Aa l.length;rw [hN.out] at g1 g2 hid av ap
 by_cases hz:n=0\/N=0
 ·
  have c1:=(bg.cell 1).trans g1.out
  have tt:((n:Int)==0)=true\/((n:Int)==0)=false/\((N:Int)==0)=true:=by
   rcases hz with e|e
   · exact .inl (by simp [e])
   ·
    by_cases e2:n=0
    · exact .inl (by simp [e2])
    · exact .inr ⟨by simp;omega,by simp [e]⟩
  rcases tt with t1|⟨t1,t2⟩
  all_goals
   clear kw al hid hr hz;go_enter func26,ntmps26;go_upto_region 1 with (fail)
   generalize w.alloc (.cells CS 32)=w0 at*;go_wp2_with (go_at_call 22;(with_reducible refine (ka.out _ f0).mono ?_);rintro _ w1 ⟨A1,c1,rfl,o1,f1⟩;have hd:=lh (ab.out SI w0 (.returned (.slice A1 l.length c1)) w1 f0 ⟨A1,c1,by rw [ap.out,hN.out],by rw [ap.out,<- hN.out];exact o1,f1⟩ a4.out);clear ka o1 f1 ab a4)
   first|exact hd.out|(go_ret;exact hd.out)
 ·
  have t1:((n:Int)==0)=false:=by simp;omega
  have t2:((N:Int)==0)=false:=by simp;omega
  have c1:=(bg.cell 1).trans g1.out;clear ka a4 ap;go_enter func26,ntmps26;go_upto_region 1 with (fail)
  have bn:=f0.size;generalize w.alloc (.cells CS 32)=w0 at*;go_wp2_with fail;clear c1
  go_loopw [5,6] (fun s v wr=>∃(k:Nat) (Ax:Option Addr) (cx:Nat) (xs:List Id),v=.int .i64 (k:Int)/\s=.slice Ax xs.length cx/\k<=4/\k<=n/\Hid (xs.length=k)/\Own wr w0.heap.size 38 3 Ax xs.length cx (xs.flatMap Id.cells)/\Fr Non w0 wr) (fun _ v _=>4-(intOf v).toNat)
  case atStart=>exact ⟨0,none,0,[],rfl,rfl,by omega,by omega,rfl,Own.nil _ _ _ _,Fr.refl _ _⟩
  case round=>
   obtain ⟨k,Ax,cx,xs,rfl,rfl,bc,bk,a5,af,hf⟩:=hrel;have aj:Fr Non w wr:=f0.trans hf zr;have ak:=af.row;have bo:xs.length<=4:=by rw [a5.out];exact bc
   by_cases hlt:k<n/\k<4
   ·
    have i0:decide ((k:Int)<(n:Int))=true:=decide_eq_true (by omega);have bq:decide ((k:Int)<4)=true:=decide_eq_true (by omega);obtain ⟨q,hq⟩:∃q,l0[k]? =some q:=⟨_,Ax3 (by rw [hn.out];exact hlt.1)⟩;obtain ⟨b,ax,u,rfl,bp,hu,c0⟩:=hr.at hlt.1;rw [Ax9,hq] at hu;injection hu with hu
    subst hu;replace c0:cI w b (ax+k) q:=c0;have a3:=hok q (Ax8 hq);obtain ⟨bm,ba⟩:=Il (n:=q) (m:=(N:Int)) (by omega);obtain ⟨p,hp⟩:∃p:Nat,Dh q (N:Int)=(p:Int):=⟨(Dh q (N:Int)).toNat,by omega⟩;have a7:=lh (fun w'=>Im q (N:Int) w' a3.1 a3.2 (by omega) (by omega));rw [hp] at a7 ba;obtain ⟨m,b2,aa,hm,rfl,d0,d1,d2⟩:=hid.out p (by omega);obtain ⟨i1,i2,i3⟩:=ix k n
    obtain ⟨p1,p2,p3⟩:=ix p N
    have L0:cI wr.drew b (ax+k) q:=aj.cell c0 zq;have G0:cS wr.drew w.heap.size 2 (some ⟨b2,aa,none⟩) N IC:=((bg.fr hf zq).cell 2).trans g2.out;have ad:cI wr.drew b2 (aa+p*3) m.id.b:=aj.cell d0 zq;have ac:cI wr.drew b2 (aa+p*3+1) m.id.s:=aj.cell d1 zq;have ae:cU wr.drew b2 (aa+p*3+2) m.id.u:=aj.cell d2 zq;have O0:Own wr.drew w0.heap.size 38 3 Ax xs.length cx (xs.flatMap Id.cells):=af.drew;have H0:Fr Non w0 wr.drew:=hf.drew;have gz:=lh ((bg.cell 2).trans g2.out);clear hid hm al hq a3 bg;generalize m.id=z at*;go_upto_region 7 with (fail)
    clear hf af;refine wp_region_held_drew (S:=fun w'=>cI w' b (ax+k) q/\cS w' w.heap.size 2 (some ⟨b2,aa,none⟩) N IC/\cI w' b2 (aa+p*3) z.b/\cI w' b2 (aa+p*3+1) z.s/\cU w' b2 (aa+p*3+2) z.u) (by kernel_rfl) ⟨L0,G0,ad,ac,ae⟩ (fun hHeld=> ?_);clear hHeld;have uu:=aI L0 (aI G0 (aI ad (aI ac ae)));refine tkH 0 uu (h:=tkH 1 uu (h:=tkH 2 uu (h:=tkH 3 uu (h:=tkH 4 uu (h:=tkH 5 uu (h:=tkH 6 uu (h:=tkH 7 uu (h:=tkH 8 uu (h:=tkH 9 uu (h:=?_))))))))));clear uu;simp only [zl];refine oG 10 (fun K hK=> ?_);go_simp;go_wp2_with (go_at_call 39;(with_reducible refine (a7.out _).mono ?_);rintro _ v1 ⟨rfl,ew⟩;have ai:Fr Non wr.drew v1:=ew▸Fr.refl _ _;clear ew;obtain ⟨L1,G1,ar,aq,ao⟩:=zk5 ai L0 G0 ad ac ae;have O1:=O0.fr ai zr;have H1:=H0.trans ai zr);refine hK.out _ _ ⟨L1,G1,ar,aq,ao⟩ (fun hZ=> ?_);clear hZ hK K;try simp only [Ac,zl]
    refine tkH 11 ⟨L1,G1,ar,aq,ao⟩ (h:=tkH 12 ⟨L1,G1,ar,aq,ao⟩ (h:=?_));simp only [zl];refine oG 13 (fun K hK=> ?_);go_simp;have ah:Fr Non v1 (v1.alloc (.cells z.V 38)):=(Fr.refl _ _).alloc _;have bi:=Blk.new v1 38 z.V;obtain ⟨L2,G2,be,bj,bh⟩:=zk5 ah L1 G1 ar aq ao;have O2:=O1.fr ah zr;have H2:=H1.trans ah zr;refine hK.out _ _ ⟨L2,G2,be,bj,bh⟩ (fun hZ=> ?_);clear hZ hK K;try simp only [Ac,zl]
    generalize v1.alloc (.cells z.V 38)=v2 at*;have a1:=H2.size;refine oG 14 (fun K hK=> ?_);refine Ej (base:=w0.heap.size) (.tmp 28) (.tmp 41) 28 rfl rfl rfl Dp O2 (Rd.blk (n:=1) (size:=3) bi rfl) (by simp [Value.oneCell']) (by omega) (by omega) a1 ?_;intro A2 a8 w4 a0 bd a9;have bf:∀j,Ae Ax=some j->w0.heap.size<=j:=fun j e=>(ak j e).1;have fz:Fr Non w0 w4:=H2.trans bd (fun j hj e=>by have h5:=bf j e;omega);have au:Fr Non w w4:=f0.trans fz zr;have L3:=au.cell c0 zq;have G3:=fz.cell gz.out zq;obtain ⟨ay,a2,aw⟩:=zk3 au d0 d1 d2;refine hK.out _ _ ⟨L3,G3,ay,a2,aw⟩ (fun hZ=> ?_);clear hZ hK K;try simp only [Ac,zl]
    refine tkH 15 ⟨L3,G3,ay,a2,aw⟩ (h:=?_);simp only [zl];refine oD ?_;go_simp
    have az:Own w4 w0.heap.size 38 3 A2 (xs++[z]).length a8 ((xs++[z]).flatMap Id.cells):=by
     rw [Ax4,Ay5];exact a0
    have bb:Hid ((xs++[z]).length=k+1):=by show _=_;rw [Ax4,a5.out];rfl
    clear L3 G3 ay a2 aw c0 d0 d1 d2 gz;go_wp2_with fail;go_roundw
    case rel=>exact ⟨k+1,A2,a8,xs++[z],by go_num,by rw [Ax4];rfl,by omega,by omega,bb,az,fz⟩
    case measure=>simp [intOf];omega
   ·
    have kk:=lh (kw.out Ax cx xs wr aj af.rd (by omega));have a6:=lh (al.out xs);have hd:Hid (∀e w',Bp (Gj l xs) wr e w'->POST e w'):=fun e w' h=>ab.out _ wr e w' aj h a6.out
    have t3:(decide ((k:Int)<(n:Int))=true/\decide ((k:Int)<4)=false)\/decide ((k:Int)<(n:Int))=false:=by
     by_cases e:k<n
     · exact .inl ⟨decide_eq_true (by omega),decide_eq_false (by omega)⟩
     · exact .inr (decide_eq_false (by omega))
    clear kw al ab a6 hid a5 af ak;generalize Gj l xs=WL at*;unfold Bp at kk hd;have bl:=bg.fr hf zq
    rcases t3 with ⟨t3,t4⟩|t3
    all_goals
     go_wp2_with (go_at_call 80;(with_reducible refine (kk.out).mono ?_);rintro _ w7 ⟨A5,c5,rfl,h5,h6⟩;have ag:=lh (hd.out _ _ ⟨A5,c5,rfl,h5,h6⟩);clear kk hd h5 h6)
     all_goals first|exact ag.out|(go_ret;exact ag.out)
theorem plcI_neg {l:List Pn} {id:Id}:Ar l id<0<->(plc l id).isNone=true:=by
 unfold Ar
 cases plc l id with
 |none=>simp
 |some p=>simp
end Oq
namespace Oq
attribute [local go_sem] Ay2 Ay3
theorem Nr {l:List Nat} {k q:Nat} {x:Nat} (h:l[k]? =some x):(l.take (k+1)).contains q=((l.take k).contains q||decide (q=x)):=by
 rw [Db h,Bool.eq_iff_iff,Bool.or_eq_true,Ay7,Ay7,List.mem_append,Ay0,decide_eq_true_eq]
theorem Aj6 (B n c:Nat) (A:Option Addr) (l:List Nat) (x:Nat) (w:World) (hn:Hid (l.length=n)) (hr:Rd w B 1 A n (l.map Qv)) (hnm:n<=1000000):
  Calls zp 40 #[.slice A n c,.int .i64 (x:Int)] w fun e w'=>e=.returned (.bool (l.contains x))/\w=w':=by
 go_enter func40,ntmps40;go_wp2
 go_loopw [5] (fun v wr=>∃k:Nat,v=.int .i64 (k:Int)/\k<=n/\Hid ((l.take k).contains x=false)/\w=wr) (fun v _=>n-(intOf v).toNat)
 case atStart=>exact ⟨0,rfl,by omega,rfl,rfl⟩
 case round=>
  obtain ⟨k,rfl,hk,hh,rfl⟩:=hrel
  by_cases hlt:k<n
  ·
   obtain ⟨y,hy⟩:∃y,l[k]? =some y:=⟨_,Ax3 (by rw [hn.out];exact hlt)⟩;obtain ⟨b,off,u,rfl,hbB,hu,c0⟩:=hr.at hlt;rw [Ax9,hy] at hu;injection hu with hu
   subst hu;have c0':cI w b (off+k) (y:Int):=c0;clear c0;have hsn:=lh (Nr (q:=x) hy);obtain ⟨i1,i2,i3⟩:=ix k n
   by_cases he:y=x
   ·
    have hb:((y:Int)==(x:Int))=true:=Dk (by omega)
    have hfin:Hid (l.contains x=true):=by
     show _=_;rw [Ay7];exact he▸Ax8 hy
    clear hy;go_wp2
    go_ret
    exact ⟨by rw [hfin.out];rfl,rfl⟩
   ·
    have hb:((y:Int)==(x:Int))=false:=Dg (by omega)
    have hfin:Hid ((l.take (k+1)).contains x=false):=by
     show _=_;rw [hsn.out,hh.out,decide_eq_false (fun e=>he e.symm)];rfl
    clear hy;go_wp2;go_roundw
    case rel=>exact ⟨k+1,by go_num,by omega,hfin,by first|rfl|trivial⟩
    case measure=>first|(simp [intOf];done)|(simp [intOf];omega)
  ·
   obtain rfl:k=n:=by omega
   have hfin:Hid (l.contains x=false):=by have h:=hh.out;rw [Ay1 (by rw [hn.out];omega)] at h;exact h
   go_wp2
   go_ret
   exact ⟨by rw [hfin.out];rfl,rfl⟩
def Dc (n:Nat) (s:Nat->Bool):List Value:=(Cb n s).map Value.bool
theorem Kk {n i:Nat} (s:Nat->Bool) (h:i<n):(Dc n s)[i]? =some (.bool (s i)):=by
 unfold Dc;rw [Ax9,Qx h];rfl
theorem Aj7 {n i:Nat} (s:Nat->Bool):(Dc n s).set i (.bool true)=Dc n (fun q=>s q||decide (q=i)):=by
 apply List.ext_getElem?;intro j
 by_cases hj:j<n
 ·
  rw [Kk _ hj,List.getElem?_set]
  split
  ·
   rename_i e;subst e;rw [if_pos (by simp [Dc,Ha];exact hj)];simp
  ·
   rename_i e;rw [Kk _ hj,decide_eq_false (fun h=>e h.symm),Ay8]
 · rw [Az4 (by simp [Dc,Ha];omega),Az4 (by simp [Dc,Ha];omega)]
theorem Aj8 (n:Nat):Dc n (fun _=>false)=(madeCells (Value.bool false).cells (n*1)).toList:=by
 rw [Aj0 (Value.bool false).cells (.bool false) (n*1) (by decide) (fun i hi=>by have:i=0:=by {have:(Value.bool false).cells.size=1:=rfl;omega};subst this;rfl),Nat.mul_one];unfold Dc Cb;rw [List.map_map,Az0];exact ⟨by simp,fun b hb=>by obtain ⟨x,_,rfl⟩:=List.mem_map.1 hb;rfl⟩
theorem Kl:SlT zp 108 4 (.bool false) 1 1:=⟨underlying108,by kernel_rfl,rfl,by decide⟩
def Km (n:Nat) (s:Nat->Bool) (w:World) (e:Ending) (w':World):Prop:=
 ∃A c,e=.returned (.slice A n c)/\Own w' w.heap.size 4 1 A n c (Dc n s)/\Fr Non w w'
structure Dd (w wr:World) (CS:Array Value) (n:Nat) (s:Nat->Bool):Prop where
 bg:Blk wr w.heap.size 32 CS
 own:Own wr (w.heap.size+1) 4 1 (some ⟨w.heap.size+1,0,none⟩) n n (Dc n s)
 fr:Fr Non w wr
theorem Dd.set {w wr:World} {CS:Array Value} {n:Nat} {s:Nat->Bool} (h:Dd w wr CS n s) {i:Nat} (hi:i<n):
  w.heap.size+1<wr.heap.size/\wr.cell? ⟨w.heap.size+1,i,none⟩=some (.bool (s i))/\wr.frozen? ⟨w.heap.size+1,i,none⟩=false/\Dd w (wr.setCell ⟨w.heap.size+1,i,none⟩ (.bool true)) CS n (fun q=>s q||decide (q=i)):=by
 obtain ⟨g,e,_,h2,h3,h4,h5⟩:=h.own.setAt (j:=i) (by omega) (.bool true);injection e with e
 injection e with e
 subst e;exact ⟨h2,h3 _ (Kk s hi),h4,h.bg.far (p:=⟨_,_,_⟩) (fun e=>by have e':w.heap.size=w.heap.size+1:=e;omega) _,by rw [Aj7] at h5;exact h5,h.fr.setNew (by omega) _ _⟩
theorem Dd.is {w wr:World} {CS:Array Value} {n:Nat} {s t:Nat->Bool} (h:Dd w wr CS n s) (e:∀q,s q=t q):Dd w wr CS n t:=by
 have:s=t:=funext e;subst this;exact h
theorem Dd.post {w wr:World} {CS:Array Value} {n:Nat} {s:Nat->Bool} (h:Dd w wr CS n s):Km n s w (.returned (.slice (some ⟨w.heap.size+1,0,none⟩) n n)) wr:=⟨_,_,rfl,h.own.lower (by omega),h.fr⟩
theorem S3 (base:Nat) (r:RG) (B n c:Nat) (A:Option Addr) (up:List Nat) (w:World) (h:r.own w base) (hn:Hid (up.length=n)) (hr:Rd w B 1 A n (up.map Qv)) (hnm:n<=1000000):
  Calls zp 61 #[.agg r.cells,.slice A n c] w (Km r.l.length (Dt (Bt r.l) up r.l.length (fun _=>false)) w):=by
 have a4:=h.few;have bg:=Blk.new w 32 r.cells;have f0:Fr Non w (w.alloc (.cells r.cells 32)):=(Fr.refl Non w).alloc _;have a8:(w.alloc (.cells r.cells 32)).heap.size=w.heap.size+1:=Ax7 _ _;have g1:Hid (r.cells[1]? =some (.slice r.lA r.l.length r.lC)):=rfl;have g3:Hid (r.cells[3]? =some (.slice r.uA r.l.length r.uC)):=rfl;have ao:=lh (fun (x:Nat) (w':World) (hf:Fr Non w w')=>Aj6 B n c A up x w' hn (hr.fr hf zr) hnm)
 have ap:Hid (∀i,i<r.l.length->∃(us:List Nat) (A2:Option Addr) (c2 b aj:Nat),r.uA=some ⟨b,aj,none⟩/\cS w b (aj+i) A2 us.length c2/\Bt r.l i=us/\us.length<=1000/\Rd w w.heap.size 1 A2 us.length (us.map Qv)/\∀q∈us,q<r.l.length):=by
  intro i hi;obtain ⟨x,b,aj,h1,h2,h3,_,h4⟩:=h.uAt (Ax3 hi);have bc:=h.rows.ok i _ (Ax3 hi);refine ⟨x.xs,x.A,x.c,b,aj,h3,h4,by rw [h1];exact Jp (Ax3 hi),?_,h2.sl.rd,?_⟩
  ·
   rw [h1,Gh];exact (h.ok _ (List.getElem_mem hi)).1.past.1
  ·
   rw [h1];exact Mv bc.placed
 clear h hr;generalize Bt r.l=US at*;generalize r.l.length=N at*;generalize r.uA=UA at*;generalize r.uC=UC at*;generalize r.lA=LA at*;generalize r.lC=LC at*;generalize r.cells=CS at*;have c1:cS (w.alloc (.cells CS 32)) w.heap.size 1 LA N LC:=(bg.cell 1).trans g1.out;go_enter func61,ntmps61;go_wp2_with (first|(refine Aj2 rfl (.tmp 10) 108 rfl Kl (n:=N) rfl rfl (by omega) (by omega) ?_;intro w1 al ar;have a0:=bg.fr ar zq;have be:=ar.size;have c1:cS w1 w.heap.size 1 LA N LC:=(a0.cell 1).trans g1.out));have a3:Dd w w1 CS N (fun _=>false):=⟨a0,by rw [Aj8,<- a8];exact al,f0.trans ar zr⟩;clear al ar a0 bg f0
 go_loopw [6] (fun v wr=>∃(k:Nat) (s:Nat->Bool),v=.int .i64 ((k:Int)-1)/\k<=N/\Hid (Dt US up k s=Dt US up N (fun _=>false))/\Dd w wr CS N s) (fun v _=>(intOf v+1).toNat)
 case atStart=>exact ⟨N,fun _=>false,by go_num,by omega,rfl,a3⟩
 case round=>
  obtain ⟨k,s,rfl,hk,ay,st⟩:=hrel;clear a3 c1
  rcases Nat.eq_zero_or_pos k with h0|h0
  ·
   subst h0;have ak:=st.post;have hs:s=Dt US up N (fun _=>false):=ay.out;rw [hs] at ak;have e0:((((0:Nat):Int))-1)= -1:=by omega
   rw [e0];go_wp2
   go_ret
   exact ak
  ·
   obtain ⟨i,rfl⟩:∃i,k=i+1:=⟨k-1,by omega⟩;have ei:(((i+1:Nat):Int)-1)=(i:Int):=by omega
   rw [ei];obtain ⟨i1,i2,i3⟩:=ix i N
   obtain ⟨us,A2,c2,b,aj,rfl,cu,a2,a5,ax,a1⟩:=ap.out i (by omega);have ab:Hid (Dt US up i (Eb US up i s)=Dt US up N (fun _=>false)):=ay.out;obtain ⟨hz,ci,fz,au⟩:=st.set (i:=i) (by omega);obtain ⟨M,hM⟩:=Aa us.length;rw [hM.out] at ax cu a5;have ah:∀q,Dl up i s q=(s q||(decide (q=i)&&up.contains i)):=fun q=>rfl;clear ay ap
   by_cases hc:up.contains i=true
   ·
    have ad:Dd w (wr.setCell ⟨w.heap.size+1,i,none⟩ (.bool true)) CS N (Dl up i s):=au.is (fun q=>by rw [ah,hc,Bool.and_true]);have aq:Dl up i s i=true:=by rw [ah,hc,decide_eq_true rfl];simp
    have c3:(wr.setCell ⟨w.heap.size+1,i,none⟩ (.bool true)).cell? ⟨w.heap.size+1,i,none⟩=some (.bool true):=by
     have:=(ad.set (i:=i) (by omega)).2.1;rwa [aq] at this
    have kh:=lh (ao.out i wr st.fr);rw [hc] at kh;have ae:=lh ad;clear au ah ad;go_wp2_with (first|(go_at_call 40;(with_reducible refine (kh.out).mono ?_);rintro _ w5 ⟨rfl,rfl⟩));have az:us.length=us.length:=rfl;go_wp2
    go_loopw [7] (fun v wi=>∃j:Nat,v=.int .i64 (j:Int)/\j<=M/\Dd w wi CS N (fun q=>Dl up i s q||(us.take j).contains q)) (fun v _=>M-(intOf v).toNat)
    case atStart=>exact ⟨0,rfl,by omega,ae.out.is (fun q=>by rw [List.take_zero];simp)⟩
    case round=>
     obtain ⟨j,rfl,hj,aa⟩:=hrel;have d3:=(aa.bg.cell 3).trans g3.out;have ba:=aa.fr.cell cu zq
     by_cases hjm:j<M
     ·
      obtain ⟨y,hy⟩:∃y,us[j]? =some y:=⟨_,Ax3 (by rw [hM.out];exact hjm)⟩;have aw:y<N:=a1 y (Ax8 hy);obtain ⟨b2,af,u,av,bb,hu,cy⟩:=ax.at hjm;rw [Ax9,hy] at hu;injection hu with hu
      subst hu;subst av;have bd:cI wr b2 (af+j) (y:Int):=aa.fr.cell cy zq;obtain ⟨a9,a6,a7,ad⟩:=aa.set (i:=y) aw;have ac:Hid (Dd w (wr.setCell ⟨w.heap.size+1,y,none⟩ (.bool true)) CS N (fun q=>Dl up i s q||(us.take (j+1)).contains q)):=ad.is (fun q=>by rw [Nr hy,Bool.or_assoc]);clear hy ad cy;obtain ⟨j1,j2,j3⟩:=ix j M
      obtain ⟨y1,y2,y3⟩:=ix y N
      go_wp2;go_roundw
      case rel=>exact ⟨j+1,by go_num,by omega,ac.out⟩
      case measure=>first|(simp [intOf];done)|(simp [intOf];omega)
     ·
      obtain rfl:j=M:=by omega
      have ac:Hid (Dd w wr CS N (Eb US up i s)):=aa.is (fun q=>by rw [Ay1 (by rw [hM.out];omega),<- a2];unfold Eb;rw [aq,Bool.true_and]);clear aa;go_wp2;go_roundw
      case rel=>exact ⟨i,Eb US up i s,by first|go_num|(congr 1;done)|(congr 1;omega),by omega,ab,ac.out⟩
      case measure=>first|(simp [intOf];done)|(simp [intOf];omega)
   ·
    have hc:=Ax6 _▸hc;have ai:∀q,Dl up i s q=s q:=fun q=>by rw [ah,hc,Bool.and_false,Ay8]
    have kh:=lh (ao.out i wr st.fr);rw [hc] at kh
    by_cases ag:s i=true
    ·
     have aq:Dl up i s i=true:=by rw [ai];exact ag
     have ci:wr.cell? ⟨w.heap.size+1,i,none⟩=some (.bool true):=by rw [<- ag];exact ci
     have ae:=lh (st.is (fun q=>(ai q).symm));clear au ah ai;go_wp2_with (first|(go_at_call 40;(with_reducible refine (kh.out).mono ?_);rintro _ w5 ⟨rfl,rfl⟩));have az:us.length=us.length:=rfl;go_wp2
     go_loopw [7] (fun v wi=>∃j:Nat,v=.int .i64 (j:Int)/\j<=M/\Dd w wi CS N (fun q=>Dl up i s q||(us.take j).contains q)) (fun v _=>M-(intOf v).toNat)
     case atStart=>exact ⟨0,rfl,by omega,ae.out.is (fun q=>by rw [List.take_zero];simp)⟩
     case round=>
      obtain ⟨j,rfl,hj,aa⟩:=hrel;have d3:=(aa.bg.cell 3).trans g3.out;have ba:=aa.fr.cell cu zq
      by_cases hjm:j<M
      ·
       obtain ⟨y,hy⟩:∃y,us[j]? =some y:=⟨_,Ax3 (by rw [hM.out];exact hjm)⟩;have aw:y<N:=a1 y (Ax8 hy);obtain ⟨b2,af,u,av,bb,hu,cy⟩:=ax.at hjm;rw [Ax9,hy] at hu;injection hu with hu
       subst hu;subst av;have bd:cI wr b2 (af+j) (y:Int):=aa.fr.cell cy zq;obtain ⟨a9,a6,a7,ad⟩:=aa.set (i:=y) aw;have ac:Hid (Dd w (wr.setCell ⟨w.heap.size+1,y,none⟩ (.bool true)) CS N (fun q=>Dl up i s q||(us.take (j+1)).contains q)):=ad.is (fun q=>by rw [Nr hy,Bool.or_assoc]);clear hy ad cy;obtain ⟨j1,j2,j3⟩:=ix j M
       obtain ⟨y1,y2,y3⟩:=ix y N
       go_wp2;go_roundw
       case rel=>exact ⟨j+1,by go_num,by omega,ac.out⟩
       case measure=>first|(simp [intOf];done)|(simp [intOf];omega)
      ·
       obtain rfl:j=M:=by omega
       have ac:Hid (Dd w wr CS N (Eb US up i s)):=aa.is (fun q=>by rw [Ay1 (by rw [hM.out];omega),<- a2];unfold Eb;rw [aq,Bool.true_and]);clear aa;go_wp2;go_roundw
       case rel=>exact ⟨i,Eb US up i s,by first|go_num|(congr 1;done)|(congr 1;omega),by omega,ab,ac.out⟩
       case measure=>first|(simp [intOf];done)|(simp [intOf];omega)
    ·
     have ag:=Ax6 _▸ag;have ci:wr.cell? ⟨w.heap.size+1,i,none⟩=some (.bool false):=by rw [<- ag];exact ci
     have ac:Hid (Dd w wr CS N (Eb US up i s)):=st.is (fun q=>by unfold Eb;rw [ai,ai,ag,Bool.false_and,Ay8]);clear au ah ai st;go_wp2_with (first|(go_at_call 40;(with_reducible refine (kh.out).mono ?_);rintro _ w5 ⟨rfl,rfl⟩));go_roundw
     case rel=>exact ⟨i,Eb US up i s,by first|go_num|(congr 1;done)|(congr 1;omega),by omega,ab,ac.out⟩
     case measure=>first|(simp [intOf];done)|(simp [intOf];omega)
theorem Aj9 (base:Nat) (r:RG) (x:OpL) (B c:Nat) (A:Option Addr) (p:Nat->Bool) (w:World) (h:r.own w base) (h1:1<=x.sq) (h2:x.sq<=9223372036854775807) (hr:Rd w B 1 A r.l.length (Dc r.l.length p)):
  Calls zp 60 #[.agg r.cells,.agg x.cells,.slice A r.l.length c] w (Ag (!Bn r.l p x.op) w):=by
 have ap:=h.few;have bg:=(Blk.new w 32 r.cells).alloc (.cells x.cells 44);have bx:=Blk.new (w.alloc (.cells r.cells 32)) 44 x.cells;rw [Ax7] at bx;have f0:Fr Non w ((w.alloc (.cells r.cells 32)).alloc (.cells x.cells 44)):=((Fr.refl Non w).alloc _).alloc _;have g1:r.cells[1]? =some (.slice r.lA r.l.length r.lC):=rfl;have c1:=(bg.cell 1).trans g1;have x0:cI ((w.alloc (.cells r.cells 32)).alloc (.cells x.cells 44)) (w.heap.size+1) 0 x.by_:=bx.cell 0;have x1:cI ((w.alloc (.cells r.cells 32)).alloc (.cells x.cells 44)) (w.heap.size+1) 1 x.sq:=bx.cell 1
 have ak:Hid (∀k,k<r.l.length->∃(m:Pn) (b ao:Nat),r.l[k]? =some m/\r.lA=some ⟨b,ao,none⟩/\cI w b (ao+k*27) m.o.by_/\cI w b (ao+k*27+1) m.o.sq):=by
  intro k hk;obtain ⟨y,b,ao,_,h1,_,h3,_,h4⟩:=h.xAt (Ax3 hk);refine ⟨_,b,ao,Ax3 hk,h3,?_,?_⟩
  · rw [<- h1];exact h4 0 (by omega) _ rfl
  · rw [<- h1];exact h4 1 (by omega) _ rfl
 have aj:Hid (∀k m,r.l[k]? =some m->(m.o.by_==x.by_)=true->p k=true->x.sq<=m.o.sq->(!Bn r.l p x.op)=false):=fun k m hm hb hp hs=>by
  rw [Yl (o:=x.op) hm (beq_iff_eq.1 hb) hp hs];rfl
 have ad:Hid ((∀k m,k<r.l.length->r.l[k]? =some m->m.o.by_=x.by_->p k=true->m.o.sq<x.sq)->(!Bn r.l p x.op)=((x.sq==1)||Cq r.l p x.by_ x.sq r.l.length)):=fun hh=>by
  rw [Ym (o:=x.op) h1 (fun k m hm=>hh k m (List.getElem?_eq_some_iff.1 hm).1 hm),Bool.not_not];rfl
 have al:=hr;clear h g1 bg bx;generalize (!Bn r.l p x.op)=R at*;generalize r.l=l at*;generalize hN:l.length=N at*;generalize r.lA=LA at*;generalize r.lC=LC at*;generalize r.cells=CS at*;generalize x.cells=XS at*;generalize x.by_=d at*;generalize x.sq=sq at*;clear hr hN;have ew:=iw (sq-1);go_enter func60,ntmps60;go_wp2;generalize hw0:(w.alloc (.cells CS 32)).alloc (.cells XS 44)=w0 at*;clear hw0
 go_loopw [7,8] (fun o v wr=>∃(k:Nat) (ai:Bool),o=.bool ai/\v=.int .i64 (k:Int)/\k<=N/\Hid (∀(j:Nat) (m:Pn),j<k->l[j]? =some m->m.o.by_=d->p j=true->m.o.sq<sq)/\Hid (ai=Cq l p d sq k)/\Fr Non w0 wr) (fun _ v _=>N-(intOf v).toNat)
 case atStart=>exact ⟨0,false,rfl,rfl,by omega,fun j m hj=>absurd hj (Nat.not_lt_zero _),rfl,Fr.refl _ _⟩
 case round=>
  obtain ⟨k,ai,rfl,rfl,hk,ac,af,hf⟩:=hrel;obtain ⟨d1,y0,y1⟩:=zk3 hf c1 x0 x1;have ah:Fr Non w wr:=f0.trans hf zr;clear c1 x0 x1
  by_cases hlt:k<N
  ·
   obtain ⟨m,b,ao,hm,rfl,m0,m1⟩:=ak.out k hlt;obtain ⟨m0,m1⟩:=zk2 ah m0 m1;obtain ⟨b3,aq,u,rfl,ar,hu,cp⟩:=al.at hlt;rw [Kk p hlt] at hu;injection hu with hu
   subst hu;have cp:=ah.cell cp zq;have ab:=lh (Sh (p:=p) (d:=d) (s:=sq) hm);obtain ⟨i1,i2,i3⟩:=ix k N
   have aa:Hid ((m.o.by_=d->p k=true->m.o.sq<sq)->∀(j:Nat) (n:Pn),j<k+1->l[j]? =some n->n.o.by_=d->p j=true->n.o.sq<sq):=by
    intro hh j n hj hn
    rcases Nat.lt_or_ge j k with h1|h1
    · exact ac.out j n h1 hn
    ·
     have e:j=k:=by omega
     subst e;rw [hm] at hn;injection hn with hn
     subst hn;exact hh
   have ag:=lh (aj.out k m hm);clear hm ak aj ac
   by_cases hp:p k=true
   ·
    rw [hp] at cp
    by_cases hb:m.o.by_=d
    ·
     have f1:(m.o.by_ !=d)=false:=by simp [hb]
     by_cases hs:sq<=m.o.sq
     ·
      have hR:Hid (R=false):=ag.out (Dk hb) hp hs;have f2:decide (m.o.sq>=sq)=true:=decide_eq_true hs;have f3:decide (sq<=m.o.sq)=true:=decide_eq_true hs;clear aa ab af ag ad al;generalize m.o.by_=mb at*;generalize m.o.sq=ms at*;go_wp2
      go_quiet (fail)
      go_wp2
      go_quiet (fail)
      go_wp2
      go_ret
      exact ⟨by rw [hR.out];rfl,by first|exact ah.drewN _|exact (ah.drewN _).drewN _⟩
     ·
      have f2:decide (m.o.sq>=sq)=false:=decide_eq_false hs;have f3:decide (sq<=m.o.sq)=false:=decide_eq_false hs;have ac:=lh (aa.out (fun _ _=>Int.not_le.1 hs))
      have ae:Hid ((ai||(m.o.sq==sq-1))=Cq l p d sq (k+1)):=by
       show _=_;rw [ab.out,af.out,hp,Dk hb];rfl
      clear aa ab af ag ad al;generalize m.o.by_=mb at*;generalize m.o.sq=ms at*
      cases ai with
      |true=>
       go_wp2
       go_quiet (fail)
       go_wp2
       go_quiet (fail)
       go_wp2
       go_quiet (fail)
       go_wp2;go_roundw
       case rel=>exact ⟨k+1,_,rfl,by go_num,by omega,ac.out,ae,hf.drewN _⟩
       case measure=>first|(simp [intOf];done)|(simp [intOf];omega)
      |false=>
       generalize hq:(ms==sq-1)=q at*;go_wp2
       go_quiet (fail)
       go_wp2
       go_quiet (fail)
       go_wp2
       go_quiet (fail)
       go_wp2;go_roundw
       case rel=>exact ⟨k+1,_,rfl,by go_num,by omega,ac.out,ae,hf.drewN _⟩
       case measure=>first|(simp [intOf];done)|(simp [intOf];omega)
    ·
     have f1:(m.o.by_ !=d)=true:=by simp [hb]
     have ac:=lh (aa.out (fun h=>absurd h hb))
     have ae:Hid (ai=Cq l p d sq (k+1)):=by
      show _=_;rw [ab.out,af.out,Dg hb];simp
     clear aa ab af ag ad al;generalize m.o.by_=mb at*;generalize m.o.sq=ms at*;go_wp2
     go_quiet (fail)
     go_wp2;go_roundw
     case rel=>exact ⟨k+1,_,rfl,by go_num,by omega,ac.out,ae,hf.drewN _⟩
     case measure=>first|(simp [intOf];done)|(simp [intOf];omega)
   ·
    have hp:=Ax6 _▸hp;rw [hp] at cp;have ac:=lh (aa.out (fun _ h=>absurd h (by rw [hp];simp)))
    have ae:Hid (ai=Cq l p d sq (k+1)):=by
     show _=_;rw [ab.out,af.out,hp];simp
    clear aa ab af ag ad al;generalize m.o.by_=mb at*;generalize m.o.sq=ms at*;go_wp2
    go_quiet (fail)
    go_wp2;go_roundw
    case rel=>exact ⟨k+1,_,rfl,by go_num,by omega,ac.out,ae,hf.drewN _⟩
    case measure=>first|(simp [intOf];done)|(simp [intOf];omega)
  ·
   obtain rfl:k=N:=by omega
   have hR:Hid (R=((sq==1)||ai)):=by
    show _=_;rw [af.out];exact ad.out ac.out
   clear ad ac af aj ak al
   by_cases hs:sq=1
   ·
    have f1:(sq==1)=true:=Dk hs;rw [f1] at hR;clear hs;go_wp2
    go_ret
    exact ⟨by rw [hR.out];rfl,ah⟩
   ·
    have f1:(sq==1)=false:=Dg hs;rw [f1] at hR;clear hs;go_wp2
    go_ret
    exact ⟨by rw [hR.out];rfl,ah⟩
theorem Ak0 (base:Nat) (r:RG) (d:Int) (w:World) (h:r.own w base):Calls zp 58 #[.agg r.cells,.int .i64 d] w (Fg ((Ct r.cards d).getD Cd.zero) (Ct r.cards d).isSome w):=by
 have hr:=h.cards.sl.rd;have hn:=h.cfew;have g0:r.cells[0]? =some (.slice r.cA r.cards.length r.cC):=rfl;have ab:Hid (Ct r.cards d=r.cards.find? (fun c=>c.d==d)):=rfl;generalize Ct r.cards d=R at*;clear h;generalize r.cells=CS at*;generalize r.cA=CA at*;generalize r.cC=CC at*;generalize hl:r.cards=l at*;clear hl;obtain ⟨n,ad⟩:=Aa l.length;rw [ad.out] at hr g0 hn;have f0:Fr Non w ((w.alloc (.cells CS 32)).alloc (.cells zC 104)):=((Fr.refl Non w).alloc _).alloc _;have bg:=(Blk.new w 32 CS).alloc (.cells zC 104);have b0:=Blk.new (w.alloc (.cells CS 32)) 104 zC;rw [Ax7] at b0;have c0:=(bg.cell 0).trans g0;replace hr:=hr.fr f0 zr;clear bg g0;go_enter func58,ntmps58;go_upto_region 1 with (fail)
 generalize (w.alloc (.cells CS 32)).alloc (.cells zC 104)=w0 at*;go_wp2_with fail
 go_loopw [5,6] (fun r v wr=>∃k:Nat,r=.bool false/\v=.int .i64 (k:Int)/\k<=n/\Hid ((l.take k).find? (fun c=>c.d==d)=none)/\Fr Non w0 wr) (fun _ v _=>n-(intOf v).toNat)
 case atStart=>exact ⟨0,rfl,rfl,by omega,rfl,Fr.refl _ _⟩
 case round=>
  obtain ⟨k,rfl,rfl,hk,hh,hf⟩:=hrel;have b1:=b0.fr hf zq;have f1:=f0.trans hf zr;replace c0:=hf.cell c0 zq
  by_cases hlt:k<n
  ·
   obtain ⟨i1,i2,i3⟩:=ix k n
   obtain ⟨c,hc⟩:∃c,l[k]? =some c:=⟨_,Ax3 (by rw [ad.out];exact hlt)⟩;obtain ⟨b,ac,hA,ag,aa⟩:=Ff (f:=Cd.cells) (fun _=>rfl) (by omega) (hr.fr hf zr) hc;have d0:cI wr b (ac+k*5) c.d:=aa 0 (by omega) _ rfl;have d1:cI wr b (ac+k*5+1) c.m:=aa 1 (by omega) _ rfl;have d2:cU wr b (ac+k*5+2) c.l:=aa 2 (by omega) _ rfl;have d3:cU wr b (ac+k*5+3) c.k:=aa 3 (by omega) _ rfl;have d4:cU wr b (ac+k*5+4) c.s:=aa 4 (by omega) _ rfl;clear aa ag;subst hA
   rcases zb (c.d==d) with hcd|hcd
   ·
    have hR:Hid (R=some c):=by
     show _=_;rw [ab.out,<- List.take_append_drop k l,Az5,hh.out,List.drop_eq_getElem_cons (by rw [ad.out];exact hlt)];rw [Ax3 (by rw [ad.out];exact hlt)] at hc;rw [Option.some.inj hc];simp [hcd]
    have ae:Hid (∀wz,Fr (One (w.heap.size+1)) wr wz->Fg (R.getD Cd.zero) R.isSome w (.returned (.tuple #[.agg #[.int .i64 c.d,.int .i64 c.m,.int .u64 (c.l:Int),.int .u64 (c.k:Int),.int .u64 (c.s:Int)],.bool true])) wz):=by
     intro wz hz;refine ⟨?_,f1.trans hz (fun k hk e=>absurd hk (by have e':k=w.heap.size+1:=e;omega))⟩;rw [hR.out];rfl
    clear ab hc hh f1;generalize R.getD Cd.zero=RC at*;generalize R.isSome=RS at*;have e0:cI wr (w.heap.size+1) 0 0:=b1.cell 0;have z0:wr.frozen? ⟨w.heap.size+1,0,none⟩=false:=b1.frozen 0;have e1:cI wr (w.heap.size+1) 1 0:=b1.cell 1;have z1:wr.frozen? ⟨w.heap.size+1,1,none⟩=false:=b1.frozen 1;have e2:wr.cell? ⟨w.heap.size+1,2,none⟩=some (.int .u64 0):=b1.cell 2;have z2:wr.frozen? ⟨w.heap.size+1,2,none⟩=false:=b1.frozen 2;have e3:wr.cell? ⟨w.heap.size+1,3,none⟩=some (.int .u64 0):=b1.cell 3;have z3:wr.frozen? ⟨w.heap.size+1,3,none⟩=false:=b1.frozen 3;have e4:wr.cell? ⟨w.heap.size+1,4,none⟩=some (.int .u64 0):=b1.cell 4;have z4:wr.frozen? ⟨w.heap.size+1,4,none⟩=false:=b1.frozen 4;have af:=(((((b1.set 0 (.int .i64 c.d)).set 1 (.int .i64 c.m)).set 2 (.int .u64 (c.l:Int))).set 3 (.int .u64 (c.k:Int))).set 4 (.int .u64 (c.s:Int)));have fz:=((((((Fr.refl (One (w.heap.size+1)) wr).setCell (p:=⟨w.heap.size+1,0,none⟩) (fun _=>rfl) (.int .i64 c.d)).setCell (p:=⟨w.heap.size+1,1,none⟩) (fun _=>rfl) (.int .i64 c.m)).setCell (p:=⟨w.heap.size+1,2,none⟩) (fun _=>rfl) (.int .u64 (c.l:Int))).setCell (p:=⟨w.heap.size+1,3,none⟩) (fun _=>rfl) (.int .u64 (c.k:Int))).setCell (p:=⟨w.heap.size+1,4,none⟩) (fun _=>rfl) (.int .u64 (c.s:Int)));clear b1;go_wp2_with fail
    (try simp only [Exit.inBlock,Exit.then])
    refine E2 (t:=104) rfl rfl af rfl underlying104 (by kernel_rfl) rfl ?_;exact ae.out _ fz
   ·
    have ah:Hid ((l.take (k+1)).find? (fun c=>c.d==d)=none):=by
     show _=_;rw [List.take_add_one,Az5,hh.out,hc];simp [hcd]
    clear ab hc hh b1;go_wp2_with fail;go_roundw
    case rel=>exact ⟨k+1,rfl,by go_num,by omega,ah,hf⟩
    case measure=>simp [intOf];omega
  ·
   obtain rfl:n=k:=by omega
   have hR:Hid (R=none):=by
    show _=_;rw [ab.out];have h:=hh.out;rwa [Ay1 (by rw [ad.out];omega)] at h
   have ae:Hid (∀wz,Fr (One (w.heap.size+1)) wr wz->Fg (R.getD Cd.zero) R.isSome w (.returned (.tuple #[.agg zC,.bool false])) wz):=by
    intro wz hz;refine ⟨?_,f1.trans hz (fun k hk e=>absurd hk (by have e':k=w.heap.size+1:=e;omega))⟩;rw [hR.out];rfl
   clear ab hh;generalize R.getD Cd.zero=RC at*;generalize R.isSome=RS at*;have e0:cI wr (w.heap.size+1) 0 0:=b1.cell 0;have z0:wr.frozen? ⟨w.heap.size+1,0,none⟩=false:=b1.frozen 0;have e1:cI wr (w.heap.size+1) 1 0:=b1.cell 1;have z1:wr.frozen? ⟨w.heap.size+1,1,none⟩=false:=b1.frozen 1;have e2:wr.cell? ⟨w.heap.size+1,2,none⟩=some (.int .u64 0):=b1.cell 2;have z2:wr.frozen? ⟨w.heap.size+1,2,none⟩=false:=b1.frozen 2;have e3:wr.cell? ⟨w.heap.size+1,3,none⟩=some (.int .u64 0):=b1.cell 3;have z3:wr.frozen? ⟨w.heap.size+1,3,none⟩=false:=b1.frozen 3;have e4:wr.cell? ⟨w.heap.size+1,4,none⟩=some (.int .u64 0):=b1.cell 4;have z4:wr.frozen? ⟨w.heap.size+1,4,none⟩=false:=b1.frozen 4;have af:=(((((b1.set 0 (.int .i64 0)).set 1 (.int .i64 0)).set 2 (.int .u64 0)).set 3 (.int .u64 0)).set 4 (.int .u64 0));have fz:=((((((Fr.refl (One (w.heap.size+1)) wr).setCell (p:=⟨w.heap.size+1,0,none⟩) (fun _=>rfl) (.int .i64 0)).setCell (p:=⟨w.heap.size+1,1,none⟩) (fun _=>rfl) (.int .i64 0)).setCell (p:=⟨w.heap.size+1,2,none⟩) (fun _=>rfl) (.int .u64 0)).setCell (p:=⟨w.heap.size+1,3,none⟩) (fun _=>rfl) (.int .u64 0)).setCell (p:=⟨w.heap.size+1,4,none⟩) (fun _=>rfl) (.int .u64 0));go_wp2_with fail
   (try simp only [Exit.inBlock,Exit.then])
   refine E2 (t:=104) rfl rfl af rfl underlying104 (by kernel_rfl) rfl ?_;exact ae.out _ fz
end Oq
def Sg.In (M pub R S:Int):Prop:=1<=pub/\pub<=M/\1<=R/\R<=M/\S<M
theorem Sg.in_ways (M pub R S:Int) (h:¬Sg.In M pub R S):pub<1\/(1<=pub/\M<pub)\/(1<=pub/\pub<=M/\R<1)\/(1<=pub/\pub<=M/\1<=R/\M<R)\/(1<=pub/\pub<=M/\1<=R/\R<=M/\M<=S):=by
 unfold Sg.In at h;omega
theorem Sg.check_in (pub R S:Nat) (bs:List UInt8) (h:Sg.In 2305843009213693950 pub R S):Sg.check pub bs R S=(Fd.pow 37 S==Fd.mul R (Fd.pow pub (Sg.e R pub bs))):=by
 obtain ⟨h1,h2,h3,h4,h5⟩:=h;have e1:Sg.within pub 1 2305843009213693950=true:=Sg.within_yes (lo:=1) (hi:=2305843009213693950) (by omega) (by omega);have e2:Sg.within R 1 2305843009213693950=true:=Sg.within_yes (lo:=1) (hi:=2305843009213693950) (by omega) (by omega);have e3:Sg.within S 0 2305843009213693949=true:=Sg.within_yes (lo:=0) (hi:=2305843009213693949) (by omega) (by omega);show (Sg.within pub 1 2305843009213693950&&Sg.within R 1 2305843009213693950&&Sg.within S 0 2305843009213693949&&(Fd.pow 37 S==Fd.mul R (Fd.pow pub (Sg.e R pub bs))))=_;rw [e1,e2,e3];rfl
theorem Sg.check_out (pub R S:Nat) (bs:List UInt8) (h:¬Sg.In 2305843009213693950 pub R S):Sg.check pub bs R S=false:=by
 show (Sg.within pub 1 2305843009213693950&&Sg.within R 1 2305843009213693950&&Sg.within S 0 2305843009213693949&&(Fd.pow 37 S==Fd.mul R (Fd.pow pub (Sg.e R pub bs))))=false
 by_cases e1:Sg.within pub 1 2305843009213693950=true
 ·
  by_cases e2:Sg.within R 1 2305843009213693950=true
  ·
   by_cases e3:Sg.within S 0 2305843009213693949=true
   ·
    exfalso;apply h;unfold Sg.within at e1 e2 e3;simp only [Az3,decide_eq_true_eq] at e1 e2 e3;exact ⟨e1.1,e1.2,e2.1,e2.2,Int.lt_of_le_of_lt e3.2 (by decide)⟩
   · simp only [Ax6] at e3;rw [e3];simp
  · simp only [Ax6] at e2;rw [e2];simp
 · simp only [Ax6] at e1;rw [e1];simp
theorem Ak1 (pub R S n c:Nat) (A:Option Addr) (w:World) (hway:¬Sg.In 2305843009213693950 pub R S):
  Calls zp 59 #[.int .u64 (pub:Int),.slice A n c,Ev R S] w (Ag false w):=by
 unfold Ev;have hb0:=Blk.new w 25 #[.int .u64 (R:Int),.int .u64 (S:Int)];have hf0:Fr Non w (w.alloc (.cells #[.int .u64 (R:Int),.int .u64 (S:Int)] 25)):=(Fr.refl _ _).alloc _;have c0:=hb0.cell 0;have c1:=hb0.cell 1;have hord:(∀w,Calls zp 101 #[] w fun e w'=>e=.returned (.int .u64 2305843009213693950)/\w'=w):=fun w=>(Jk w).mono fun _ _ h=>⟨h.1,h.2.symm⟩;have hway:=Sg.in_ways _ _ _ _ hway
 rcases hway with t1|⟨t1,t2⟩|⟨t1,t2,t3⟩|⟨t1,t2,t3,t4⟩|⟨t1,t2,t3,t4,t5⟩
 all_goals
  go_enter func59,ntmps59;generalize (2305843009213693950:Int)=M at*;have hord':=lh hord;clear hord;go_wp2
  go_quiet (first|(go_at_call 101;exact Calls.quiet_of_same (hord'.out _)))
  go_wp2
  go_ret
  exact ⟨rfl,hf0.drewN _⟩
theorem Ak2 (pub R S B n c:Nat) (A:Option Addr) (bs:List UInt8) (w:World) (hp:pub<18446744073709551616) (hR:R<18446744073709551616) (hS:S<18446744073709551616) (hlen:Hid (bs.length=n)) (hn:n<=1099511627775) (hB:B<=w.heap.size) (hr:Rd w B 1 A n (bs.map Bv)) (hin:Sg.In 2305843009213693950 pub R S):
  Calls zp 59 #[.int .u64 (pub:Int),.slice A n c,Ev R S] w (Ag (Sg.check pub bs R S) w):=by
 unfold Ev;have ag:=Blk.new w 25 #[.int .u64 (R:Int),.int .u64 (S:Int)];have au:Fr Non w (w.alloc (.cells #[.int .u64 (R:Int),.int .u64 (S:Int)] 25)):=(Fr.refl _ _).alloc _;have c0:=ag.cell 0;have c1:=ag.cell 1;have ap:=hr.alloc (.cells #[.int .u64 (R:Int),.int .u64 (S:Int)] 25);have av:B<=(w.alloc (.cells #[.int .u64 (R:Int),.int .u64 (S:Int)] 25)).heap.size:=by simp;omega
 have ad:(∀w,Calls zp 101 #[] w fun e w'=>e=.returned (.int .u64 2305843009213693950)/\w'=w):=fun w=>(Jk w).mono fun _ _ h=>⟨h.1,h.2.symm⟩;have aa:=lh (Sg.check_in pub R S bs hin);obtain ⟨t1,t2,t3,t4,t5⟩:=hin;go_enter func59,ntmps59;generalize (2305843009213693950:Int)=M at*;have ae:=lh ad;clear ad;go_wp2
 go_quiet (first|(go_at_call 101;exact Calls.quiet_of_same (ae.out _)))
 have le:=Sg.e_lt R pub bs;have al:=lh (fun B w hB hr=>Qk R pub B n c A bs w hR hp hlen hn hB hr);obtain ⟨E,hE⟩:=Aa (Sg.e R pub bs);rw [hE.out] at le aa al;have p1:Hid (∀w,Calls zp 98 #[.int .u64 37,.int .u64 (S:Int)] w (Cp (Fd.pow 37 S) w)):=fun w=>(Hy 37 S w (by omega) hS).mono fun _ _ ⟨h,k,e⟩=>⟨h,by rw [e];exact (Fr.refl _ _).drewN _⟩;have p2:Hid (∀w,Calls zp 98 #[.int .u64 (pub:Int),.int .u64 (E:Int)] w (Cp (Fd.pow pub E) w)):=fun w=>(Hy pub E w hp (by omega)).mono fun _ _ ⟨h,k,e⟩=>⟨h,by rw [e];exact (Fr.refl _ _).drewN _⟩;have lq:=Fd.pow_lt pub E;obtain ⟨q,hq⟩:=Aa (Fd.pow pub E);obtain ⟨t,ht⟩:=Aa (Fd.pow 37 S);rw [hq.out] at p2 lq aa;rw [ht.out] at p1 aa;have p3:Hid (∀w,Calls zp 114 #[.int .u64 (R:Int),.int .u64 (q:Int)] w (Cp (Fd.mul R q) w)):=fun w=>(Ji R q w hR (by omega)).mono fun _ _ ⟨h,k,e⟩=>⟨h,by rw [e];exact (Fr.refl _ _).drewN _⟩;obtain ⟨v,hv⟩:=Aa (Fd.mul R q);rw [hv.out] at p3 aa;have aw:=ag.drewN nq;have ao:=ap.drewN nq;have ar:=au.drewN nq;have aq:=Ax5 av (Nat.le_of_eq (show (w.alloc (.cells #[.int .u64 (R:Int),.int .u64 (S:Int)] 25)).heap.size=((w.alloc (.cells #[.int .u64 (R:Int),.int .u64 (S:Int)] 25)).drewN nq).heap.size from rfl));generalize (w.alloc (.cells #[.int .u64 (R:Int),.int .u64 (S:Int)] 25)).drewN nq=w1 at*;have ab:Blk w1.drew w.heap.size 25 #[.int .u64 (R:Int),.int .u64 (S:Int)]:=aw;have d0:=ab.cell 0;have d1:=ab.cell 1;have aj:Rd w1.drew B 1 A n (bs.map Bv):=ao;have af:B<=w1.drew.heap.size:=aq;clear c0 c1;go_wp2_with fail
 go_region_held3 (fun w'=>w'.cell? ⟨w.heap.size,0,none⟩=some (.int .u64 (R:Int))/\w'.cell? ⟨w.heap.size,1,none⟩=some (.int .u64 (S:Int))) (go_keep) (first
  |(go_at_call 98;(with_reducible refine (p1.out _).mono ?_);rintro _ w2 ⟨rfl,ac⟩;obtain ⟨g0,g1⟩:=zk2 ac d0 d1)
  |(go_at_call 100;(with_reducible refine (al.out B _ (Ax5 af ac.size) (aj.fr ac zr)).mono ?_);rintro _ w3 ⟨rfl,ai⟩;obtain ⟨ga,gb⟩:=zk2 ai g0 g1)
  |(go_at_call 98;(with_reducible refine (p2.out _).mono ?_);rintro _ w4 ⟨rfl,ak⟩;obtain ⟨gc,gd⟩:=zk2 ak ga gb)
  |(go_at_call 114;(with_reducible refine (p3.out _).mono ?_);rintro _ w5 ⟨rfl,ah⟩;obtain ⟨ge,gf⟩:=zk2 ah gc gd))
 go_wp2
 go_ret
 refine ⟨congrArg (fun z=>ze (.bool z)) ?_,(((ar.drew.trans ac zr).trans ai zr).trans ak zr).trans ah zr⟩;rw [aa.out,Bool.eq_iff_iff];simp only [beq_iff_eq];exact Int.ofNat_inj
set_option linter.unusedVariables false in
theorem Ak3 (pub R S B n c:Nat) (A:Option Addr) (bs:List UInt8) (w:World) (hp:pub<18446744073709551616) (hR:R<18446744073709551616) (hS:S<18446744073709551616) (hlen:Hid (bs.length=n)) (hnc:n<=c) (hn:n<=1099511627775) (hB:B<=w.heap.size) (hr:Rd w B 1 A n (bs.map Bv)):
  Calls zp 59 #[.int .u64 (pub:Int),.slice A n c,Ev R S] w (Ag (Sg.check pub bs R S) w):=by
 by_cases h:Sg.In 2305843009213693950 pub R S
 · exact Ak2 pub R S B n c A bs w hp hR hS hlen hn hB hr h
 ·
  rw [Sg.check_out _ _ _ _ h];exact Ak1 pub R S n c A w h
end Go.Proofs.YtihfebhfgliojaaGreatDoor
