/-
  Contracts of the functions that the claim's statement reaches, walked one by one (part 14).
  Conditions: as each theorem says.
-/
import Derived.Test.YtihfebhfgliojaaGreatDoorRkO13
set_option maxRecDepth 100000
set_option maxHeartbeats 16000000
open Bool renaming not_eq_true->At0,not_false->At6,not_true->At7,or_false->Au2,and_eq_true->Au7
open List renaming getElem?_eq_getElem->As7,length_append->As8,mem_of_getElem?->At2,getElem?_map->At3,mem_singleton->At4,take_of_length_le->At5,flatMap_append->At9,nodup_nil->Au0,contains_iff_mem->Au1,length_singleton->Au3,eq_replicate_iff->Au4,getElem_map->Au5,not_mem_nil->Au6,getElem?_eq_none->Au8,find?_append->Au9
open Nat renaming le_trans->As9,le_refl->At8
open Go.World renaming size_alloc->At1
open Go.Proofs.Tryz
open Go.Proofs.Tryz renaming prog->zp
open Go.Lib renaming hid->lh
open List renaming set->zl
open Go.Ending renaming returned->ze
namespace Go.Proofs.YtihfebhfgliojaaGreatDoor
section
open Go.RowKit
attribute [local go_sem ↓] Go.wp_at_zero Go.wp_at_succ
namespace Oq
attribute [local go_sem] At6 At7
attribute [local go_sem ↓] Cz
def Ch (l:List Pn) (above ids:List Id):Nat->List Id
 |0=>[]
 |k+1=>match ids[k]? with
  |some y=>if (plc l y).isSome&& !Bh above y&& !Bh (Ch l above ids k) y then Ch l above ids k++[y] else Ch l above ids k
  |none=>Ch l above ids k
def Cu (l:List Pn) (ids:List Id):List Id:=Ai (Cf l (Ba l ids) l.length)
def Fi (l:List Pn) (ids:List Id):List Id:=Ai (Ch l (Cu l ids) ids ids.length)
theorem Ag0 {l:List Pn} {above ids:List Id} {k:Nat} {y:Id} (h:ids[k]? =some y):
  Ch l above ids (k+1)=if (plc l y).isSome&& !Bh above y&& !Bh (Ch l above ids k) y then Ch l above ids k++[y] else Ch l above ids k:=by
 show (match ids[k]? with|some y=>if (plc l y).isSome&& !Bh above y&& !Bh (Ch l above ids k) y then Ch l above ids k++[y] else Ch l above ids k|none=>Ch l above ids k)=_;rw [h]
theorem Mu (l:List Pn) (above ids:List Id):∀k,(Ch l above ids k).length<=k
 |0=>At8 _
 |k+1=>by
  have ih:=Mu l above ids k;unfold Ch
  split
  ·
   split
   · rw [As8,Au3];omega
   · omega
  · omega
theorem plcI_pos {l:List Pn} {id:Id}:0<=Au l id<->(plc l id).isSome=true:=by
 unfold Au
 cases plc l id with
 |none=>simp
 |some p=>simp
theorem Ru (l:List Pn) (ids:List Id):(Cu l ids).length<=l.length:=by
 unfold Cu;rw [Gv];exact Rr _ _ _
theorem Ag1 (base:Nat) (r:RG) (B n c:Nat) (A:Option Addr) (ids:List Id) (w:World) (h:r.own w base) (hn:Hid (ids.length=n)) (hr:Rd w B 3 A n (ids.flatMap Id.cells)) (hnm:n<=100000):
  Calls zp 92 #[.agg r.cells,.slice A n c] w (Ca (Fi r.l ids) w):=by
 have bg:=Blk.new w 32 r.cells;have f0:Fr Non w (w.alloc (.cells r.cells 32)):=(Fr.refl Non w).alloc _;have kp:=lh (fun (id:Id) (w':World) (hf:Fr Non w w')=>Ht base r id w' (h.non hf));have hl:=Bk (P:=zp) w.heap.size 32 underlying32 rfl (cs:=r.cells) Cx;have bc:=lh (fun (w':World) (hf:Fr Non w w')=>Rt base r B n c A ids w' (h.non hf) hn (hr.fr hf zr) (by omega));have bv:(Cu r.l ids).length<=1000:=As9 (Ru _ _) (As9 h.few (by omega));have bj:=lh (fun k y (hy:ids[k]? =some y)=>Ag0 (l:=r.l) (above:=Cu r.l ids) hy);have bd:=lh (Mu r.l (Cu r.l ids) ids);have a1:Hid (∀id,0<=Au r.l id<->(plc r.l id).isSome=true):=fun id=>plcI_pos;have bl:Hid (Fi r.l ids=Ai (Ch r.l (Cu r.l ids) ids n)):=by show _=_;rw [<- hn.out];rfl
 rw [bl.out];change Hid (∀(w':World),Fr Non w w'->Calls zp 135 #[.agg r.cells,.slice A n c] w' (Ca (Cu r.l ids) w')) at bc;clear h bl;generalize Cu r.l ids=ab at*;generalize r.cells=CS at*;generalize r.l=l at*;go_enter func92,ntmps92;go_upto_region 1 with (fail)
 generalize w.alloc (.cells CS 32)=w0 at*;go_wp2_with (go_at_call 135;(with_reducible refine (bc.out _ f0).mono ?_);rintro _ w1 ⟨A1,c1,rfl,o1,f1⟩;have bo:=f0.trans f1 zr;have b1:=bg.fr f1 zq;clear bc)
 go_loopw [6,7] (fun s v wr=>∃(k:Nat) (Ax:Option Addr) (cx:Nat) (xs:List Id),v=.int .i64 (k:Int)/\s=.slice Ax xs.length cx/\k<=n/\Hid (xs=Ch l ab ids k)/\Own wr w1.heap.size 38 3 Ax xs.length cx (xs.flatMap Id.cells)/\Fr Non w1 wr) (fun _ v _=>n-(intOf v).toNat)
 case atStart=>exact ⟨0,none,0,[],rfl,rfl,by omega,rfl,Own.nil _ _ _ _,Fr.refl _ _⟩
 case round=>
  obtain ⟨k,Ax,cx,xs,rfl,rfl,hk,ax,ao,hf⟩:=hrel;have a8:Fr Non w wr:=bo.trans hf zr;have bk:=ao.row;have bx:xs.length<=k:=by rw [ax.out];exact bd.out k
  by_cases hlt:k<n
  ·
   obtain ⟨y,hy⟩:∃y,ids[k]? =some y:=⟨_,As7 (by rw [hn.out];exact hlt)⟩;obtain ⟨b,aq,rfl,ba,k0,k1,k2⟩:=Id.at (hr.fr a8 zr) hy;have au:=lh (bj.out k y hy);rw [<- ax.out] at au;have i1:(0:Int)<=k:=by omega
   have i2:(k:Int)<n:=by omega
   have i3:(k:Int).toNat=k:=by omega
   have B0:=(b1.fr hf zq).drew;have a7:Fr Non w wr.drew:=a8.drew;have ai:cI wr.drew b (aq+k*3) y.b:=k0;have aj:cI wr.drew b (aq+k*3+1) y.s:=k1;have ak:cU wr.drew b (aq+k*3+2) y.u:=k2;have O0:Own wr.drew w1.heap.size 38 3 Ax xs.length cx (xs.flatMap Id.cells):=ao.drew;have H0:Fr Non w1 wr.drew:=hf.drew;have az:=lh (kp.out y wr.drew a7);have a2:Hid (∀w',Fr Non w1 w'->Calls zp 31 #[.slice A1 ab.length c1,.agg y.V] w' (Ae (Bh ab y) w')):=fun w' hw=>Hg _ ab.length c1 A1 ab y w' rfl (o1.rd.fr hw zr) (by omega);have a3:Hid (∀w',Own w' w1.heap.size 38 3 Ax xs.length cx (xs.flatMap Id.cells)->Calls zp 31 #[.slice Ax xs.length cx,.agg y.V] w' (Ae (Bh xs y) w')):=fun w' hw=>Hg _ xs.length cx Ax xs y w' rfl hw.rd (by omega);have bh:=a1.out y
   have a5:Hid (∀b,(plc l y).isSome=b->decide (Au l y>=0)=b):=fun b e=>by
    subst e
    cases hq:(plc l y).isSome with
    |true=>exact decide_eq_true (bh.2 hq)
    |false=>exact decide_eq_false (fun e=>by rw [bh.1 e] at hq;cases hq)
   clear kp bj bd k0 k1 k2 hy a1 bh;generalize Bh ab y=h1 at*;generalize Bh xs y=h2 at*;obtain ⟨ps,be⟩:∃b,(plc l y).isSome=b:=⟨_,rfl⟩;have hP:=a5.out ps be;rw [be] at au;clear a5 be;generalize Au l y=P at*
   cases ps
   case false=>
    go_upto_region 6 with (fail)
    clear ao hf ba;refine wp_region_held_drew (S:=fun w'=>Blk w' w.heap.size 32 CS/\cI w' b (aq+k*3) y.b/\cI w' b (aq+k*3+1) y.s/\cU w' b (aq+k*3+2) y.u) (by kernel_rfl) ⟨B0,ai,aj,ak⟩ (fun _=> ?_);have uu:=aI B0 (aI ai (aI aj ak));refine tkH 0 uu (h:=tkH 1 uu (h:=tkH 2 uu (h:=tkH 3 uu (h:=tkH 4 uu (h:=?_)))));clear uu;simp only [zl];refine oG 5 (fun K hK=> ?_);go_simp;go_wp2_with (go_at_call 56;(with_reducible refine (az.out).mono ?_);rintro _ v1 ⟨rfl,ah⟩;have B1:=B0.fr ah zq;have ac:=ah.cell ai zq;have aa:=ah.cell aj zq;have ad:=ah.cell ak zq;have a4:=a7.trans ah zr;have O1:=O0.fr ah zr;have H1:=H0.trans ah zr);refine hK.out _ _ ⟨B1,ac,aa,ad⟩ (fun hZ=> ?_);clear hZ hK K;try simp only [Ad,zl]
    have uu:=aI B1 (aI ac (aI aa ad));refine tkH 6 uu (h:=tkH 7 uu (h:=skH 8 uu (h:=skH 9 uu (h:=skH 10 uu (h:=skH 11 uu (h:=skH 12 uu (h:=skH 13 uu (h:=skH 14 uu (h:=tkH 15 uu (h:=tkH 16 uu (h:=skH 17 uu (h:=?_))))))))))));clear uu;simp only [zl];have uu:=aI B1 (aI ac (aI aa ad));refine skH 18 uu (h:=skH 19 uu (h:=skH 20 uu (h:=skH 21 uu (h:=skH 22 uu (h:=skH 23 uu (h:=tkH 24 uu (h:=?_)))))));clear uu;simp only [zl];refine oD ?_;go_simp;have ap:Hid (xs=Ch l ab ids (k+1)):=by show _=_;rw [au.out];rfl
    have hz:=H1;have oz:=O1;clear au ax az a2 a3;go_wp2_with fail;go_roundw
    case rel=>exact ⟨k+1,Ax,cx,xs,by go_num,rfl,by omega,ap,oz,hz⟩
    case measure=>simp [intOf];omega
   case true=>
    cases h1
    case true=>
     go_upto_region 6 with (fail)
     clear ao hf ba;refine wp_region_held_drew (S:=fun w'=>Blk w' w.heap.size 32 CS/\cI w' b (aq+k*3) y.b/\cI w' b (aq+k*3+1) y.s/\cU w' b (aq+k*3+2) y.u) (by kernel_rfl) ⟨B0,ai,aj,ak⟩ (fun _=> ?_);have uu:=aI B0 (aI ai (aI aj ak));refine tkH 0 uu (h:=tkH 1 uu (h:=tkH 2 uu (h:=tkH 3 uu (h:=tkH 4 uu (h:=?_)))));clear uu;simp only [zl];refine oG 5 (fun K hK=> ?_);go_simp;go_wp2_with (go_at_call 56;(with_reducible refine (az.out).mono ?_);rintro _ v1 ⟨rfl,ah⟩;have B1:=B0.fr ah zq;have ac:=ah.cell ai zq;have aa:=ah.cell aj zq;have ad:=ah.cell ak zq;have a4:=a7.trans ah zr;have O1:=O0.fr ah zr;have H1:=H0.trans ah zr);refine hK.out _ _ ⟨B1,ac,aa,ad⟩ (fun hZ=> ?_);clear hZ hK K;try simp only [Ad,zl]
     have uu:=aI B1 (aI ac (aI aa ad));refine tkH 6 uu (h:=tkH 7 uu (h:=tkH 8 uu (h:=tkH 9 uu (h:=tkH 10 uu (h:=tkH 11 uu (h:=tkH 12 uu (h:=?_)))))));clear uu;simp only [zl];refine oG 13 (fun K hK=> ?_);go_simp;go_wp2_with (go_at_call 31;(with_reducible refine (a2.out _ H1).mono ?_);rintro _ v2 ⟨rfl,al⟩;have B2:=B1.fr al zq;have ae:=al.cell ac zq;have ag:=al.cell aa zq;have af:=al.cell ad zq;have a9:=a4.trans al zr;have O2:=O1.fr al zr;have H2:=H1.trans al zr);refine hK.out _ _ ⟨B2,ae,ag,af⟩ (fun hZ=> ?_);clear hZ hK K;try simp only [Ad,zl]
     have uu:=aI B2 (aI ae (aI ag af));refine tkH 14 uu (h:=tkH 15 uu (h:=tkH 16 uu (h:=skH 17 uu (h:=skH 18 uu (h:=skH 19 uu (h:=skH 20 uu (h:=skH 21 uu (h:=skH 22 uu (h:=skH 23 uu (h:=tkH 24 uu (h:=?_)))))))))));clear uu;simp only [zl];refine oD ?_;go_simp;have ap:Hid (xs=Ch l ab ids (k+1)):=by show _=_;rw [au.out];rfl
     have hz:=H2;have oz:=O2;clear au ax az a2 a3;go_wp2_with fail;go_roundw
     case rel=>exact ⟨k+1,Ax,cx,xs,by go_num,rfl,by omega,ap,oz,hz⟩
     case measure=>simp [intOf];omega
    case false=>
     cases h2
     case true=>
      go_upto_region 6 with (fail)
      clear ao hf ba;refine wp_region_held_drew (S:=fun w'=>Blk w' w.heap.size 32 CS/\cI w' b (aq+k*3) y.b/\cI w' b (aq+k*3+1) y.s/\cU w' b (aq+k*3+2) y.u) (by kernel_rfl) ⟨B0,ai,aj,ak⟩ (fun _=> ?_);have uu:=aI B0 (aI ai (aI aj ak));refine tkH 0 uu (h:=tkH 1 uu (h:=tkH 2 uu (h:=tkH 3 uu (h:=tkH 4 uu (h:=?_)))));clear uu;simp only [zl];refine oG 5 (fun K hK=> ?_);go_simp;go_wp2_with (go_at_call 56;(with_reducible refine (az.out).mono ?_);rintro _ v1 ⟨rfl,ah⟩;have B1:=B0.fr ah zq;have ac:=ah.cell ai zq;have aa:=ah.cell aj zq;have ad:=ah.cell ak zq;have a4:=a7.trans ah zr;have O1:=O0.fr ah zr;have H1:=H0.trans ah zr);refine hK.out _ _ ⟨B1,ac,aa,ad⟩ (fun hZ=> ?_);clear hZ hK K;try simp only [Ad,zl]
      have uu:=aI B1 (aI ac (aI aa ad));refine tkH 6 uu (h:=tkH 7 uu (h:=tkH 8 uu (h:=tkH 9 uu (h:=tkH 10 uu (h:=tkH 11 uu (h:=tkH 12 uu (h:=?_)))))));clear uu;simp only [zl];refine oG 13 (fun K hK=> ?_);go_simp;go_wp2_with (go_at_call 31;(with_reducible refine (a2.out _ H1).mono ?_);rintro _ v2 ⟨rfl,al⟩;have B2:=B1.fr al zq;have ae:=al.cell ac zq;have ag:=al.cell aa zq;have af:=al.cell ad zq;have a9:=a4.trans al zr;have O2:=O1.fr al zr;have H2:=H1.trans al zr);refine hK.out _ _ ⟨B2,ae,ag,af⟩ (fun hZ=> ?_);clear hZ hK K;try simp only [Ad,zl]
      have uu:=aI B2 (aI ae (aI ag af));refine tkH 14 uu (h:=tkH 15 uu (h:=tkH 16 uu (h:=tkH 17 uu (h:=tkH 18 uu (h:=tkH 19 uu (h:=tkH 20 uu (h:=tkH 21 uu (h:=?_))))))));clear uu;simp only [zl];refine oG 22 (fun K hK=> ?_);go_simp;go_wp2_with (go_at_call 31;(with_reducible refine (a3.out _ O2).mono ?_);rintro _ v3 ⟨rfl,ar⟩;have B3:=B2.fr ar zq;have aw:=ar.cell ae zq;have ay:=ar.cell ag zq;have av:=ar.cell af zq;have bs:=a9.trans ar zr;have O3:=O2.fr ar zr;have H3:=H2.trans ar zr);refine hK.out _ _ ⟨B3,aw,ay,av⟩ (fun hZ=> ?_);clear hZ hK K;try simp only [Ad,zl]
      refine tkH 23 ⟨B3,aw,ay,av⟩ (h:=tkH 24 ⟨B3,aw,ay,av⟩ (h:=?_));simp only [zl];refine oD ?_;go_simp;have ap:Hid (xs=Ch l ab ids (k+1)):=by show _=_;rw [au.out];rfl
      have hz:=H3;have oz:=O3;clear au ax az a2 a3;go_wp2_with fail;go_roundw
      case rel=>exact ⟨k+1,Ax,cx,xs,by go_num,rfl,by omega,ap,oz,hz⟩
      case measure=>simp [intOf];omega
     case false=>
      go_upto_region 6 with (fail)
      clear ao hf ba;refine wp_region_held_drew (S:=fun w'=>Blk w' w.heap.size 32 CS/\cI w' b (aq+k*3) y.b/\cI w' b (aq+k*3+1) y.s/\cU w' b (aq+k*3+2) y.u) (by kernel_rfl) ⟨B0,ai,aj,ak⟩ (fun _=> ?_);have uu:=aI B0 (aI ai (aI aj ak));refine tkH 0 uu (h:=tkH 1 uu (h:=tkH 2 uu (h:=tkH 3 uu (h:=tkH 4 uu (h:=?_)))));clear uu;simp only [zl];refine oG 5 (fun K hK=> ?_);go_simp;go_wp2_with (go_at_call 56;(with_reducible refine (az.out).mono ?_);rintro _ v1 ⟨rfl,ah⟩;have B1:=B0.fr ah zq;have ac:=ah.cell ai zq;have aa:=ah.cell aj zq;have ad:=ah.cell ak zq;have a4:=a7.trans ah zr;have O1:=O0.fr ah zr;have H1:=H0.trans ah zr);refine hK.out _ _ ⟨B1,ac,aa,ad⟩ (fun hZ=> ?_);clear hZ hK K;try simp only [Ad,zl]
      have uu:=aI B1 (aI ac (aI aa ad));refine tkH 6 uu (h:=tkH 7 uu (h:=tkH 8 uu (h:=tkH 9 uu (h:=tkH 10 uu (h:=tkH 11 uu (h:=tkH 12 uu (h:=?_)))))));clear uu;simp only [zl];refine oG 13 (fun K hK=> ?_);go_simp;go_wp2_with (go_at_call 31;(with_reducible refine (a2.out _ H1).mono ?_);rintro _ v2 ⟨rfl,al⟩;have B2:=B1.fr al zq;have ae:=al.cell ac zq;have ag:=al.cell aa zq;have af:=al.cell ad zq;have a9:=a4.trans al zr;have O2:=O1.fr al zr;have H2:=H1.trans al zr);refine hK.out _ _ ⟨B2,ae,ag,af⟩ (fun hZ=> ?_);clear hZ hK K;try simp only [Ad,zl]
      have uu:=aI B2 (aI ae (aI ag af));refine tkH 14 uu (h:=tkH 15 uu (h:=tkH 16 uu (h:=tkH 17 uu (h:=tkH 18 uu (h:=tkH 19 uu (h:=tkH 20 uu (h:=tkH 21 uu (h:=?_))))))));clear uu;simp only [zl];refine oG 22 (fun K hK=> ?_);go_simp;go_wp2_with (go_at_call 31;(with_reducible refine (a3.out _ O2).mono ?_);rintro _ v3 ⟨rfl,ar⟩;have B3:=B2.fr ar zq;have aw:=ar.cell ae zq;have ay:=ar.cell ag zq;have av:=ar.cell af zq;have bs:=a9.trans ar zr;have O3:=O2.fr ar zr;have H3:=H2.trans ar zr);refine hK.out _ _ ⟨B3,aw,ay,av⟩ (fun hZ=> ?_);clear hZ hK K;try simp only [Ad,zl]
      refine tkH 23 ⟨B3,aw,ay,av⟩ (h:=tkH 24 ⟨B3,aw,ay,av⟩ (h:=?_));simp only [zl];refine oD ?_;go_simp;have ap:Hid (xs++[y]=Ch l ab ids (k+1)):=by show _=_;rw [au.out];rfl
      have hz:=H3;have oz:=O3;have e0:=aw;have e1:=ay;have e2:=av;clear au ax az a2 a3;have bb:=oz.alloc (.cells y.V 38);have bu:=hz.alloc (.cells y.V 38);have bq:=Blk.new v3 38 y.V;have bw:=hz.size;go_wp2_with (at_builtin;go_loud (refine Bg (base:=w1.heap.size) (.tmp 42) (.tmp 47) 28 rfl rfl rfl rfl Da bb (Rd.blk (n:=1) (size:=3) bq rfl) (by simp [Value.oneCell']) (by omega) (by omega) (by rw [At1];omega) ?_);intro A2 bm w4 bi bt br)
      have bf:Own w4 w1.heap.size 38 3 A2 (xs++[y]).length bm ((xs++[y]).flatMap Id.cells):=by
       rw [As8,At9];exact bi
      have bp:Fr Non w1 w4:=bu.trans bt (fun j hj e=>by have h5:=(bk j e).1;omega);go_roundw
      case rel=>exact ⟨k+1,A2,bm,xs++[y],by go_num,by rw [As8];rfl,by omega,ap,bf,bp⟩
      case measure=>simp [intOf];omega
  ·
   obtain rfl:k=n:=by omega
   have ks:=lh (Ip wr.heap.size xs.length cx Ax xs wr rfl ao.rd (by omega))
   have a6:Hid (∀e w',SortPost xs xs.length wr e w'->Ca (Ai (Ch l ab ids k)) w e w'):=by
    rintro e w' ⟨A5,c5,h1,h2,h3⟩;have bn:(Ai xs).length=xs.length:=Gv xs;rw [<- ax.out];exact ⟨A5,c5,by rw [bn];exact h1,by rw [bn];exact h2.lower a8.size,a8.trans h3 zr⟩
   generalize Ca (Ai (Ch l ab ids k)) w=POST at*;clear ax ao hr bg bj bd a1 kp;go_wp2_with (go_at_call 48;(with_reducible refine (ks.out).mono ?_);rintro _ w7 ⟨A5,c5,rfl,h5,h6⟩;have a0:=lh (a6.out _ _ ⟨A5,c5,rfl,h5,h6⟩);clear ks a6 h5 h6)
   first|exact a0.out|(go_ret;exact a0.out)
def Br (l:List Pn) (above ids:List Id):Nat->List Id
 |0=>above
 |k+1=>match ids[k]? with
  |some y=>if (plc l y).isSome&& !Bh (Br l above ids k) y then Br l above ids k++[y] else Br l above ids k
  |none=>Br l above ids k
def Fv (l:List Pn) (ids:List Id):List Id:=Ai (Br l (Cu l ids) ids ids.length)
theorem Rv {l:List Pn} {above ids:List Id} {k:Nat} {y:Id} (h:ids[k]? =some y):
  Br l above ids (k+1)=if (plc l y).isSome&& !Bh (Br l above ids k) y then Br l above ids k++[y] else Br l above ids k:=by
 show (match ids[k]? with|some y=>if (plc l y).isSome&& !Bh (Br l above ids k) y then Br l above ids k++[y] else Br l above ids k|none=>Br l above ids k)=_;rw [h]
theorem Rw (l:List Pn) (above ids:List Id):∀k,(Br l above ids k).length<=above.length+k
 |0=>At8 _
 |k+1=>by
  have ih:=Rw l above ids k;unfold Br
  split
  ·
   split
   · rw [As8,Au3];omega
   · omega
  · omega
theorem Ag2 (base:Nat) (r:RG) (B n c:Nat) (A:Option Addr) (ids:List Id) (w:World) (h:r.own w base) (hn:Hid (ids.length=n)) (hr:Rd w B 3 A n (ids.flatMap Id.cells)) (hnm:n<=100000):
  Calls zp 80 #[.agg r.cells,.slice A n c] w (Ca (Fv r.l ids) w):=by
 have bg:=Blk.new w 32 r.cells;have f0:Fr Non w (w.alloc (.cells r.cells 32)):=(Fr.refl Non w).alloc _;have kp:=lh (fun (id:Id) (w':World) (hf:Fr Non w w')=>Ht base r id w' (h.non hf));have hl:=Bk (P:=zp) w.heap.size 32 underlying32 rfl (cs:=r.cells) Cx;have a5:=lh (fun (w':World) (hf:Fr Non w w')=>Rt base r B n c A ids w' (h.non hf) hn (hr.fr hf zr) (by omega));have bp:(Cu r.l ids).length<=1000:=As9 (Ru _ _) (As9 h.few (by omega));have bc:=lh (fun k y (hy:ids[k]? =some y)=>Rv (l:=r.l) (above:=Cu r.l ids) hy);have a6:=lh (Rw r.l (Cu r.l ids) ids);have av:Hid (∀id,0<=Au r.l id<->(plc r.l id).isSome=true):=fun id=>plcI_pos;have be:Hid (Fv r.l ids=Ai (Br r.l (Cu r.l ids) ids n)):=by show _=_;rw [<- hn.out];rfl
 have bh:Hid (Cu r.l ids=Br r.l (Cu r.l ids) ids 0):=rfl;rw [be.out];change Hid (∀(w':World),Fr Non w w'->Calls zp 135 #[.agg r.cells,.slice A n c] w' (Ca (Cu r.l ids) w')) at a5;clear h be;generalize Cu r.l ids=ab at*;generalize r.cells=CS at*;generalize r.l=l at*;go_enter func80,ntmps80;go_upto_region 1 with (fail)
 have bs:=f0.size;generalize w.alloc (.cells CS 32)=w0 at*;go_wp2_with (go_at_call 135;(with_reducible refine (a5.out _ f0).mono ?_);rintro _ w1 ⟨A1,c1,rfl,o1,f1⟩;have bq:=f0.trans f1 zr;have b1:=bg.fr f1 zq;clear a5);have bt:=f1.size
 go_loopw [5,6] (fun s v wr=>∃(k:Nat) (Ax:Option Addr) (cx:Nat) (xs:List Id),v=.int .i64 (k:Int)/\s=.slice Ax xs.length cx/\k<=n/\Hid (xs=Br l ab ids k)/\Own wr w0.heap.size 38 3 Ax xs.length cx (xs.flatMap Id.cells)/\Fr Non w0 wr) (fun _ v _=>n-(intOf v).toNat)
 case atStart=>exact ⟨0,A1,c1,ab,rfl,rfl,by omega,bh,o1,f1⟩
 case round=>
  obtain ⟨k,Ax,cx,xs,rfl,rfl,hk,aw,ai,hf⟩:=hrel;have a1:Fr Non w wr:=f0.trans hf zr;have bd:=ai.row;have bu:xs.length<=ab.length+k:=by rw [aw.out];exact a6.out k
  by_cases hlt:k<n
  ·
   obtain ⟨y,hy⟩:∃y,ids[k]? =some y:=⟨_,As7 (by rw [hn.out];exact hlt)⟩;obtain ⟨b,ak,rfl,bb,k0,k1,k2⟩:=Id.at (hr.fr a1 zr) hy;have ao:=lh (bc.out k y hy);rw [<- aw.out] at ao;have i1:(0:Int)<=k:=by omega
   have i2:(k:Int)<n:=by omega
   have i3:(k:Int).toNat=k:=by omega
   have B0:=(bg.fr hf zq).drew;have a3:Fr Non w wr.drew:=a1.drew;have af:cI wr.drew b (ak+k*3) y.b:=k0;have ag:cI wr.drew b (ak+k*3+1) y.s:=k1;have ah:cU wr.drew b (ak+k*3+2) y.u:=k2;have O0:Own wr.drew w0.heap.size 38 3 Ax xs.length cx (xs.flatMap Id.cells):=ai.drew;have H0:Fr Non w0 wr.drew:=hf.drew;have ax:=lh (kp.out y wr.drew a3);have az:Hid (∀w',Own w' w0.heap.size 38 3 Ax xs.length cx (xs.flatMap Id.cells)->Calls zp 31 #[.slice Ax xs.length cx,.agg y.V] w' (Ae (Bh xs y) w')):=fun w' hw=>Hg _ xs.length cx Ax xs y w' rfl hw.rd (by omega);have a9:=av.out y
   have ay:Hid (∀b,(plc l y).isSome=b->decide (Au l y>=0)=b):=fun b e=>by
    subst e
    cases hq:(plc l y).isSome with
    |true=>exact decide_eq_true (a9.2 hq)
    |false=>exact decide_eq_false (fun e=>by rw [a9.1 e] at hq;cases hq)
   clear kp bc a6 k0 k1 k2 hy av a9 bh;generalize Bh xs y=h2 at*;obtain ⟨ps,a7⟩:∃b,(plc l y).isSome=b:=⟨_,rfl⟩;have hP:=ay.out ps a7;rw [a7] at ao;clear ay a7;generalize Au l y=P at*
   cases ps
   case false=>
    go_upto_region 5 with (fail)
    clear ai hf bb;refine wp_region_held_drew (S:=fun w'=>Blk w' w.heap.size 32 CS/\cI w' b (ak+k*3) y.b/\cI w' b (ak+k*3+1) y.s/\cU w' b (ak+k*3+2) y.u) (by kernel_rfl) ⟨B0,af,ag,ah⟩ (fun _=> ?_);have uu:=aI B0 (aI af (aI ag ah));refine tkH 0 uu (h:=tkH 1 uu (h:=tkH 2 uu (h:=tkH 3 uu (h:=tkH 4 uu (h:=?_)))));clear uu;simp only [zl];refine oG 5 (fun K hK=> ?_);go_simp;go_wp2_with (go_at_call 56;(with_reducible refine (ax.out).mono ?_);rintro _ v1 ⟨rfl,ae⟩;have B1:=B0.fr ae zq;have ac:=ae.cell af zq;have aa:=ae.cell ag zq;have ad:=ae.cell ah zq;have a2:=a3.trans ae zr;have O1:=O0.fr ae zr;have H1:=H0.trans ae zr);refine hK.out _ _ ⟨B1,ac,aa,ad⟩ (fun hZ=> ?_);clear hZ hK K;try simp only [Ad,zl]
    have uu:=aI B1 (aI ac (aI aa ad));refine tkH 6 uu (h:=tkH 7 uu (h:=skH 8 uu (h:=skH 9 uu (h:=skH 10 uu (h:=skH 11 uu (h:=skH 12 uu (h:=skH 13 uu (h:=skH 14 uu (h:=tkH 15 uu (h:=?_))))))))));clear uu;simp only [zl];refine oD ?_;go_simp;have al:Hid (xs=Br l ab ids (k+1)):=by show _=_;rw [ao.out];rfl
    have hz:=H1;have oz:=O1;clear ao aw ax az;go_wp2_with fail;go_roundw
    case rel=>exact ⟨k+1,Ax,cx,xs,by go_num,rfl,by omega,al,oz,hz⟩
    case measure=>simp [intOf];omega
   case true=>
    cases h2
    case true=>
     go_upto_region 5 with (fail)
     clear ai hf bb;refine wp_region_held_drew (S:=fun w'=>Blk w' w.heap.size 32 CS/\cI w' b (ak+k*3) y.b/\cI w' b (ak+k*3+1) y.s/\cU w' b (ak+k*3+2) y.u) (by kernel_rfl) ⟨B0,af,ag,ah⟩ (fun _=> ?_);have uu:=aI B0 (aI af (aI ag ah));refine tkH 0 uu (h:=tkH 1 uu (h:=tkH 2 uu (h:=tkH 3 uu (h:=tkH 4 uu (h:=?_)))));clear uu;simp only [zl];refine oG 5 (fun K hK=> ?_);go_simp;go_wp2_with (go_at_call 56;(with_reducible refine (ax.out).mono ?_);rintro _ v1 ⟨rfl,ae⟩;have B1:=B0.fr ae zq;have ac:=ae.cell af zq;have aa:=ae.cell ag zq;have ad:=ae.cell ah zq;have a2:=a3.trans ae zr;have O1:=O0.fr ae zr;have H1:=H0.trans ae zr);refine hK.out _ _ ⟨B1,ac,aa,ad⟩ (fun hZ=> ?_);clear hZ hK K;try simp only [Ad,zl]
     have uu:=aI B1 (aI ac (aI aa ad));refine tkH 6 uu (h:=tkH 7 uu (h:=tkH 8 uu (h:=tkH 9 uu (h:=tkH 10 uu (h:=tkH 11 uu (h:=tkH 12 uu (h:=?_)))))));clear uu;simp only [zl];refine oG 13 (fun K hK=> ?_);go_simp;go_wp2_with (go_at_call 31;(with_reducible refine (az.out _ O1).mono ?_);rintro _ v2 ⟨rfl,aj⟩;have B2:=B1.fr aj zq;have ap:=aj.cell ac zq;have ar:=aj.cell aa zq;have aq:=aj.cell ad zq;have bk:=a2.trans aj zr;have O2:=O1.fr aj zr;have H2:=H1.trans aj zr);refine hK.out _ _ ⟨B2,ap,ar,aq⟩ (fun hZ=> ?_);clear hZ hK K;try simp only [Ad,zl]
     refine tkH 14 ⟨B2,ap,ar,aq⟩ (h:=tkH 15 ⟨B2,ap,ar,aq⟩ (h:=?_));simp only [zl];refine oD ?_;go_simp;have al:Hid (xs=Br l ab ids (k+1)):=by show _=_;rw [ao.out];rfl
     have hz:=H2;have oz:=O2;clear ao aw ax az;go_wp2_with fail;go_roundw
     case rel=>exact ⟨k+1,Ax,cx,xs,by go_num,rfl,by omega,al,oz,hz⟩
     case measure=>simp [intOf];omega
    case false=>
     go_upto_region 5 with (fail)
     clear ai hf bb;refine wp_region_held_drew (S:=fun w'=>Blk w' w.heap.size 32 CS/\cI w' b (ak+k*3) y.b/\cI w' b (ak+k*3+1) y.s/\cU w' b (ak+k*3+2) y.u) (by kernel_rfl) ⟨B0,af,ag,ah⟩ (fun _=> ?_);have uu:=aI B0 (aI af (aI ag ah));refine tkH 0 uu (h:=tkH 1 uu (h:=tkH 2 uu (h:=tkH 3 uu (h:=tkH 4 uu (h:=?_)))));clear uu;simp only [zl];refine oG 5 (fun K hK=> ?_);go_simp;go_wp2_with (go_at_call 56;(with_reducible refine (ax.out).mono ?_);rintro _ v1 ⟨rfl,ae⟩;have B1:=B0.fr ae zq;have ac:=ae.cell af zq;have aa:=ae.cell ag zq;have ad:=ae.cell ah zq;have a2:=a3.trans ae zr;have O1:=O0.fr ae zr;have H1:=H0.trans ae zr);refine hK.out _ _ ⟨B1,ac,aa,ad⟩ (fun hZ=> ?_);clear hZ hK K;try simp only [Ad,zl]
     have uu:=aI B1 (aI ac (aI aa ad));refine tkH 6 uu (h:=tkH 7 uu (h:=tkH 8 uu (h:=tkH 9 uu (h:=tkH 10 uu (h:=tkH 11 uu (h:=tkH 12 uu (h:=?_)))))));clear uu;simp only [zl];refine oG 13 (fun K hK=> ?_);go_simp;go_wp2_with (go_at_call 31;(with_reducible refine (az.out _ O1).mono ?_);rintro _ v2 ⟨rfl,aj⟩;have B2:=B1.fr aj zq;have ap:=aj.cell ac zq;have ar:=aj.cell aa zq;have aq:=aj.cell ad zq;have bk:=a2.trans aj zr;have O2:=O1.fr aj zr;have H2:=H1.trans aj zr);refine hK.out _ _ ⟨B2,ap,ar,aq⟩ (fun hZ=> ?_);clear hZ hK K;try simp only [Ad,zl]
     refine tkH 14 ⟨B2,ap,ar,aq⟩ (h:=tkH 15 ⟨B2,ap,ar,aq⟩ (h:=?_));simp only [zl];refine oD ?_;go_simp;have al:Hid (xs++[y]=Br l ab ids (k+1)):=by show _=_;rw [ao.out];rfl
     have hz:=H2;have oz:=O2;have e0:=ap;have e1:=ar;have e2:=aq;clear ao aw ax az;have a4:=oz.alloc (.cells y.V 38);have bo:=hz.alloc (.cells y.V 38);have bl:=Blk.new v2 38 y.V;have br:=hz.size;go_wp2_with (at_builtin;go_loud (refine Bg (base:=w0.heap.size) (.tmp 32) (.tmp 37) 28 rfl rfl rfl rfl Da a4 (Rd.blk (n:=1) (size:=3) bl rfl) (by simp [Value.oneCell']) (by omega) (by omega) (by rw [At1];omega) ?_);intro A2 bf w4 ba bn bm)
     have a8:Own w4 w0.heap.size 38 3 A2 (xs++[y]).length bf ((xs++[y]).flatMap Id.cells):=by
      rw [As8,At9];exact ba
     have bj:Fr Non w0 w4:=bo.trans bn (fun j hj e=>by have h5:=(bd j e).1;omega);go_roundw
     case rel=>exact ⟨k+1,A2,bf,xs++[y],by go_num,by rw [As8];rfl,by omega,al,a8,bj⟩
     case measure=>simp [intOf];omega
  ·
   obtain rfl:k=n:=by omega
   have ks:=lh (Ip wr.heap.size xs.length cx Ax xs wr rfl ai.rd (by omega))
   have a0:Hid (∀e w',SortPost xs xs.length wr e w'->Ca (Ai (Br l ab ids k)) w e w'):=by
    rintro e w' ⟨A5,c5,h1,h2,h3⟩;have bi:(Ai xs).length=xs.length:=Gv xs;rw [<- aw.out];exact ⟨A5,c5,by rw [bi];exact h1,by rw [bi];exact h2.lower a1.size,a1.trans h3 zr⟩
   generalize Ca (Ai (Br l ab ids k)) w=POST at*;clear aw ai hr bg bc a6 av kp;go_wp2_with (go_at_call 48;(with_reducible refine (ks.out).mono ?_);rintro _ w7 ⟨A5,c5,rfl,h5,h6⟩;have au:=lh (a0.out _ _ ⟨A5,c5,rfl,h5,h6⟩);clear ks a0 h5 h6)
   first|exact au.out|(go_ret;exact au.out)
end Oq
end
section
open Go.RowKit
namespace Oq
theorem Ag3 (z:Array Value) (v:Value) (m:Nat) (h0:0<z.size) (h:∀i,i<z.size->z[i]! =v):(madeCells z m).toList=List.replicate m v:=by
 unfold madeCells;rw [Array.toList_map,Au4];refine ⟨by simp,fun u hu=> ?_⟩;obtain ⟨i,_,rfl⟩:=List.mem_map.1 hu;exact h _ (Nat.mod_lt _ h0)
theorem Ag4 {P:Program} {o:Oper} {a:Act} {K:Act->World->Prop} {Q:Exit->Act->World->Prop} {w:World} (l:Operand) (t:TypeId) (hop:o.op=Op.makeSlice t l l) {e:TypeId} {size bytes:Nat} {z:Value} (hT:SlT P t e z size bytes)
  {N:Int} {n:Nat} (hl:a.eval l=.int .i64 N) (hN:N=(n:Int)) (b2:bytes*n<=281474976710656) (b3:n<=9223372036854775807)
  (hK:∀w',Own w' w.heap.size e size (some ⟨w.heap.size,0,none⟩) n n (madeCells z.cells (n*size)).toList->Fr Non w w'->K (a.put o.dst (.slice (some ⟨w.heap.size,0,none⟩) n n)) w'):Oper.wp P o a w K Q:=by
 obtain ⟨ht,hinfo,_,_⟩:=hT;obtain ⟨i,hi,hz,hsize,hby⟩:=info_parts hinfo;subst hN;obtain ⟨w',hrun,r1,r2⟩:=run_make_full (P:=P) (w:=w) w.heap.size t e i z size ht hi hz hsize .i64 .i64 n (by rw [hby];exact b2) (by unfold maxLen;exact b3) (At8 _);have hf:Fr Non w w':=⟨r2.os,r2.tape,r2.output,r2.size,fun j hj _=>r2.block j hj (fun e=>by cases e)⟩;have hk':=hK w' r1 hf;unfold Oper.wp execOp;simp only [hop,hl,hrun,Sem.run_bind,Result.andThen_ok,Sem.run_pure];exact hk'
theorem Ag5 {P:Program} {ops:Array Oper} {rest:List Oper} {o:Oper} {a:Act} {Q:Exit->Act->World->Prop} {w:World} (hg:o.guard=none) (l:Operand) (t:TypeId) (hop:o.op=Op.makeSlice t l l) {e:TypeId} {size bytes:Nat} {z:Value} (hT:SlT P t e z size bytes)
  {N:Int} {n:Nat} (hl:a.eval l=.int .i64 N) (hN:N=(n:Int)) (b2:bytes*n<=281474976710656) (b3:n<=9223372036854775807)
  (hK:∀w',Own w' w.heap.size e size (some ⟨w.heap.size,0,none⟩) n n (madeCells z.cells (n*size)).toList->Fr Non w w'->wpList P ops Q rest (a.put o.dst (.slice (some ⟨w.heap.size,0,none⟩) n n)) w'):wpList P ops Q (o::rest) a w:=
 wpList_plain hg fun _ hK'=>Ag4 l t hop hT hl hN b2 b3 (fun w' h1 h2=>hK' _ _ (hK w' h1 h2))
end Oq
end
section
open Go.RowKit
attribute [local go_sem ↓] Go.wp_at_zero Go.wp_at_succ
namespace Oq
attribute [local go_sem] At6 At7
attribute [local go_sem ↓] Cz
theorem Ek {P:Program} {o:Oper} {a:Act} {K:Act->World->Prop} {Q:Exit->Act->World->Prop} {w:World} (s x:Operand) (t:TypeId)
  (ho:o.op=.call {callee:=.builtin .append,args:=#[s,x],argTypes:=#[t,t]})
  {base size n c:Nat} {e:TypeId} {A:Option Addr} {xs:List Value} {z:Value} {bytes m cx B:Nat} {Ax:Option Addr} {news:List Value}
  (hs:a.eval s=.slice A n c) (hx:a.eval x=.slice Ax m cx)
  (hT:SlT P t e z size bytes) (h:Own w base e size A n c xs) (hr:Rd w B size Ax m news)
  (h1:∀u∈news,u.oneCell'=true) (hbytes:(n+m)*bytes<=140737488355328) (hmax:n+m<=9223372036854775807) (hbase:base<=w.heap.size)
  (hk:∀A' c' w',Own w' base e size A' (n+m) c' (xs++news)->Fr (fun k=>Ac A=some k) w w'->(Ac A'=Ac A\/Ac A'=some w.heap.size)->
   K (a.put o.dst (.slice A' (n+m) c')) w'):Oper.wp P o a w K Q:=by
 obtain ⟨A',c',w',hrun,h2,h3,h4⟩:=G9 (P:=P) (ty:=o.type) (cx:=cx) hT h hr h1 hbytes hmax hbase;unfold Oper.wp execOp;simp only [ho,resolve,invoke,builtin,Sem.run_bind,Sem.run_pure,Result.andThen_ok,List.map_toArray,List.map_cons,List.map_nil,hs,hx,hrun];exact hk A' c' w' h2 h3 h4
def ClosedOk (l:List Pn) (cs:List Id):Prop:=cs.Nodup/\∀id∈cs,(plc l id).isSome=true
theorem Rows.idsNodup {cards:List Cd} {l:List Pn} (h:Rows cards l):(l.map Pn.id).Nodup:=by
 refine List.pairwise_iff_getElem.2 (fun i j hi hj hij e=> ?_);rw [List.length_map] at hi hj;rw [Au5,Au5] at e;have h1:=(h.ok i _ (As7 hi)).plc;have h2:=(h.ok j _ (As7 hj)).plc;rw [e,h2] at h1;injection h1 with h1
 omega
theorem Rows.placed {cards:List Cd} {l:List Pn} (h:Rows cards l) {id:Id} (hid:id∈l.map Pn.id):(plc l id).isSome=true:=by
 obtain ⟨n,hn,rfl⟩:=List.mem_map.1 hid;obtain ⟨i,hi⟩:=List.getElem?_of_mem hn;rw [(h.ok i n hi).plc];rfl
theorem Hu {cards:List Cd} {l:List Pn} (h:Rows cards l):ClosedOk l (Ai (l.map Pn.id)):=
 ⟨(Ee _).nodup_iff.2 h.idsNodup,fun _ hid=>h.placed ((Ee _).subset hid)⟩
theorem Mv (l:List Pn) (p:Nat->Bool):∀k,∀id∈Cf l p k,∃i m,i<k/\p i=true/\l[i]? =some m/\m.id=id:=by
 intro k id hid;unfold Cf at hid;obtain ⟨i,hi,h⟩:=List.mem_filterMap.1 hid;rw [List.mem_range] at hi
 cases hp:p i with
 |false=>rw [hp] at h;cases h
 |true=>
  rw [hp,if_pos rfl] at h
  cases hm:l[i]? with
  |none=>rw [hm] at h;cases h
  |some m=>rw [hm] at h;injection h with h;exact ⟨i,m,hi,hp,hm,h⟩
theorem Mw {cards:List Cd} {l:List Pn} (h:Rows cards l) (p:Nat->Bool):∀k,(Cf l p k).Nodup:=by
 intro k
 induction k with
 |zero=>exact Au0
 |succ k ih=>
  cases hm:l[k]? with
  |none=>
   have:Cf l p (k+1)=Cf l p k:=by
    unfold Cf;rw [List.range_succ,List.filterMap_append];simp [hm]
   rw [this];exact ih
  |some m=>
   rw [Rq l p k hm]
   cases hp:p k with
   |false=>simpa using ih
   |true=>
    rw [if_pos rfl,List.nodup_append];refine ⟨ih,List.nodup_cons.2 ⟨Au6,Au0⟩,?_⟩;intro a ha b hb e;rw [At4] at hb;obtain ⟨i,m',hi,_,hm',e'⟩:=Mv l p k a ha;have h1:=(h.ok i m' hm').plc;have h2:=(h.ok k m hm).plc;rw [e',e,hb,h2] at h1;injection h1 with h1
    omega
theorem Ag6 {cards:List Cd} {l:List Pn} (h:Rows cards l) (ids:List Id):ClosedOk l (Cu l ids):=by
 refine ⟨(Ee _).nodup_iff.2 (Mw h _ _),fun id hid=> ?_⟩;obtain ⟨i,m,_,_,hm,rfl⟩:=Mv l _ _ id ((Ee _).subset hid);exact h.placed (List.mem_map_of_mem (At2 hm))
theorem Ag7 {l:List Pn} {above ids:List Id} (h:ClosedOk l above):∀k,ClosedOk l (Br l above ids k):=by
 intro k
 induction k with
 |zero=>exact h
 |succ k ih=>
  cases hy:ids[k]? with
  |none=>
   have:Br l above ids (k+1)=Br l above ids k:=by
    show (match ids[k]? with|some y=>if (plc l y).isSome&& !Bh (Br l above ids k) y then Br l above ids k++[y] else Br l above ids k|none=>Br l above ids k)=_;rw [hy]
   rw [this];exact ih
  |some y=>
   rw [Rv hy]
   split
   ·
    rename_i hc;rw [Au7,Bool.not_eq_true'] at hc;refine ⟨List.nodup_append.2 ⟨ih.1,List.nodup_cons.2 ⟨Au6,Au0⟩,?_⟩,?_⟩
    ·
     intro a ha b hb e;rw [At4] at hb;rw [e,hb] at ha;rw [(Hf _ _).2 ha] at hc;exact absurd hc.2 (by simp)
    ·
     intro id hid
     rcases List.mem_append.1 hid with h1|h1
     · exact ih.2 id h1
     ·
      rw [At4] at h1;rw [h1];exact hc.1
   · exact ih
theorem Ag8 {cards:List Cd} {l:List Pn} (h:Rows cards l) (ids:List Id):ClosedOk l (Fv l ids):=by
 have k:=Ag7 (Ag6 h ids) (ids:=ids) ids.length;exact ⟨(Ee _).nodup_iff.2 k.1,fun id hid=>k.2 id ((Ee _).subset hid)⟩
def J7 (l:List Pn) (w:World) (e:Ending) (w':World):Prop:=∃cs:List Id,Ca cs w e w'/\ClosedOk l cs/\RowW cs
theorem Hv (l:List Id):(Ai l).length=l.length:=(Ee l).length_eq
theorem J8 (base:Nat) (r:RG) (B n c:Nat) (A:Option Addr) (l0:List Int) (w:World) (h:r.own w base) (hn:Hid (l0.length=n)) (hr:Rd w B 1 A n (l0.map Iv)) (hok:∀x∈l0,I64 x):
  Calls zp 26 #[.agg r.cells,.slice A n c] w (J7 r.l w):=by
 have av:=h.few;have bg:=Blk.new w 32 r.cells;have f0:Fr Non w (w.alloc (.cells r.cells 32)):=(Fr.refl Non w).alloc _;have g1:Hid (r.cells[1]? =some (.slice r.lA r.l.length r.lC)):=rfl;have g2:Hid (r.cells[2]? =some (.slice r.iA r.l.length r.iC)):=rfl;have hl:=Bk (P:=zp) w.heap.size 32 underlying32 rfl (cs:=r.cells) Cx;have ka:=lh (fun (w':World) (hf:Fr Non w w')=>Ms base r w' (h.non hf));have ax:Hid (ClosedOk r.l (Ai r.ids)/\RowW (Ai r.ids)):=⟨Hu h.rows,Ol _⟩;have ar:Hid ((Ai r.ids).length=r.l.length):=by show _=_;rw [Hv,Gu]
 have kw:=lh (fun (A':Option Addr) (c':Nat) (ids:List Id) (w':World) (hf:Fr Non w w') (ho:Rd w' w'.heap.size 3 A' ids.length (ids.flatMap Id.cells)) (hle:ids.length<=1000)=>Ag2 base r w'.heap.size ids.length c' A' ids w' (h.non hf) rfl ho (by omega));have al:Hid (∀ids,ClosedOk r.l (Fv r.l ids)/\RowW (Fv r.l ids)):=fun ids=>⟨Ag8 h.rows ids,Ol _⟩;have hid:=lh (fun (p:Nat) (hp:p<r.l.length)=>h.idAt hp)
 have ab:Hid (∀(cs:List Id) w1 e w',Fr Non w w1->Ca cs w1 e w'->ClosedOk r.l cs/\RowW cs->J7 r.l w e w'):=by
  rintro cs w1 e w' hf ⟨A5,c5,h1,h2,h3⟩ ⟨h4,h5⟩;exact ⟨cs,⟨A5,c5,h1,h2.lower hf.size,hf.trans h3 zr⟩,h4,h5⟩
 clear h;unfold SortPost at ka;generalize Ai r.ids=SI at*;generalize r.lA=LA at*;generalize r.lC=LC at*;generalize r.iA=IA at*;generalize r.iC=IC at*;generalize r.cells=CS at*;generalize J7 r.l w=POST at*;generalize r.l=l at*;obtain ⟨N,hN⟩:=Aa l.length;rw [hN.out] at g1 g2 hid av ar
 by_cases hz:n=0\/N=0
 ·
  have c1:=(bg.cell 1).trans g1.out
  have tt:((n:Int)==0)=true\/((n:Int)==0)=false/\((N:Int)==0)=true:=by
   rcases hz with e|e
   · exact .inl (by simp [e])
   ·
    by_cases e2:n=0
    · exact .inl (by simp [e2])
    · exact .inr ⟨by simp;omega,by simp [e]⟩
  rcases tt with t1|⟨t1,t2⟩
  all_goals
   clear kw al hid hr hz;go_enter func26,ntmps26;go_upto_region 1 with (fail)
   generalize w.alloc (.cells CS 32)=w0 at*;go_wp2_with (go_at_call 22;(with_reducible refine (ka.out _ f0).mono ?_);rintro _ w1 ⟨A1,c1,rfl,o1,f1⟩;have hd:=lh (ab.out SI w0 (.returned (.slice A1 l.length c1)) w1 f0 ⟨A1,c1,by rw [ar.out,hN.out],by rw [ar.out,<- hN.out];exact o1,f1⟩ ax.out);clear ka o1 f1 ab ax)
   first|exact hd.out|(go_ret;exact hd.out)
 ·
  have t1:((n:Int)==0)=false:=by simp;omega
  have t2:((N:Int)==0)=false:=by simp;omega
  have c1:=(bg.cell 1).trans g1.out;clear ka ax ar;go_enter func26,ntmps26;go_upto_region 1 with (fail)
  have bn:=f0.size;generalize w.alloc (.cells CS 32)=w0 at*;go_wp2_with fail;clear c1
  go_loopw [5,6] (fun s v wr=>∃(k:Nat) (Ax:Option Addr) (cx:Nat) (xs:List Id),v=.int .i64 (k:Int)/\s=.slice Ax xs.length cx/\k<=4/\k<=n/\Hid (xs.length=k)/\Own wr w0.heap.size 38 3 Ax xs.length cx (xs.flatMap Id.cells)/\Fr Non w0 wr) (fun _ v _=>4-(intOf v).toNat)
  case atStart=>exact ⟨0,none,0,[],rfl,rfl,by omega,by omega,rfl,Own.nil _ _ _ _,Fr.refl _ _⟩
  case round=>
   obtain ⟨k,Ax,cx,xs,rfl,rfl,bj,bk,a3,af,hf⟩:=hrel;have aj:Fr Non w wr:=f0.trans hf zr;have ak:=af.row;have bp:xs.length<=4:=by rw [a3.out];exact bj
   by_cases hlt:k<n/\k<4
   ·
    have i0:decide ((k:Int)<(n:Int))=true:=decide_eq_true (by omega);have bm:decide ((k:Int)<4)=true:=decide_eq_true (by omega);obtain ⟨q,hq⟩:∃q,l0[k]? =some q:=⟨_,As7 (by rw [hn.out];exact hlt.1)⟩;obtain ⟨b,a4,u,rfl,bq,hu,c0⟩:=hr.at hlt.1;rw [At3,hq] at hu;injection hu with hu
    subst hu;replace c0:cI w b (a4+k) q:=c0;have a5:=hok q (At2 hq);obtain ⟨bl,bd⟩:=Ie (n:=q) (m:=(N:Int)) (by omega);obtain ⟨p,hp⟩:∃p:Nat,C6 q (N:Int)=(p:Int):=⟨(C6 q (N:Int)).toNat,by omega⟩;have a6:=lh (fun w'=>Ig q (N:Int) w' a5.1 a5.2 (by omega) (by omega));rw [hp] at a6 bd;obtain ⟨m,b2,aa,hm,rfl,d0,d1,d2⟩:=hid.out p (by omega);have i1:(0:Int)<=k:=by omega
    have i2:(k:Int)<n:=by omega
    have i3:(k:Int).toNat=k:=by omega
    have p1:(0:Int)<=p:=by omega
    have p2:(p:Int)<N:=by omega
    have p3:(p:Int).toNat=p:=by omega
    have L0:cI wr.drew b (a4+k) q:=aj.cell c0 zq;have G0:cS wr.drew w.heap.size 2 (some ⟨b2,aa,none⟩) N IC:=((bg.fr hf zq).cell 2).trans g2.out;have ac:cI wr.drew b2 (aa+p*3) m.id.b:=aj.cell d0 zq;have ad:cI wr.drew b2 (aa+p*3+1) m.id.s:=aj.cell d1 zq;have ae:cU wr.drew b2 (aa+p*3+2) m.id.u:=aj.cell d2 zq;have O0:Own wr.drew w0.heap.size 38 3 Ax xs.length cx (xs.flatMap Id.cells):=af.drew;have H0:Fr Non w0 wr.drew:=hf.drew;have gz:=lh ((bg.cell 2).trans g2.out);clear hid hm al hq a5 bg;generalize m.id=z at*;go_upto_region 7 with (fail)
    clear hf af;refine wp_region_held_drew (S:=fun w'=>cI w' b (a4+k) q/\cS w' w.heap.size 2 (some ⟨b2,aa,none⟩) N IC/\cI w' b2 (aa+p*3) z.b/\cI w' b2 (aa+p*3+1) z.s/\cU w' b2 (aa+p*3+2) z.u) (by kernel_rfl) ⟨L0,G0,ac,ad,ae⟩ (fun _=> ?_);have uu:=aI L0 (aI G0 (aI ac (aI ad ae)));refine tkH 0 uu (h:=tkH 1 uu (h:=tkH 2 uu (h:=tkH 3 uu (h:=tkH 4 uu (h:=tkH 5 uu (h:=tkH 6 uu (h:=tkH 7 uu (h:=tkH 8 uu (h:=tkH 9 uu (h:=?_))))))))));clear uu;simp only [zl];refine oG 10 (fun K hK=> ?_);go_simp;go_wp2_with (go_at_call 39;(with_reducible refine (a6.out _).mono ?_);rintro _ v1 ⟨rfl,ew⟩;have ah:Fr Non wr.drew v1:=ew▸Fr.refl _ _;clear ew;have L1:=ah.cell L0 zq;have G1:=ah.cell G0 zq;have aq:=ah.cell ac zq;have ao:=ah.cell ad zq;have au:=ah.cell ae zq;have O1:=O0.fr ah zr;have H1:=H0.trans ah zr);refine hK.out _ _ ⟨L1,G1,aq,ao,au⟩ (fun hZ=> ?_);clear hZ hK K;try simp only [Ad,zl]
    refine tkH 11 ⟨L1,G1,aq,ao,au⟩ (h:=tkH 12 ⟨L1,G1,aq,ao,au⟩ (h:=?_));simp only [zl];refine oG 13 (fun K hK=> ?_);go_simp;have ai:Fr Non v1 (v1.alloc (.cells z.V 38)):=(Fr.refl _ _).alloc _;have bc:=Blk.new v1 38 z.V;have L2:=ai.cell L1 zq;have G2:=ai.cell G1 zq;have a9:=ai.cell aq zq;have bh:=ai.cell ao zq;have ba:=ai.cell au zq;have O2:=O1.fr ai zr;have H2:=H1.trans ai zr;refine hK.out _ _ ⟨L2,G2,a9,bh,ba⟩ (fun hZ=> ?_);clear hZ hK K;try simp only [Ad,zl]
    generalize v1.alloc (.cells z.V 38)=v2 at*;have ay:=H2.size;refine oG 14 (fun K hK=> ?_);refine Ek (base:=w0.heap.size) (.tmp 28) (.tmp 41) 28 rfl rfl rfl Da O2 (Rd.blk (n:=1) (size:=3) bc rfl) (by simp [Value.oneCell']) (by omega) (by omega) ay ?_;intro A2 a7 w4 a0 bi be;have bf:∀j,Ac Ax=some j->w0.heap.size<=j:=fun j e=>(ak j e).1;have fz:Fr Non w0 w4:=H2.trans bi (fun j hj e=>by have h5:=bf j e;omega);have ap:Fr Non w w4:=f0.trans fz zr;have L3:=ap.cell c0 zq;have G3:=fz.cell gz.out zq;have a1:=ap.cell d0 zq;have a2:=ap.cell d1 zq;have aw:=ap.cell d2 zq;refine hK.out _ _ ⟨L3,G3,a1,a2,aw⟩ (fun hZ=> ?_);clear hZ hK K;try simp only [Ad,zl]
    refine tkH 15 ⟨L3,G3,a1,a2,aw⟩ (h:=?_);simp only [zl];refine oD ?_;go_simp
    have az:Own w4 w0.heap.size 38 3 A2 (xs++[z]).length a7 ((xs++[z]).flatMap Id.cells):=by
     rw [As8,At9];exact a0
    have bb:Hid ((xs++[z]).length=k+1):=by show _=_;rw [As8,a3.out];rfl
    clear L3 G3 a1 a2 aw c0 d0 d1 d2 gz;go_wp2_with fail;go_roundw
    case rel=>exact ⟨k+1,A2,a7,xs++[z],by go_num,by rw [As8];rfl,by omega,by omega,bb,az,fz⟩
    case measure=>simp [intOf];omega
   ·
    have kk:=lh (kw.out Ax cx xs wr aj af.rd (by omega));have a8:=lh (al.out xs);have hd:Hid (∀e w',Ca (Fv l xs) wr e w'->POST e w'):=fun e w' h=>ab.out _ wr e w' aj h a8.out
    have t3:(decide ((k:Int)<(n:Int))=true/\decide ((k:Int)<4)=false)\/decide ((k:Int)<(n:Int))=false:=by
     by_cases e:k<n
     · exact .inl ⟨decide_eq_true (by omega),decide_eq_false (by omega)⟩
     · exact .inr (decide_eq_false (by omega))
    clear kw al ab a8 hid a3 af ak;generalize Fv l xs=WL at*;unfold Ca at kk hd;have bo:=bg.fr hf zq
    rcases t3 with ⟨t3,t4⟩|t3
    all_goals
     go_wp2_with (go_at_call 80;(with_reducible refine (kk.out).mono ?_);rintro _ w7 ⟨A5,c5,rfl,h5,h6⟩;have ag:=lh (hd.out _ _ ⟨A5,c5,rfl,h5,h6⟩);clear kk hd h5 h6)
     all_goals first|exact ag.out|(go_ret;exact ag.out)
theorem plcI_neg {l:List Pn} {id:Id}:Au l id<0<->(plc l id).isNone=true:=by
 unfold Au
 cases plc l id with
 |none=>simp
 |some p=>simp
end Oq
namespace Oq
attribute [local go_sem] At6 At7
theorem Mx {l:List Nat} {k q:Nat} {x:Nat} (h:l[k]? =some x):(l.take (k+1)).contains q=((l.take k).contains q||decide (q=x)):=by
 rw [Dh h,Bool.eq_iff_iff,Bool.or_eq_true,Au1,Au1,List.mem_append,At4,decide_eq_true_eq]
theorem Ag9 (B n c:Nat) (A:Option Addr) (l:List Nat) (x:Nat) (w:World) (hn:Hid (l.length=n)) (hr:Rd w B 1 A n (l.map Qv)) (hnm:n<=1000000):
  Calls zp 40 #[.slice A n c,.int .i64 (x:Int)] w fun e w'=>e=.returned (.bool (l.contains x))/\w=w':=by
 go_enter func40,ntmps40;go_wp2
 go_loopw [5] (fun v wr=>∃k:Nat,v=.int .i64 (k:Int)/\k<=n/\Hid ((l.take k).contains x=false)/\w=wr) (fun v _=>n-(intOf v).toNat)
 case atStart=>exact ⟨0,rfl,by omega,rfl,rfl⟩
 case round=>
  obtain ⟨k,rfl,hk,hh,rfl⟩:=hrel
  by_cases hlt:k<n
  ·
   obtain ⟨y,hy⟩:∃y,l[k]? =some y:=⟨_,As7 (by rw [hn.out];exact hlt)⟩;obtain ⟨b,off,u,rfl,hbB,hu,c0⟩:=hr.at hlt;rw [At3,hy] at hu;injection hu with hu
   subst hu;have c0':cI w b (off+k) (y:Int):=c0;clear c0;have hsn:=lh (Mx (q:=x) hy);have i1:(0:Int)<=k:=by omega
   have i2:(k:Int)<n:=by omega
   have i3:(k:Int).toNat=k:=by omega
   by_cases he:y=x
   ·
    have hb:((y:Int)==(x:Int))=true:=C9 (by omega)
    have hfin:Hid (l.contains x=true):=by
     show _=_;rw [Au1];exact he▸At2 hy
    clear hy;go_wp2
    go_ret
    exact ⟨by rw [hfin.out];rfl,rfl⟩
   ·
    have hb:((y:Int)==(x:Int))=false:=C5 (by omega)
    have hfin:Hid ((l.take (k+1)).contains x=false):=by
     show _=_;rw [hsn.out,hh.out,decide_eq_false (fun e=>he e.symm)];rfl
    clear hy;go_wp2;go_roundw
    case rel=>exact ⟨k+1,by go_num,by omega,hfin,by first|rfl|trivial⟩
    case measure=>first|(simp [intOf];done)|(simp [intOf];omega)
  ·
   obtain rfl:k=n:=by omega
   have hfin:Hid (l.contains x=false):=by have h:=hh.out;rw [At5 (by rw [hn.out];omega)] at h;exact h
   go_wp2
   go_ret
   exact ⟨by rw [hfin.out];rfl,rfl⟩
def C2 (n:Nat) (s:Nat->Bool):List Value:=(Bz n s).map Value.bool
theorem J9 {n i:Nat} (s:Nat->Bool) (h:i<n):(C2 n s)[i]? =some (.bool (s i)):=by
 unfold C2;rw [At3,Pz h];rfl
theorem Ah0 {n i:Nat} (s:Nat->Bool):(C2 n s).set i (.bool true)=C2 n (fun q=>s q||decide (q=i)):=by
 apply List.ext_getElem?;intro j
 by_cases hj:j<n
 ·
  rw [J9 _ hj,List.getElem?_set]
  split
  ·
   rename_i e;subst e;rw [if_pos (by simp [C2,Gq];exact hj)];simp
  ·
   rename_i e;rw [J9 _ hj,decide_eq_false (fun h=>e h.symm),Au2]
 · rw [Au8 (by simp [C2,Gq];omega),Au8 (by simp [C2,Gq];omega)]
theorem Ah1 (n:Nat):C2 n (fun _=>false)=(madeCells (Value.bool false).cells (n*1)).toList:=by
 rw [Ag3 (Value.bool false).cells (.bool false) (n*1) (by decide) (fun i hi=>by have:i=0:=by {have:(Value.bool false).cells.size=1:=rfl;omega};subst this;rfl),Nat.mul_one];unfold C2 Bz;rw [List.map_map,Au4];exact ⟨by simp,fun b hb=>by obtain ⟨x,_,rfl⟩:=List.mem_map.1 hb;rfl⟩
theorem Ka:SlT zp 108 4 (.bool false) 1 1:=⟨underlying108,by kernel_rfl,rfl,by decide⟩
def Kb (n:Nat) (s:Nat->Bool) (w:World) (e:Ending) (w':World):Prop:=
 ∃A c,e=.returned (.slice A n c)/\Own w' w.heap.size 4 1 A n c (C2 n s)/\Fr Non w w'
structure C3 (w wr:World) (CS:Array Value) (n:Nat) (s:Nat->Bool):Prop where
 bg:Blk wr w.heap.size 32 CS
 own:Own wr (w.heap.size+1) 4 1 (some ⟨w.heap.size+1,0,none⟩) n n (C2 n s)
 fr:Fr Non w wr
theorem C3.set {w wr:World} {CS:Array Value} {n:Nat} {s:Nat->Bool} (h:C3 w wr CS n s) {i:Nat} (hi:i<n):
  w.heap.size+1<wr.heap.size/\wr.cell? ⟨w.heap.size+1,i,none⟩=some (.bool (s i))/\wr.frozen? ⟨w.heap.size+1,i,none⟩=false/\C3 w (wr.setCell ⟨w.heap.size+1,i,none⟩ (.bool true)) CS n (fun q=>s q||decide (q=i)):=by
 obtain ⟨g,e,_,h2,h3,h4,h5⟩:=h.own.setAt (j:=i) (by omega) (.bool true);injection e with e
 injection e with e
 subst e;exact ⟨h2,h3 _ (J9 s hi),h4,h.bg.far (p:=⟨_,_,_⟩) (fun e=>by have e':w.heap.size=w.heap.size+1:=e;omega) _,by rw [Ah0] at h5;exact h5,h.fr.setNew (by omega) _ _⟩
theorem C3.is {w wr:World} {CS:Array Value} {n:Nat} {s t:Nat->Bool} (h:C3 w wr CS n s) (e:∀q,s q=t q):C3 w wr CS n t:=by
 have:s=t:=funext e;subst this;exact h
theorem C3.post {w wr:World} {CS:Array Value} {n:Nat} {s:Nat->Bool} (h:C3 w wr CS n s):Kb n s w (.returned (.slice (some ⟨w.heap.size+1,0,none⟩) n n)) wr:=⟨_,_,rfl,h.own.lower (by omega),h.fr⟩
theorem Rx (base:Nat) (r:RG) (B n c:Nat) (A:Option Addr) (up:List Nat) (w:World) (h:r.own w base) (hn:Hid (up.length=n)) (hr:Rd w B 1 A n (up.map Qv)) (hnm:n<=1000000):
  Calls zp 61 #[.agg r.cells,.slice A n c] w (Kb r.l.length (Di (Dr r.l) up r.l.length (fun _=>false)) w):=by
 have a6:=h.few;have bg:=Blk.new w 32 r.cells;have f0:Fr Non w (w.alloc (.cells r.cells 32)):=(Fr.refl Non w).alloc _;have a8:(w.alloc (.cells r.cells 32)).heap.size=w.heap.size+1:=At1 _ _;have g1:Hid (r.cells[1]? =some (.slice r.lA r.l.length r.lC)):=rfl;have g3:Hid (r.cells[3]? =some (.slice r.uA r.l.length r.uC)):=rfl;have al:=lh (fun (x:Nat) (w':World) (hf:Fr Non w w')=>Ag9 B n c A up x w' hn (hr.fr hf zr) hnm)
 have ap:Hid (∀i,i<r.l.length->∃(us:List Nat) (A2:Option Addr) (c2 b ao:Nat),r.uA=some ⟨b,ao,none⟩/\cS w b (ao+i) A2 us.length c2/\Dr r.l i=us/\us.length<=1000/\Rd w w.heap.size 1 A2 us.length (us.map Qv)/\∀q∈us,q<r.l.length):=by
  intro i hi;obtain ⟨x,b,ao,h1,h2,h3,_,h4⟩:=h.uAt (As7 hi);have bc:=h.rows.ok i _ (As7 hi);refine ⟨x.xs,x.A,x.c,b,ao,h3,h4,by rw [h1];exact Lz (As7 hi),?_,h2.sl.rd,?_⟩
  ·
   rw [h1,Hm];exact (h.ok _ (List.getElem_mem hi)).1.past.1
  ·
   rw [h1];exact Ly bc.placed
 clear h hr;generalize Dr r.l=US at*;generalize r.l.length=N at*;generalize r.uA=UA at*;generalize r.uC=UC at*;generalize r.lA=LA at*;generalize r.lC=LC at*;generalize r.cells=CS at*;have c1:cS (w.alloc (.cells CS 32)) w.heap.size 1 LA N LC:=(bg.cell 1).trans g1.out;go_enter func61,ntmps61;go_wp2_with (first|(refine Ag5 rfl (.tmp 10) 108 rfl Ka (n:=N) rfl rfl (by omega) (by omega) ?_;intro w1 aj au;have a0:=bg.fr au zq;have be:=au.size;have c1:cS w1 w.heap.size 1 LA N LC:=(a0.cell 1).trans g1.out));have a2:C3 w w1 CS N (fun _=>false):=⟨a0,by rw [Ah1,<- a8];exact aj,f0.trans au zr⟩;clear aj au a0 bg f0
 go_loopw [6] (fun v wr=>∃(k:Nat) (s:Nat->Bool),v=.int .i64 ((k:Int)-1)/\k<=N/\Hid (Di US up k s=Di US up N (fun _=>false))/\C3 w wr CS N s) (fun v _=>(intOf v+1).toNat)
 case atStart=>exact ⟨N,fun _=>false,by go_num,by omega,rfl,a2⟩
 case round=>
  obtain ⟨k,s,rfl,hk,az,st⟩:=hrel;clear a2 c1
  rcases Nat.eq_zero_or_pos k with h0|h0
  ·
   subst h0;have ak:=st.post;have hs:s=Di US up N (fun _=>false):=az.out;rw [hs] at ak;have e0:((((0:Nat):Int))-1)= -1:=by omega
   rw [e0];go_wp2
   go_ret
   exact ak
  ·
   obtain ⟨i,rfl⟩:∃i,k=i+1:=⟨k-1,by omega⟩;have ei:(((i+1:Nat):Int)-1)=(i:Int):=by omega
   rw [ei];have i1:(0:Int)<=i:=by omega
   have i2:(i:Int)<N:=by omega
   have i3:(i:Int).toNat=i:=by omega
   obtain ⟨us,A2,c2,b,ao,rfl,cu,a1,bb,aw,a3⟩:=ap.out i (by omega);have ab:Hid (Di US up i (Dq US up i s)=Di US up N (fun _=>false)):=az.out;obtain ⟨hz,ci,fz,aq⟩:=st.set (i:=i) (by omega);obtain ⟨M,hM⟩:=Aa us.length;rw [hM.out] at aw cu bb;have ag:∀q,Db up i s q=(s q||(decide (q=i)&&up.contains i)):=fun q=>rfl;clear az ap
   by_cases hc:up.contains i=true
   ·
    have ac:C3 w (wr.setCell ⟨w.heap.size+1,i,none⟩ (.bool true)) CS N (Db up i s):=aq.is (fun q=>by rw [ag,hc,Bool.and_true]);have ar:Db up i s i=true:=by rw [ag,hc,decide_eq_true rfl];simp
    have c3:(wr.setCell ⟨w.heap.size+1,i,none⟩ (.bool true)).cell? ⟨w.heap.size+1,i,none⟩=some (.bool true):=by
     have:=(ac.set (i:=i) (by omega)).2.1;rwa [ar] at this
    have kh:=lh (al.out i wr st.fr);rw [hc] at kh;have af:=lh ac;clear aq ag ac;go_wp2_with (first|(go_at_call 40;(with_reducible refine (kh.out).mono ?_);rintro _ w5 ⟨rfl,rfl⟩));have av:us.length=us.length:=rfl;go_wp2
    go_loopw [7] (fun v wi=>∃j:Nat,v=.int .i64 (j:Int)/\j<=M/\C3 w wi CS N (fun q=>Db up i s q||(us.take j).contains q)) (fun v _=>M-(intOf v).toNat)
    case atStart=>exact ⟨0,rfl,by omega,af.out.is (fun q=>by rw [List.take_zero];simp)⟩
    case round=>
     obtain ⟨j,rfl,hj,aa⟩:=hrel;have d3:=(aa.bg.cell 3).trans g3.out;have a5:=aa.fr.cell cu zq
     by_cases hjm:j<M
     ·
      obtain ⟨y,hy⟩:∃y,us[j]? =some y:=⟨_,As7 (by rw [hM.out];exact hjm)⟩;have ay:y<N:=a3 y (At2 hy);obtain ⟨b2,ae,u,ax,a4,hu,cy⟩:=aw.at hjm;rw [At3,hy] at hu;injection hu with hu
      subst hu;subst ax;have ba:cI wr b2 (ae+j) (y:Int):=aa.fr.cell cy zq;obtain ⟨bd,a7,a9,ac⟩:=aa.set (i:=y) ay;have ad:Hid (C3 w (wr.setCell ⟨w.heap.size+1,y,none⟩ (.bool true)) CS N (fun q=>Db up i s q||(us.take (j+1)).contains q)):=ac.is (fun q=>by rw [Mx hy,Bool.or_assoc]);clear hy ac cy;have j1:(0:Int)<=j:=by omega
      have j2:(j:Int)<M:=by omega
      have j3:(j:Int).toNat=j:=by omega
      have y1:(0:Int)<=y:=by omega
      have y2:(y:Int)<N:=by omega
      have y3:(y:Int).toNat=y:=by omega
      go_wp2;go_roundw
      case rel=>exact ⟨j+1,by go_num,by omega,ad.out⟩
      case measure=>first|(simp [intOf];done)|(simp [intOf];omega)
     ·
      obtain rfl:j=M:=by omega
      have ad:Hid (C3 w wr CS N (Dq US up i s)):=aa.is (fun q=>by rw [At5 (by rw [hM.out];omega),<- a1];unfold Dq;rw [ar,Bool.true_and]);clear aa;go_wp2;go_roundw
      case rel=>exact ⟨i,Dq US up i s,by first|go_num|(congr 1;done)|(congr 1;omega),by omega,ab,ad.out⟩
      case measure=>first|(simp [intOf];done)|(simp [intOf];omega)
   ·
    have hc:=At0 _▸hc;have ai:∀q,Db up i s q=s q:=fun q=>by rw [ag,hc,Bool.and_false,Au2]
    have kh:=lh (al.out i wr st.fr);rw [hc] at kh
    by_cases ah:s i=true
    ·
     have ar:Db up i s i=true:=by rw [ai];exact ah
     have ci:wr.cell? ⟨w.heap.size+1,i,none⟩=some (.bool true):=by rw [<- ah];exact ci
     have af:=lh (st.is (fun q=>(ai q).symm));clear aq ag ai;go_wp2_with (first|(go_at_call 40;(with_reducible refine (kh.out).mono ?_);rintro _ w5 ⟨rfl,rfl⟩));have av:us.length=us.length:=rfl;go_wp2
     go_loopw [7] (fun v wi=>∃j:Nat,v=.int .i64 (j:Int)/\j<=M/\C3 w wi CS N (fun q=>Db up i s q||(us.take j).contains q)) (fun v _=>M-(intOf v).toNat)
     case atStart=>exact ⟨0,rfl,by omega,af.out.is (fun q=>by rw [List.take_zero];simp)⟩
     case round=>
      obtain ⟨j,rfl,hj,aa⟩:=hrel;have d3:=(aa.bg.cell 3).trans g3.out;have a5:=aa.fr.cell cu zq
      by_cases hjm:j<M
      ·
       obtain ⟨y,hy⟩:∃y,us[j]? =some y:=⟨_,As7 (by rw [hM.out];exact hjm)⟩;have ay:y<N:=a3 y (At2 hy);obtain ⟨b2,ae,u,ax,a4,hu,cy⟩:=aw.at hjm;rw [At3,hy] at hu;injection hu with hu
       subst hu;subst ax;have ba:cI wr b2 (ae+j) (y:Int):=aa.fr.cell cy zq;obtain ⟨bd,a7,a9,ac⟩:=aa.set (i:=y) ay;have ad:Hid (C3 w (wr.setCell ⟨w.heap.size+1,y,none⟩ (.bool true)) CS N (fun q=>Db up i s q||(us.take (j+1)).contains q)):=ac.is (fun q=>by rw [Mx hy,Bool.or_assoc]);clear hy ac cy;have j1:(0:Int)<=j:=by omega
       have j2:(j:Int)<M:=by omega
       have j3:(j:Int).toNat=j:=by omega
       have y1:(0:Int)<=y:=by omega
       have y2:(y:Int)<N:=by omega
       have y3:(y:Int).toNat=y:=by omega
       go_wp2;go_roundw
       case rel=>exact ⟨j+1,by go_num,by omega,ad.out⟩
       case measure=>first|(simp [intOf];done)|(simp [intOf];omega)
      ·
       obtain rfl:j=M:=by omega
       have ad:Hid (C3 w wr CS N (Dq US up i s)):=aa.is (fun q=>by rw [At5 (by rw [hM.out];omega),<- a1];unfold Dq;rw [ar,Bool.true_and]);clear aa;go_wp2;go_roundw
       case rel=>exact ⟨i,Dq US up i s,by first|go_num|(congr 1;done)|(congr 1;omega),by omega,ab,ad.out⟩
       case measure=>first|(simp [intOf];done)|(simp [intOf];omega)
    ·
     have ah:=At0 _▸ah;have ci:wr.cell? ⟨w.heap.size+1,i,none⟩=some (.bool false):=by rw [<- ah];exact ci
     have ad:Hid (C3 w wr CS N (Dq US up i s)):=st.is (fun q=>by unfold Dq;rw [ai,ai,ah,Bool.false_and,Au2]);clear aq ag ai st;go_wp2_with (first|(go_at_call 40;(with_reducible refine (kh.out).mono ?_);rintro _ w5 ⟨rfl,rfl⟩));go_roundw
     case rel=>exact ⟨i,Dq US up i s,by first|go_num|(congr 1;done)|(congr 1;omega),by omega,ab,ad.out⟩
     case measure=>first|(simp [intOf];done)|(simp [intOf];omega)
theorem Ah2 (base:Nat) (r:RG) (x:OpL) (B c:Nat) (A:Option Addr) (p:Nat->Bool) (w:World) (h:r.own w base) (h1:1<=x.sq) (h2:x.sq<=9223372036854775807) (hr:Rd w B 1 A r.l.length (C2 r.l.length p)):
  Calls zp 60 #[.agg r.cells,.agg x.cells,.slice A r.l.length c] w (Ae (!Bm r.l p x.op) w):=by
 have ap:=h.few;have bg:=(Blk.new w 32 r.cells).alloc (.cells x.cells 44);have bx:=Blk.new (w.alloc (.cells r.cells 32)) 44 x.cells;rw [At1] at bx;have f0:Fr Non w ((w.alloc (.cells r.cells 32)).alloc (.cells x.cells 44)):=((Fr.refl Non w).alloc _).alloc _;have g1:r.cells[1]? =some (.slice r.lA r.l.length r.lC):=rfl;have c1:=(bg.cell 1).trans g1;have x0:cI ((w.alloc (.cells r.cells 32)).alloc (.cells x.cells 44)) (w.heap.size+1) 0 x.by_:=bx.cell 0;have x1:cI ((w.alloc (.cells r.cells 32)).alloc (.cells x.cells 44)) (w.heap.size+1) 1 x.sq:=bx.cell 1
 have ak:Hid (∀k,k<r.l.length->∃(m:Pn) (b ao:Nat),r.l[k]? =some m/\r.lA=some ⟨b,ao,none⟩/\cI w b (ao+k*27) m.o.by_/\cI w b (ao+k*27+1) m.o.sq):=by
  intro k hk;obtain ⟨y,b,ao,_,h1,_,h3,_,h4⟩:=h.xAt (As7 hk);refine ⟨_,b,ao,As7 hk,h3,?_,?_⟩
  · rw [<- h1];exact h4 0 (by omega) _ rfl
  · rw [<- h1];exact h4 1 (by omega) _ rfl
 have aj:Hid (∀k m,r.l[k]? =some m->(m.o.by_==x.by_)=true->p k=true->x.sq<=m.o.sq->(!Bm r.l p x.op)=false):=fun k m hm hb hp hs=>by
  rw [Xh (o:=x.op) hm (beq_iff_eq.1 hb) hp hs];rfl
 have ae:Hid ((∀k m,k<r.l.length->r.l[k]? =some m->m.o.by_=x.by_->p k=true->m.o.sq<x.sq)->(!Bm r.l p x.op)=((x.sq==1)||Ck r.l p x.by_ x.sq r.l.length)):=fun hh=>by
  rw [Xi (o:=x.op) h1 (fun k m hm=>hh k m (List.getElem?_eq_some_iff.1 hm).1 hm),Bool.not_not];rfl
 have al:=hr;clear h g1 bg bx;generalize (!Bm r.l p x.op)=R at*;generalize r.l=l at*;generalize hN:l.length=N at*;generalize r.lA=LA at*;generalize r.lC=LC at*;generalize r.cells=CS at*;generalize x.cells=XS at*;generalize x.by_=d at*;generalize x.sq=sq at*;clear hr hN;have ew:IntKind.i64.wrap (sq-1)=sq-1:=IntWalk.i64_in _ (by omega);go_enter func60,ntmps60;go_wp2;generalize hw0:(w.alloc (.cells CS 32)).alloc (.cells XS 44)=w0 at*;clear hw0
 go_loopw [7,8] (fun o v wr=>∃(k:Nat) (ai:Bool),o=.bool ai/\v=.int .i64 (k:Int)/\k<=N/\Hid (∀(j:Nat) (m:Pn),j<k->l[j]? =some m->m.o.by_=d->p j=true->m.o.sq<sq)/\Hid (ai=Ck l p d sq k)/\Fr Non w0 wr) (fun _ v _=>N-(intOf v).toNat)
 case atStart=>exact ⟨0,false,rfl,rfl,by omega,fun j m hj=>absurd hj (Nat.not_lt_zero _),rfl,Fr.refl _ _⟩
 case round=>
  obtain ⟨k,ai,rfl,rfl,hk,aa,af,hf⟩:=hrel;have d1:=hf.cell c1 zq;have y0:=hf.cell x0 zq;have y1:=hf.cell x1 zq;have ah:Fr Non w wr:=f0.trans hf zr;clear c1 x0 x1
  by_cases hlt:k<N
  ·
   obtain ⟨m,b,ao,hm,rfl,m0,m1⟩:=ak.out k hlt;have m0:=ah.cell m0 zq;have m1:=ah.cell m1 zq;obtain ⟨b3,aq,u,rfl,ar,hu,cp⟩:=al.at hlt;rw [J9 p hlt] at hu;injection hu with hu
   subst hu;have cp:=ah.cell cp zq;have ab:=lh (Rj (p:=p) (d:=d) (s:=sq) hm);have i1:(0:Int)<=k:=by omega
   have i2:(k:Int)<N:=by omega
   have i3:(k:Int).toNat=k:=by omega
   have ac:Hid ((m.o.by_=d->p k=true->m.o.sq<sq)->∀(j:Nat) (n:Pn),j<k+1->l[j]? =some n->n.o.by_=d->p j=true->n.o.sq<sq):=by
    intro hh j n hj hn
    rcases Nat.lt_or_ge j k with h1|h1
    · exact aa.out j n h1 hn
    ·
     have e:j=k:=by omega
     subst e;rw [hm] at hn;injection hn with hn
     subst hn;exact hh
   have ag:=lh (aj.out k m hm);clear hm ak aj aa
   by_cases hp:p k=true
   ·
    rw [hp] at cp
    by_cases hb:m.o.by_=d
    ·
     have f1:(m.o.by_ !=d)=false:=by simp [hb]
     by_cases hs:sq<=m.o.sq
     ·
      have hR:Hid (R=false):=ag.out (C9 hb) hp hs;have f2:decide (m.o.sq>=sq)=true:=decide_eq_true hs;have f3:decide (sq<=m.o.sq)=true:=decide_eq_true hs;clear ac ab af ag ae al;generalize m.o.by_=mb at*;generalize m.o.sq=ms at*;go_wp2
      go_quiet (fail)
      go_wp2
      go_quiet (fail)
      go_wp2
      go_ret
      exact ⟨by rw [hR.out];rfl,by first|exact ah.drewN _|exact (ah.drewN _).drewN _⟩
     ·
      have f2:decide (m.o.sq>=sq)=false:=decide_eq_false hs;have f3:decide (sq<=m.o.sq)=false:=decide_eq_false hs;have aa:=lh (ac.out (fun _ _=>Int.not_le.1 hs))
      have ad:Hid ((ai||(m.o.sq==sq-1))=Ck l p d sq (k+1)):=by
       show _=_;rw [ab.out,af.out,hp,C9 hb];rfl
      clear ac ab af ag ae al;generalize m.o.by_=mb at*;generalize m.o.sq=ms at*
      cases ai with
      |true=>
       go_wp2
       go_quiet (fail)
       go_wp2
       go_quiet (fail)
       go_wp2
       go_quiet (fail)
       go_wp2;go_roundw
       case rel=>exact ⟨k+1,_,rfl,by go_num,by omega,aa.out,ad,hf.drewN _⟩
       case measure=>first|(simp [intOf];done)|(simp [intOf];omega)
      |false=>
       generalize hq:(ms==sq-1)=q at*;go_wp2
       go_quiet (fail)
       go_wp2
       go_quiet (fail)
       go_wp2
       go_quiet (fail)
       go_wp2;go_roundw
       case rel=>exact ⟨k+1,_,rfl,by go_num,by omega,aa.out,ad,hf.drewN _⟩
       case measure=>first|(simp [intOf];done)|(simp [intOf];omega)
    ·
     have f1:(m.o.by_ !=d)=true:=by simp [hb]
     have aa:=lh (ac.out (fun h=>absurd h hb))
     have ad:Hid (ai=Ck l p d sq (k+1)):=by
      show _=_;rw [ab.out,af.out,C5 hb];simp
     clear ac ab af ag ae al;generalize m.o.by_=mb at*;generalize m.o.sq=ms at*;go_wp2
     go_quiet (fail)
     go_wp2;go_roundw
     case rel=>exact ⟨k+1,_,rfl,by go_num,by omega,aa.out,ad,hf.drewN _⟩
     case measure=>first|(simp [intOf];done)|(simp [intOf];omega)
   ·
    have hp:=At0 _▸hp;rw [hp] at cp;have aa:=lh (ac.out (fun _ h=>absurd h (by rw [hp];simp)))
    have ad:Hid (ai=Ck l p d sq (k+1)):=by
     show _=_;rw [ab.out,af.out,hp];simp
    clear ac ab af ag ae al;generalize m.o.by_=mb at*;generalize m.o.sq=ms at*;go_wp2
    go_quiet (fail)
    go_wp2;go_roundw
    case rel=>exact ⟨k+1,_,rfl,by go_num,by omega,aa.out,ad,hf.drewN _⟩
    case measure=>first|(simp [intOf];done)|(simp [intOf];omega)
  ·
   obtain rfl:k=N:=by omega
   have hR:Hid (R=((sq==1)||ai)):=by
    show _=_;rw [af.out];exact ae.out aa.out
   clear ae aa af aj ak al
   by_cases hs:sq=1
   ·
    have f1:(sq==1)=true:=C9 hs;rw [f1] at hR;clear hs;go_wp2
    go_ret
    exact ⟨by rw [hR.out];rfl,ah⟩
   ·
    have f1:(sq==1)=false:=C5 hs;rw [f1] at hR;clear hs;go_wp2
    go_ret
    exact ⟨by rw [hR.out];rfl,ah⟩
theorem Ah3 (base:Nat) (r:RG) (d:Int) (w:World) (h:r.own w base):Calls zp 58 #[.agg r.cells,.int .i64 d] w (Ey ((Cm r.cards d).getD Cd.zero) (Cm r.cards d).isSome w):=by
 have hr:=h.cards.sl.rd;have hn:=h.cfew;have g0:r.cells[0]? =some (.slice r.cA r.cards.length r.cC):=rfl;have ab:Hid (Cm r.cards d=r.cards.find? (fun c=>c.d==d)):=rfl;generalize Cm r.cards d=R at*;clear h;generalize r.cells=CS at*;generalize r.cA=CA at*;generalize r.cC=CC at*;generalize hl:r.cards=l at*;clear hl;obtain ⟨n,ac⟩:=Aa l.length;rw [ac.out] at hr g0 hn;have f0:Fr Non w ((w.alloc (.cells CS 32)).alloc (.cells zC 104)):=((Fr.refl Non w).alloc _).alloc _;have bg:=(Blk.new w 32 CS).alloc (.cells zC 104);have b0:=Blk.new (w.alloc (.cells CS 32)) 104 zC;rw [At1] at b0;have c0:=(bg.cell 0).trans g0;replace hr:=hr.fr f0 zr;clear bg g0;go_enter func58,ntmps58;go_upto_region 1 with (fail)
 generalize (w.alloc (.cells CS 32)).alloc (.cells zC 104)=w0 at*;go_wp2_with fail
 go_loopw [5,6] (fun r v wr=>∃k:Nat,r=.bool false/\v=.int .i64 (k:Int)/\k<=n/\Hid ((l.take k).find? (fun c=>c.d==d)=none)/\Fr Non w0 wr) (fun _ v _=>n-(intOf v).toNat)
 case atStart=>exact ⟨0,rfl,rfl,by omega,rfl,Fr.refl _ _⟩
 case round=>
  obtain ⟨k,rfl,rfl,hk,hh,hf⟩:=hrel;have b1:=b0.fr hf zq;have f1:=f0.trans hf zr;replace c0:=hf.cell c0 zq
  by_cases hlt:k<n
  ·
   have i1:(0:Int)<=k:=by omega
   have i2:(k:Int)<n:=by omega
   have i3:(k:Int).toNat=k:=by omega
   obtain ⟨c,hc⟩:∃c,l[k]? =some c:=⟨_,As7 (by rw [ac.out];exact hlt)⟩;obtain ⟨b,ad,hA,ag,aa⟩:=E8 (f:=Cd.cells) (fun _=>rfl) (by omega) (hr.fr hf zr) hc;have d0:cI wr b (ad+k*5) c.d:=aa 0 (by omega) _ rfl;have d1:cI wr b (ad+k*5+1) c.m:=aa 1 (by omega) _ rfl;have d2:cU wr b (ad+k*5+2) c.l:=aa 2 (by omega) _ rfl;have d3:cU wr b (ad+k*5+3) c.k:=aa 3 (by omega) _ rfl;have d4:cU wr b (ad+k*5+4) c.s:=aa 4 (by omega) _ rfl;clear aa ag;subst hA
   rcases zb (c.d==d) with hcd|hcd
   ·
    have hR:Hid (R=some c):=by
     show _=_;rw [ab.out,<- List.take_append_drop k l,Au9,hh.out,List.drop_eq_getElem_cons (by rw [ac.out];exact hlt)];rw [As7 (by rw [ac.out];exact hlt)] at hc;rw [Option.some.inj hc];simp [hcd]
    have af:Hid (∀wz,Fr (One (w.heap.size+1)) wr wz->Ey (R.getD Cd.zero) R.isSome w (.returned (.tuple #[.agg #[.int .i64 c.d,.int .i64 c.m,.int .u64 (c.l:Int),.int .u64 (c.k:Int),.int .u64 (c.s:Int)],.bool true])) wz):=by
     intro wz hz;refine ⟨?_,f1.trans hz (fun k hk e=>absurd hk (by have e':k=w.heap.size+1:=e;omega))⟩;rw [hR.out];rfl
    clear ab hc hh f1;generalize R.getD Cd.zero=RC at*;generalize R.isSome=RS at*;have e0:cI wr (w.heap.size+1) 0 0:=b1.cell 0;have z0:wr.frozen? ⟨w.heap.size+1,0,none⟩=false:=b1.frozen 0;have e1:cI wr (w.heap.size+1) 1 0:=b1.cell 1;have z1:wr.frozen? ⟨w.heap.size+1,1,none⟩=false:=b1.frozen 1;have e2:wr.cell? ⟨w.heap.size+1,2,none⟩=some (.int .u64 0):=b1.cell 2;have z2:wr.frozen? ⟨w.heap.size+1,2,none⟩=false:=b1.frozen 2;have e3:wr.cell? ⟨w.heap.size+1,3,none⟩=some (.int .u64 0):=b1.cell 3;have z3:wr.frozen? ⟨w.heap.size+1,3,none⟩=false:=b1.frozen 3;have e4:wr.cell? ⟨w.heap.size+1,4,none⟩=some (.int .u64 0):=b1.cell 4;have z4:wr.frozen? ⟨w.heap.size+1,4,none⟩=false:=b1.frozen 4;have ae:=(((((b1.set 0 (.int .i64 c.d)).set 1 (.int .i64 c.m)).set 2 (.int .u64 (c.l:Int))).set 3 (.int .u64 (c.k:Int))).set 4 (.int .u64 (c.s:Int)));have fz:=((((((Fr.refl (One (w.heap.size+1)) wr).setCell (p:=⟨w.heap.size+1,0,none⟩) (fun _=>rfl) (.int .i64 c.d)).setCell (p:=⟨w.heap.size+1,1,none⟩) (fun _=>rfl) (.int .i64 c.m)).setCell (p:=⟨w.heap.size+1,2,none⟩) (fun _=>rfl) (.int .u64 (c.l:Int))).setCell (p:=⟨w.heap.size+1,3,none⟩) (fun _=>rfl) (.int .u64 (c.k:Int))).setCell (p:=⟨w.heap.size+1,4,none⟩) (fun _=>rfl) (.int .u64 (c.s:Int)));clear b1;go_wp2_with fail
    (try simp only [Exit.inBlock,Exit.then])
    refine Fa (t:=104) rfl rfl ae rfl underlying104 (by kernel_rfl) rfl ?_;exact af.out _ fz
   ·
    have ah:Hid ((l.take (k+1)).find? (fun c=>c.d==d)=none):=by
     show _=_;rw [List.take_add_one,Au9,hh.out,hc];simp [hcd]
    clear ab hc hh b1;go_wp2_with fail;go_roundw
    case rel=>exact ⟨k+1,rfl,by go_num,by omega,ah,hf⟩
    case measure=>simp [intOf];omega
  ·
   obtain rfl:n=k:=by omega
   have hR:Hid (R=none):=by
    show _=_;rw [ab.out];have h:=hh.out;rwa [At5 (by rw [ac.out];omega)] at h
   have af:Hid (∀wz,Fr (One (w.heap.size+1)) wr wz->Ey (R.getD Cd.zero) R.isSome w (.returned (.tuple #[.agg zC,.bool false])) wz):=by
    intro wz hz;refine ⟨?_,f1.trans hz (fun k hk e=>absurd hk (by have e':k=w.heap.size+1:=e;omega))⟩;rw [hR.out];rfl
   clear ab hh;generalize R.getD Cd.zero=RC at*;generalize R.isSome=RS at*;have e0:cI wr (w.heap.size+1) 0 0:=b1.cell 0;have z0:wr.frozen? ⟨w.heap.size+1,0,none⟩=false:=b1.frozen 0;have e1:cI wr (w.heap.size+1) 1 0:=b1.cell 1;have z1:wr.frozen? ⟨w.heap.size+1,1,none⟩=false:=b1.frozen 1;have e2:wr.cell? ⟨w.heap.size+1,2,none⟩=some (.int .u64 0):=b1.cell 2;have z2:wr.frozen? ⟨w.heap.size+1,2,none⟩=false:=b1.frozen 2;have e3:wr.cell? ⟨w.heap.size+1,3,none⟩=some (.int .u64 0):=b1.cell 3;have z3:wr.frozen? ⟨w.heap.size+1,3,none⟩=false:=b1.frozen 3;have e4:wr.cell? ⟨w.heap.size+1,4,none⟩=some (.int .u64 0):=b1.cell 4;have z4:wr.frozen? ⟨w.heap.size+1,4,none⟩=false:=b1.frozen 4;have ae:=(((((b1.set 0 (.int .i64 0)).set 1 (.int .i64 0)).set 2 (.int .u64 0)).set 3 (.int .u64 0)).set 4 (.int .u64 0));have fz:=((((((Fr.refl (One (w.heap.size+1)) wr).setCell (p:=⟨w.heap.size+1,0,none⟩) (fun _=>rfl) (.int .i64 0)).setCell (p:=⟨w.heap.size+1,1,none⟩) (fun _=>rfl) (.int .i64 0)).setCell (p:=⟨w.heap.size+1,2,none⟩) (fun _=>rfl) (.int .u64 0)).setCell (p:=⟨w.heap.size+1,3,none⟩) (fun _=>rfl) (.int .u64 0)).setCell (p:=⟨w.heap.size+1,4,none⟩) (fun _=>rfl) (.int .u64 0));go_wp2_with fail
   (try simp only [Exit.inBlock,Exit.then])
   refine Fa (t:=104) rfl rfl ae rfl underlying104 (by kernel_rfl) rfl ?_;exact af.out _ fz
end Oq
def Sg.In (M pub R S:Int):Prop:=1<=pub/\pub<=M/\1<=R/\R<=M/\S<M
theorem Sg.in_ways (M pub R S:Int) (h:¬Sg.In M pub R S):pub<1\/(1<=pub/\M<pub)\/(1<=pub/\pub<=M/\R<1)\/(1<=pub/\pub<=M/\1<=R/\M<R)\/(1<=pub/\pub<=M/\1<=R/\R<=M/\M<=S):=by
 unfold Sg.In at h;omega
theorem Sg.check_in (pub R S:Nat) (bs:List UInt8) (h:Sg.In 2305843009213693950 pub R S):Sg.check pub bs R S=(Fd.pow 37 S==Fd.mul R (Fd.pow pub (Sg.e R pub bs))):=by
 obtain ⟨h1,h2,h3,h4,h5⟩:=h;have e1:Sg.within pub 1 2305843009213693950=true:=Sg.within_yes (lo:=1) (hi:=2305843009213693950) (by omega) (by omega);have e2:Sg.within R 1 2305843009213693950=true:=Sg.within_yes (lo:=1) (hi:=2305843009213693950) (by omega) (by omega);have e3:Sg.within S 0 2305843009213693949=true:=Sg.within_yes (lo:=0) (hi:=2305843009213693949) (by omega) (by omega);show (Sg.within pub 1 2305843009213693950&&Sg.within R 1 2305843009213693950&&Sg.within S 0 2305843009213693949&&(Fd.pow 37 S==Fd.mul R (Fd.pow pub (Sg.e R pub bs))))=_;rw [e1,e2,e3];rfl
theorem Sg.check_out (pub R S:Nat) (bs:List UInt8) (h:¬Sg.In 2305843009213693950 pub R S):Sg.check pub bs R S=false:=by
 show (Sg.within pub 1 2305843009213693950&&Sg.within R 1 2305843009213693950&&Sg.within S 0 2305843009213693949&&(Fd.pow 37 S==Fd.mul R (Fd.pow pub (Sg.e R pub bs))))=false
 by_cases e1:Sg.within pub 1 2305843009213693950=true
 ·
  by_cases e2:Sg.within R 1 2305843009213693950=true
  ·
   by_cases e3:Sg.within S 0 2305843009213693949=true
   ·
    exfalso;apply h;unfold Sg.within at e1 e2 e3;simp only [Au7,decide_eq_true_eq] at e1 e2 e3;exact ⟨e1.1,e1.2,e2.1,e2.2,Int.lt_of_le_of_lt e3.2 (by decide)⟩
   · simp only [At0] at e3;rw [e3];simp
  · simp only [At0] at e2;rw [e2];simp
 · simp only [At0] at e1;rw [e1];simp
theorem Ah4 (pub R S n c:Nat) (A:Option Addr) (w:World) (hway:¬Sg.In 2305843009213693950 pub R S):
  Calls zp 59 #[.int .u64 (pub:Int),.slice A n c,Ej R S] w (Ae false w):=by
 unfold Ej;have hb0:=Blk.new w 25 #[.int .u64 (R:Int),.int .u64 (S:Int)];have hf0:Fr Non w (w.alloc (.cells #[.int .u64 (R:Int),.int .u64 (S:Int)] 25)):=(Fr.refl _ _).alloc _;have c0:=hb0.cell 0;have c1:=hb0.cell 1;have hord:(∀w,Calls zp 101 #[] w fun e w'=>e=.returned (.int .u64 2305843009213693950)/\w'=w):=fun w=>(Jb w).mono fun _ _ h=>⟨h.1,h.2.symm⟩;have hway:=Sg.in_ways _ _ _ _ hway
 rcases hway with t1|⟨t1,t2⟩|⟨t1,t2,t3⟩|⟨t1,t2,t3,t4⟩|⟨t1,t2,t3,t4,t5⟩
 all_goals
  go_enter func59,ntmps59;generalize (2305843009213693950:Int)=M at*;have hord':=lh hord;clear hord;go_wp2
  go_quiet (first|(go_at_call 101;exact Calls.quiet_of_same (hord'.out _)))
  go_wp2
  go_ret
  exact ⟨rfl,hf0.drewN _⟩
theorem Ah5 (pub R S B n c:Nat) (A:Option Addr) (bs:List UInt8) (w:World) (hp:pub<18446744073709551616) (hR:R<18446744073709551616) (hS:S<18446744073709551616) (hlen:Hid (bs.length=n)) (hn:n<=1099511627775) (hB:B<=w.heap.size) (hr:Rd w B 1 A n (bs.map Bv)) (hin:Sg.In 2305843009213693950 pub R S):
  Calls zp 59 #[.int .u64 (pub:Int),.slice A n c,Ej R S] w (Ae (Sg.check pub bs R S) w):=by
 unfold Ej;have ah:=Blk.new w 25 #[.int .u64 (R:Int),.int .u64 (S:Int)];have av:Fr Non w (w.alloc (.cells #[.int .u64 (R:Int),.int .u64 (S:Int)] 25)):=(Fr.refl _ _).alloc _;have c0:=ah.cell 0;have c1:=ah.cell 1;have ar:=hr.alloc (.cells #[.int .u64 (R:Int),.int .u64 (S:Int)] 25);have aq:B<=(w.alloc (.cells #[.int .u64 (R:Int),.int .u64 (S:Int)] 25)).heap.size:=by simp;omega
 have ac:(∀w,Calls zp 101 #[] w fun e w'=>e=.returned (.int .u64 2305843009213693950)/\w'=w):=fun w=>(Jb w).mono fun _ _ h=>⟨h.1,h.2.symm⟩;have aa:=lh (Sg.check_in pub R S bs hin);obtain ⟨t1,t2,t3,t4,t5⟩:=hin;go_enter func59,ntmps59;generalize (2305843009213693950:Int)=M at*;have ae:=lh ac;clear ac;go_wp2
 go_quiet (first|(go_at_call 101;exact Calls.quiet_of_same (ae.out _)))
 have le:=Sg.e_lt R pub bs;have al:=lh (fun B w hB hr=>Pm R pub B n c A bs w hR hp hlen hn hB hr);obtain ⟨E,hE⟩:=Aa (Sg.e R pub bs);rw [hE.out] at le aa al;have p1:Hid (∀w,Calls zp 98 #[.int .u64 37,.int .u64 (S:Int)] w (Cj (Fd.pow 37 S) w)):=fun w=>(Hk 37 S w (by omega) hS).mono fun _ _ ⟨h,k,e⟩=>⟨h,by rw [e];exact (Fr.refl _ _).drewN _⟩;have p2:Hid (∀w,Calls zp 98 #[.int .u64 (pub:Int),.int .u64 (E:Int)] w (Cj (Fd.pow pub E) w)):=fun w=>(Hk pub E w hp (by omega)).mono fun _ _ ⟨h,k,e⟩=>⟨h,by rw [e];exact (Fr.refl _ _).drewN _⟩;have lq:=Fd.pow_lt pub E;obtain ⟨q,hq⟩:=Aa (Fd.pow pub E);obtain ⟨t,ht⟩:=Aa (Fd.pow 37 S);rw [hq.out] at p2 lq aa;rw [ht.out] at p1 aa;have p3:Hid (∀w,Calls zp 114 #[.int .u64 (R:Int),.int .u64 (q:Int)] w (Cj (Fd.mul R q) w)):=fun w=>(I9 R q w hR (by omega)).mono fun _ _ ⟨h,k,e⟩=>⟨h,by rw [e];exact (Fr.refl _ _).drewN _⟩;obtain ⟨v,hv⟩:=Aa (Fd.mul R q);rw [hv.out] at p3 aa;have au:=ah.drewN nq;have ap:=ar.drewN nq;have ao:=av.drewN nq;have aw:=As9 aq (Nat.le_of_eq (show (w.alloc (.cells #[.int .u64 (R:Int),.int .u64 (S:Int)] 25)).heap.size=((w.alloc (.cells #[.int .u64 (R:Int),.int .u64 (S:Int)] 25)).drewN nq).heap.size from rfl));generalize (w.alloc (.cells #[.int .u64 (R:Int),.int .u64 (S:Int)] 25)).drewN nq=w1 at*;have ab:Blk w1.drew w.heap.size 25 #[.int .u64 (R:Int),.int .u64 (S:Int)]:=au;have d0:=ab.cell 0;have d1:=ab.cell 1;have af:Rd w1.drew B 1 A n (bs.map Bv):=ap;have aj:B<=w1.drew.heap.size:=aw;clear c0 c1;go_wp2_with fail
 go_region_held3 (fun w'=>w'.cell? ⟨w.heap.size,0,none⟩=some (.int .u64 (R:Int))/\w'.cell? ⟨w.heap.size,1,none⟩=some (.int .u64 (S:Int))) (go_keep) (first
  |(go_at_call 98;(with_reducible refine (p1.out _).mono ?_);rintro _ w2 ⟨rfl,ad⟩;have g0:=ad.cell d0 zq;have g1:=ad.cell d1 zq)
  |(go_at_call 100;(with_reducible refine (al.out B _ (As9 aj ad.size) (af.fr ad zr)).mono ?_);rintro _ w3 ⟨rfl,ag⟩;have ga:=ag.cell g0 zq;have gb:=ag.cell g1 zq)
  |(go_at_call 98;(with_reducible refine (p2.out _).mono ?_);rintro _ w4 ⟨rfl,ak⟩;have gc:=ak.cell ga zq;have gd:=ak.cell gb zq)
  |(go_at_call 114;(with_reducible refine (p3.out _).mono ?_);rintro _ w5 ⟨rfl,ai⟩;have ge:=ai.cell gc zq;have gf:=ai.cell gd zq))
 go_wp2
 go_ret
 refine ⟨congrArg (fun z=>ze (.bool z)) ?_,(((ao.drew.trans ad zr).trans ag zr).trans ak zr).trans ai zr⟩;rw [aa.out,Bool.eq_iff_iff];simp only [beq_iff_eq];exact Int.ofNat_inj
set_option linter.unusedVariables false in
theorem Ah6 (pub R S B n c:Nat) (A:Option Addr) (bs:List UInt8) (w:World) (hp:pub<18446744073709551616) (hR:R<18446744073709551616) (hS:S<18446744073709551616) (hlen:Hid (bs.length=n)) (hnc:n<=c) (hn:n<=1099511627775) (hB:B<=w.heap.size) (hr:Rd w B 1 A n (bs.map Bv)):
  Calls zp 59 #[.int .u64 (pub:Int),.slice A n c,Ej R S] w (Ae (Sg.check pub bs R S) w):=by
 by_cases h:Sg.In 2305843009213693950 pub R S
 · exact Ah5 pub R S B n c A bs w hp hR hS hlen hn hB hr h
 ·
  rw [Sg.check_out _ _ _ _ h];exact Ah4 pub R S n c A w h
end
end Go.Proofs.YtihfebhfgliojaaGreatDoor
