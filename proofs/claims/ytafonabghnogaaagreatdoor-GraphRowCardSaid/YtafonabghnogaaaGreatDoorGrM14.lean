/-
  Contracts of the functions that the claim's statement reaches, walked one by one (part 14).
  Conditions: as each theorem says.
-/
import Derived.Handy
import Derived.Test.YtafonabghnogaaaGreatDoorGrM1
import Derived.Test.YtafonabghnogaaaGreatDoorGrM2
import Derived.Test.YtafonabghnogaaaGreatDoorGrM3
import Derived.Test.YtafonabghnogaaaGreatDoorGrM6
import Derived.Test.YtafonabghnogaaaGreatDoorGrM7
import Derived.Test.YtafonabghnogaaaGreatDoorGrM13
set_option maxRecDepth 100000
set_option maxHeartbeats 16000000
open Bool renaming not_eq_true→Al4,not_false→Am0,not_true→Am1,or_false→Am6,and_eq_true→An1
open List renaming getElem?_eq_getElem→Al1,length_append→Al2,mem_of_getElem?→Al6,getElem?_map→Al7,mem_singleton→Al8,take_of_length_le→Al9,flatMap_append→Am3,nodup_nil→Am4,contains_iff_mem→Am5,length_singleton→Am7,eq_replicate_iff→Am8,getElem_map→Am9,not_mem_nil→An0,getElem?_eq_none→An2,find?_append→An3
open Nat renaming le_trans→Al3,le_refl→Am2
open Go.World renaming size_alloc→Al5
namespace Go.Proofs.YtafonabghnogaaaGreatDoor
section
open Go.RowKit
attribute [local go_sem ↓] Go.wp_at_zero Go.wp_at_succ
namespace Oq
attribute [local go_sem] Am0 Am1
attribute [local go_sem ↓] Ew
def Ce (l:List Pn) (above ids:List Id):Nat→List Id
 |0=>[]
 |k+1=>match ids[k]? with
  |some y=>if (plc l y).isSome&& !Bm above y&& !Bm (Ce l above ids k) y then Ce l above ids k++[y] else Ce l above ids k
  |none=>Ce l above ids k
def Cq (l:List Pn) (ids:List Id):List Id:=Am (Bi l (Ao l ids) l.length)
def E4 (l:List Pn) (ids:List Id):List Id:=Am (Ce l (Cq l ids) ids ids.length)
theorem Ac8 {l:List Pn} {above ids:List Id} {k:Nat} {y:Id} (h:ids[k]? =some y):
  Ce l above ids (k+1)=if (plc l y).isSome&& !Bm above y&& !Bm (Ce l above ids k) y then Ce l above ids k++[y] else Ce l above ids k:=by
 show (match ids[k]? with|some y=>if (plc l y).isSome&& !Bm above y&& !Bm (Ce l above ids k) y then Ce l above ids k++[y] else Ce l above ids k|none=>Ce l above ids k)=_
 rw [h]
theorem Ma (l:List Pn) (above ids:List Id):∀k,(Ce l above ids k).length≤k
 |0=>Am2 _
 |k+1=>by
  have ih:=Ma l above ids k
  unfold Ce
  split
  ·
   split
   · rw [Al2,Am7];omega
   · omega
  · omega
theorem plcI_pos {l:List Pn} {id:Id}:0≤Aw l id↔(plc l id).isSome=true:=by
 unfold Aw
 cases plc l id with
 |none=>simp
 |some p=>simp
theorem Ro (l:List Pn) (ids:List Id):(Cq l ids).length≤l.length:=by
 unfold Cq
 rw [E3]
 exact Lz _ _ _
theorem Ac9 (base:Nat) (r:RG) (B n c:Nat) (A:Option Addr) (ids:List Id) (w:World) (h:r.own w base) (hn:Hid (ids.length=n)) (hr:Rd w B 3 A n (ids.flatMap Id.cells)) (hnm:n≤100000):
  Calls Tryz.prog 46 #[.agg r.cells,.slice A n c] w (Cn (E4 r.l ids) w):=by
 have bg:=Blk.new w 32 r.cells
 have f0:Fr Non w (w.alloc (.cells r.cells 32)):=(Fr.refl Non w).alloc _
 have kp:=Lib.hid (fun (id:Id) (w':World) (hf:Fr Non w w')=>Hd base r id w' (h.non hf))
 have hl:=Bd (P:=Tryz.prog) w.heap.size 32 Tryz.underlying32 rfl (cs:=r.cells) Dg
 have hpa:=Lib.hid (fun (w':World) (hf:Fr Non w w')=>Rn base r B n c A ids w' (h.non hf) hn (hr.fr hf zr) (by omega))
 have hal:(Cq r.l ids).length≤1000:=Al3 (Ro _ _) (Al3 h.few (by omega))
 have hsn:=Lib.hid (fun k y (hy:ids[k]? =some y)=>Ac8 (l:=r.l) (above:=Cq r.l ids) hy)
 have htl:=Lib.hid (Ma r.l (Cq r.l ids) ids)
 have hpos:Hid (∀id,0≤Aw r.l id↔(plc r.l id).isSome=true):=fun id=>plcI_pos
 have hRR:Hid (E4 r.l ids=Am (Ce r.l (Cq r.l ids) ids n)):=by show _=_;rw [← hn.out];rfl
 rw [hRR.out]
 change Hid (∀(w':World),Fr Non w w'→Calls Tryz.prog 47 #[.agg r.cells,.slice A n c] w' (Cn (Cq r.l ids) w')) at hpa
 clear h hRR
 generalize Cq r.l ids=ab at*
 generalize r.cells=CS at*
 generalize r.l=l at*
 go_enter Tryz.func46,Tryz.ntmps46
 go_upto_region 1 with (fail)
 generalize w.alloc (.cells CS 32)=w0 at*
 go_wp2_with (go_at_call 47;(with_reducible refine (hpa.out _ f0).mono ?_);rintro _ w1 ⟨A1,c1,rfl,o1,f1⟩;have fr1:=f0.trans f1 zr;have b1:=bg.fr f1 zq;clear hpa)
 go_loopw [6,7] (fun s v wr=>∃(k:Nat) (Ax:Option Addr) (cx:Nat) (xs:List Id),v=.int .i64 (k:Int)∧s=.slice Ax xs.length cx∧k≤n∧Hid (xs=Ce l ab ids k)∧Own wr w1.heap.size 38 3 Ax xs.length cx (xs.flatMap Id.cells)∧Fr Non w1 wr) (fun _ v _=>n-(intOf v).toNat)
 case atStart=>exact ⟨0,none,0,[],rfl,rfl,by omega,rfl,Own.nil _ _ _ _,Fr.refl _ _⟩
 case round=>
  obtain ⟨k,Ax,cx,xs,rfl,rfl,hk,hxs,hown,hf⟩:=hrel
  have hfw:Fr Non w wr:=fr1.trans hf zr
  have hrow:=hown.row
  have hxl:xs.length≤k:=by rw [hxs.out];exact htl.out k
  by_cases hlt:k<n
  ·
   obtain ⟨y,hy⟩:∃y,ids[k]? =some y:=⟨_,Al1 (by rw [hn.out];exact hlt)⟩
   obtain ⟨b,off,rfl,hbB,k0,k1,k2⟩:=Id.at (hr.fr hfw zr) hy
   have hsk:=Lib.hid (hsn.out k y hy)
   rw [← hxs.out] at hsk
   have i1:(0:Int)≤k:=by omega
   have i2:(k:Int)<n:=by omega
   have i3:(k:Int).toNat=k:=by omega
   have B0:=(b1.fr hf zq).drew
   have ff0:Fr Non w wr.drew:=hfw.drew
   have K00:wr.drew.cell? ⟨b,off+k*3,none⟩=some (.int .i64 y.b):=k0
   have K10:wr.drew.cell? ⟨b,off+k*3+1,none⟩=some (.int .i64 y.s):=k1
   have K20:wr.drew.cell? ⟨b,off+k*3+2,none⟩=some (.int .u64 (y.u:Int)):=k2
   have O0:Own wr.drew w1.heap.size 38 3 Ax xs.length cx (xs.flatMap Id.cells):=hown.drew
   have H0:Fr Non w1 wr.drew:=hf.drew
   have kpy:=Lib.hid (kp.out y wr.drew ff0)
   have kha:Hid (∀w',Fr Non w1 w'→Calls Tryz.prog 49 #[.slice A1 ab.length c1,.agg y.V] w' (Af (Bm ab y) w')):=fun w' hw=>Jz _ ab.length c1 A1 ab y w' rfl (o1.rd.fr hw zr) (by omega)
   have khx:Hid (∀w',Own w' w1.heap.size 38 3 Ax xs.length cx (xs.flatMap Id.cells)→Calls Tryz.prog 49 #[.slice Ax xs.length cx,.agg y.V] w' (Af (Bm xs y) w')):=fun w' hw=>Jz _ xs.length cx Ax xs y w' rfl hw.rd (by omega)
   have hps:=hpos.out y
   have hpsI:Hid (∀b,(plc l y).isSome=b→decide (Aw l y≥0)=b):=fun b e=>by
    subst e
    cases hq:(plc l y).isSome with
    |true=>exact decide_eq_true (hps.2 hq)
    |false=>exact decide_eq_false (fun e=>by rw [hps.1 e] at hq;cases hq)
   clear kp hsn htl k0 k1 k2 hy hpos hps
   generalize Bm ab y=h1 at*
   generalize Bm xs y=h2 at*
   obtain ⟨ps,hpe⟩:∃b,(plc l y).isSome=b:=⟨_,rfl⟩
   have hP:=hpsI.out ps hpe
   rw [hpe] at hsk
   clear hpsI hpe
   generalize Aw l y=P at*
   cases ps
   case false=>
    go_upto_region 6 with (fail)
    clear hown hf hbB
    refine wp_region_held_drew (S:=fun w'=>Blk w' w.heap.size 32 CS∧w'.cell? ⟨b,off+k*3,none⟩=some (.int .i64 y.b)∧w'.cell? ⟨b,off+k*3+1,none⟩=some (.int .i64 y.s)∧w'.cell? ⟨b,off+k*3+2,none⟩=some (.int .u64 (y.u:Int))) (by kernel_rfl) ⟨B0,K00,K10,K20⟩ (fun hHeld=> ?_)
    clear hHeld
    refine tkH 0 ⟨B0,K00,K10,K20⟩ (h:=tkH 1 ⟨B0,K00,K10,K20⟩ (h:=tkH 2 ⟨B0,K00,K10,K20⟩ (h:=tkH 3 ⟨B0,K00,K10,K20⟩ (h:=tkH 4 ⟨B0,K00,K10,K20⟩ (h:=?_)))))
    simp only [List.set]
    refine oG 5 (fun K hK=> ?_)
    go_simp
    go_wp2_with (go_at_call 37;(with_reducible refine (kpy.out).mono ?_);rintro _ v1 ⟨rfl,fq1⟩;have B1:=B0.fr fq1 zq;have K01:=fq1.cell K00 zq;have K11:=fq1.cell K10 zq;have K21:=fq1.cell K20 zq;have ff1:=ff0.trans fq1 zr;have O1:=O0.fr fq1 zr;have H1:=H0.trans fq1 zr)
    refine hK.out _ _ ⟨B1,K01,K11,K21⟩ (fun hZ=> ?_)
    clear hZ hK K
    try simp only [Ac,List.set]
    refine tkH 6 ⟨B1,K01,K11,K21⟩ (h:=tkH 7 ⟨B1,K01,K11,K21⟩ (h:=skH 8 ⟨B1,K01,K11,K21⟩ (h:=skH 9 ⟨B1,K01,K11,K21⟩ (h:=skH 10 ⟨B1,K01,K11,K21⟩ (h:=skH 11 ⟨B1,K01,K11,K21⟩ (h:=skH 12 ⟨B1,K01,K11,K21⟩ (h:=skH 13 ⟨B1,K01,K11,K21⟩ (h:=skH 14 ⟨B1,K01,K11,K21⟩ (h:=tkH 15 ⟨B1,K01,K11,K21⟩ (h:=tkH 16 ⟨B1,K01,K11,K21⟩ (h:=skH 17 ⟨B1,K01,K11,K21⟩ (h:=?_))))))))))))
    simp only [List.set]
    refine skH 18 ⟨B1,K01,K11,K21⟩ (h:=skH 19 ⟨B1,K01,K11,K21⟩ (h:=skH 20 ⟨B1,K01,K11,K21⟩ (h:=skH 21 ⟨B1,K01,K11,K21⟩ (h:=skH 22 ⟨B1,K01,K11,K21⟩ (h:=skH 23 ⟨B1,K01,K11,K21⟩ (h:=tkH 24 ⟨B1,K01,K11,K21⟩ (h:=?_)))))))
    simp only [List.set]
    refine oD ?_
    go_simp
    have hxs':Hid (xs=Ce l ab ids (k+1)):=by show _=_;rw [hsk.out];rfl
    have hz:=H1
    have oz:=O1
    clear hsk hxs kpy kha khx
    go_wp2_with (fail)
    go_roundw
    case rel=>exact ⟨k+1,Ax,cx,xs,by go_num,rfl,by omega,hxs',oz,hz⟩
    case measure=>simp [intOf];omega
   case true=>
    cases h1
    case true=>
     go_upto_region 6 with (fail)
     clear hown hf hbB
     refine wp_region_held_drew (S:=fun w'=>Blk w' w.heap.size 32 CS∧w'.cell? ⟨b,off+k*3,none⟩=some (.int .i64 y.b)∧w'.cell? ⟨b,off+k*3+1,none⟩=some (.int .i64 y.s)∧w'.cell? ⟨b,off+k*3+2,none⟩=some (.int .u64 (y.u:Int))) (by kernel_rfl) ⟨B0,K00,K10,K20⟩ (fun hHeld=> ?_)
     clear hHeld
     refine tkH 0 ⟨B0,K00,K10,K20⟩ (h:=tkH 1 ⟨B0,K00,K10,K20⟩ (h:=tkH 2 ⟨B0,K00,K10,K20⟩ (h:=tkH 3 ⟨B0,K00,K10,K20⟩ (h:=tkH 4 ⟨B0,K00,K10,K20⟩ (h:=?_)))))
     simp only [List.set]
     refine oG 5 (fun K hK=> ?_)
     go_simp
     go_wp2_with (go_at_call 37;(with_reducible refine (kpy.out).mono ?_);rintro _ v1 ⟨rfl,fq1⟩;have B1:=B0.fr fq1 zq;have K01:=fq1.cell K00 zq;have K11:=fq1.cell K10 zq;have K21:=fq1.cell K20 zq;have ff1:=ff0.trans fq1 zr;have O1:=O0.fr fq1 zr;have H1:=H0.trans fq1 zr)
     refine hK.out _ _ ⟨B1,K01,K11,K21⟩ (fun hZ=> ?_)
     clear hZ hK K
     try simp only [Ac,List.set]
     refine tkH 6 ⟨B1,K01,K11,K21⟩ (h:=tkH 7 ⟨B1,K01,K11,K21⟩ (h:=tkH 8 ⟨B1,K01,K11,K21⟩ (h:=tkH 9 ⟨B1,K01,K11,K21⟩ (h:=tkH 10 ⟨B1,K01,K11,K21⟩ (h:=tkH 11 ⟨B1,K01,K11,K21⟩ (h:=tkH 12 ⟨B1,K01,K11,K21⟩ (h:=?_)))))))
     simp only [List.set]
     refine oG 13 (fun K hK=> ?_)
     go_simp
     go_wp2_with (go_at_call 49;(with_reducible refine (kha.out _ H1).mono ?_);rintro _ v2 ⟨rfl,fq2⟩;have B2:=B1.fr fq2 zq;have K02:=fq2.cell K01 zq;have K12:=fq2.cell K11 zq;have K22:=fq2.cell K21 zq;have ff2:=ff1.trans fq2 zr;have O2:=O1.fr fq2 zr;have H2:=H1.trans fq2 zr)
     refine hK.out _ _ ⟨B2,K02,K12,K22⟩ (fun hZ=> ?_)
     clear hZ hK K
     try simp only [Ac,List.set]
     refine tkH 14 ⟨B2,K02,K12,K22⟩ (h:=tkH 15 ⟨B2,K02,K12,K22⟩ (h:=tkH 16 ⟨B2,K02,K12,K22⟩ (h:=skH 17 ⟨B2,K02,K12,K22⟩ (h:=skH 18 ⟨B2,K02,K12,K22⟩ (h:=skH 19 ⟨B2,K02,K12,K22⟩ (h:=skH 20 ⟨B2,K02,K12,K22⟩ (h:=skH 21 ⟨B2,K02,K12,K22⟩ (h:=skH 22 ⟨B2,K02,K12,K22⟩ (h:=skH 23 ⟨B2,K02,K12,K22⟩ (h:=tkH 24 ⟨B2,K02,K12,K22⟩ (h:=?_)))))))))))
     simp only [List.set]
     refine oD ?_
     go_simp
     have hxs':Hid (xs=Ce l ab ids (k+1)):=by show _=_;rw [hsk.out];rfl
     have hz:=H2
     have oz:=O2
     clear hsk hxs kpy kha khx
     go_wp2_with (fail)
     go_roundw
     case rel=>exact ⟨k+1,Ax,cx,xs,by go_num,rfl,by omega,hxs',oz,hz⟩
     case measure=>simp [intOf];omega
    case false=>
     cases h2
     case true=>
      go_upto_region 6 with (fail)
      clear hown hf hbB
      refine wp_region_held_drew (S:=fun w'=>Blk w' w.heap.size 32 CS∧w'.cell? ⟨b,off+k*3,none⟩=some (.int .i64 y.b)∧w'.cell? ⟨b,off+k*3+1,none⟩=some (.int .i64 y.s)∧w'.cell? ⟨b,off+k*3+2,none⟩=some (.int .u64 (y.u:Int))) (by kernel_rfl) ⟨B0,K00,K10,K20⟩ (fun hHeld=> ?_)
      clear hHeld
      refine tkH 0 ⟨B0,K00,K10,K20⟩ (h:=tkH 1 ⟨B0,K00,K10,K20⟩ (h:=tkH 2 ⟨B0,K00,K10,K20⟩ (h:=tkH 3 ⟨B0,K00,K10,K20⟩ (h:=tkH 4 ⟨B0,K00,K10,K20⟩ (h:=?_)))))
      simp only [List.set]
      refine oG 5 (fun K hK=> ?_)
      go_simp
      go_wp2_with (go_at_call 37;(with_reducible refine (kpy.out).mono ?_);rintro _ v1 ⟨rfl,fq1⟩;have B1:=B0.fr fq1 zq;have K01:=fq1.cell K00 zq;have K11:=fq1.cell K10 zq;have K21:=fq1.cell K20 zq;have ff1:=ff0.trans fq1 zr;have O1:=O0.fr fq1 zr;have H1:=H0.trans fq1 zr)
      refine hK.out _ _ ⟨B1,K01,K11,K21⟩ (fun hZ=> ?_)
      clear hZ hK K
      try simp only [Ac,List.set]
      refine tkH 6 ⟨B1,K01,K11,K21⟩ (h:=tkH 7 ⟨B1,K01,K11,K21⟩ (h:=tkH 8 ⟨B1,K01,K11,K21⟩ (h:=tkH 9 ⟨B1,K01,K11,K21⟩ (h:=tkH 10 ⟨B1,K01,K11,K21⟩ (h:=tkH 11 ⟨B1,K01,K11,K21⟩ (h:=tkH 12 ⟨B1,K01,K11,K21⟩ (h:=?_)))))))
      simp only [List.set]
      refine oG 13 (fun K hK=> ?_)
      go_simp
      go_wp2_with (go_at_call 49;(with_reducible refine (kha.out _ H1).mono ?_);rintro _ v2 ⟨rfl,fq2⟩;have B2:=B1.fr fq2 zq;have K02:=fq2.cell K01 zq;have K12:=fq2.cell K11 zq;have K22:=fq2.cell K21 zq;have ff2:=ff1.trans fq2 zr;have O2:=O1.fr fq2 zr;have H2:=H1.trans fq2 zr)
      refine hK.out _ _ ⟨B2,K02,K12,K22⟩ (fun hZ=> ?_)
      clear hZ hK K
      try simp only [Ac,List.set]
      refine tkH 14 ⟨B2,K02,K12,K22⟩ (h:=tkH 15 ⟨B2,K02,K12,K22⟩ (h:=tkH 16 ⟨B2,K02,K12,K22⟩ (h:=tkH 17 ⟨B2,K02,K12,K22⟩ (h:=tkH 18 ⟨B2,K02,K12,K22⟩ (h:=tkH 19 ⟨B2,K02,K12,K22⟩ (h:=tkH 20 ⟨B2,K02,K12,K22⟩ (h:=tkH 21 ⟨B2,K02,K12,K22⟩ (h:=?_))))))))
      simp only [List.set]
      refine oG 22 (fun K hK=> ?_)
      go_simp
      go_wp2_with (go_at_call 49;(with_reducible refine (khx.out _ O2).mono ?_);rintro _ v3 ⟨rfl,fq3⟩;have B3:=B2.fr fq3 zq;have K03:=fq3.cell K02 zq;have K13:=fq3.cell K12 zq;have K23:=fq3.cell K22 zq;have ff3:=ff2.trans fq3 zr;have O3:=O2.fr fq3 zr;have H3:=H2.trans fq3 zr)
      refine hK.out _ _ ⟨B3,K03,K13,K23⟩ (fun hZ=> ?_)
      clear hZ hK K
      try simp only [Ac,List.set]
      refine tkH 23 ⟨B3,K03,K13,K23⟩ (h:=tkH 24 ⟨B3,K03,K13,K23⟩ (h:=?_))
      simp only [List.set]
      refine oD ?_
      go_simp
      have hxs':Hid (xs=Ce l ab ids (k+1)):=by show _=_;rw [hsk.out];rfl
      have hz:=H3
      have oz:=O3
      clear hsk hxs kpy kha khx
      go_wp2_with (fail)
      go_roundw
      case rel=>exact ⟨k+1,Ax,cx,xs,by go_num,rfl,by omega,hxs',oz,hz⟩
      case measure=>simp [intOf];omega
     case false=>
      go_upto_region 6 with (fail)
      clear hown hf hbB
      refine wp_region_held_drew (S:=fun w'=>Blk w' w.heap.size 32 CS∧w'.cell? ⟨b,off+k*3,none⟩=some (.int .i64 y.b)∧w'.cell? ⟨b,off+k*3+1,none⟩=some (.int .i64 y.s)∧w'.cell? ⟨b,off+k*3+2,none⟩=some (.int .u64 (y.u:Int))) (by kernel_rfl) ⟨B0,K00,K10,K20⟩ (fun hHeld=> ?_)
      clear hHeld
      refine tkH 0 ⟨B0,K00,K10,K20⟩ (h:=tkH 1 ⟨B0,K00,K10,K20⟩ (h:=tkH 2 ⟨B0,K00,K10,K20⟩ (h:=tkH 3 ⟨B0,K00,K10,K20⟩ (h:=tkH 4 ⟨B0,K00,K10,K20⟩ (h:=?_)))))
      simp only [List.set]
      refine oG 5 (fun K hK=> ?_)
      go_simp
      go_wp2_with (go_at_call 37;(with_reducible refine (kpy.out).mono ?_);rintro _ v1 ⟨rfl,fq1⟩;have B1:=B0.fr fq1 zq;have K01:=fq1.cell K00 zq;have K11:=fq1.cell K10 zq;have K21:=fq1.cell K20 zq;have ff1:=ff0.trans fq1 zr;have O1:=O0.fr fq1 zr;have H1:=H0.trans fq1 zr)
      refine hK.out _ _ ⟨B1,K01,K11,K21⟩ (fun hZ=> ?_)
      clear hZ hK K
      try simp only [Ac,List.set]
      refine tkH 6 ⟨B1,K01,K11,K21⟩ (h:=tkH 7 ⟨B1,K01,K11,K21⟩ (h:=tkH 8 ⟨B1,K01,K11,K21⟩ (h:=tkH 9 ⟨B1,K01,K11,K21⟩ (h:=tkH 10 ⟨B1,K01,K11,K21⟩ (h:=tkH 11 ⟨B1,K01,K11,K21⟩ (h:=tkH 12 ⟨B1,K01,K11,K21⟩ (h:=?_)))))))
      simp only [List.set]
      refine oG 13 (fun K hK=> ?_)
      go_simp
      go_wp2_with (go_at_call 49;(with_reducible refine (kha.out _ H1).mono ?_);rintro _ v2 ⟨rfl,fq2⟩;have B2:=B1.fr fq2 zq;have K02:=fq2.cell K01 zq;have K12:=fq2.cell K11 zq;have K22:=fq2.cell K21 zq;have ff2:=ff1.trans fq2 zr;have O2:=O1.fr fq2 zr;have H2:=H1.trans fq2 zr)
      refine hK.out _ _ ⟨B2,K02,K12,K22⟩ (fun hZ=> ?_)
      clear hZ hK K
      try simp only [Ac,List.set]
      refine tkH 14 ⟨B2,K02,K12,K22⟩ (h:=tkH 15 ⟨B2,K02,K12,K22⟩ (h:=tkH 16 ⟨B2,K02,K12,K22⟩ (h:=tkH 17 ⟨B2,K02,K12,K22⟩ (h:=tkH 18 ⟨B2,K02,K12,K22⟩ (h:=tkH 19 ⟨B2,K02,K12,K22⟩ (h:=tkH 20 ⟨B2,K02,K12,K22⟩ (h:=tkH 21 ⟨B2,K02,K12,K22⟩ (h:=?_))))))))
      simp only [List.set]
      refine oG 22 (fun K hK=> ?_)
      go_simp
      go_wp2_with (go_at_call 49;(with_reducible refine (khx.out _ O2).mono ?_);rintro _ v3 ⟨rfl,fq3⟩;have B3:=B2.fr fq3 zq;have K03:=fq3.cell K02 zq;have K13:=fq3.cell K12 zq;have K23:=fq3.cell K22 zq;have ff3:=ff2.trans fq3 zr;have O3:=O2.fr fq3 zr;have H3:=H2.trans fq3 zr)
      refine hK.out _ _ ⟨B3,K03,K13,K23⟩ (fun hZ=> ?_)
      clear hZ hK K
      try simp only [Ac,List.set]
      refine tkH 23 ⟨B3,K03,K13,K23⟩ (h:=tkH 24 ⟨B3,K03,K13,K23⟩ (h:=?_))
      simp only [List.set]
      refine oD ?_
      go_simp
      have hxs':Hid (xs++[y]=Ce l ab ids (k+1)):=by show _=_;rw [hsk.out];rfl
      have hz:=H3
      have oz:=O3
      have e0:=K03
      have e1:=K13
      have e2:=K23
      clear hsk hxs kpy kha khx
      have own3:=oz.alloc (.cells y.V 38)
      have fr3:=hz.alloc (.cells y.V 38)
      have hnb:=Blk.new v3 38 y.V
      have hs2:=hz.size
      go_wp2_with (at_builtin;go_loud (refine Bb (base:=w1.heap.size) (.tmp 42) (.tmp 47) 28 rfl rfl rfl rfl C9 own3 (Rd.blk (n:=1) (size:=3) hnb rfl) (by simp [Value.oneCell']) (by omega) (by omega) (by rw [Al5];omega) ?_);intro A2 c2' w4 own4 fr4 hat4)
      have own5:Own w4 w1.heap.size 38 3 A2 (xs++[y]).length c2' ((xs++[y]).flatMap Id.cells):=by
       rw [Al2,Am3]
       exact own4
      have fr5:Fr Non w1 w4:=fr3.trans fr4 (fun j hj e=>by have h5:=(hrow j e).1;omega)
      go_roundw
      case rel=>exact ⟨k+1,A2,c2',xs++[y],by go_num,by rw [Al2];rfl,by omega,hxs',own5,fr5⟩
      case measure=>simp [intOf];omega
  ·
   obtain rfl:k=n:=by omega
   have ks:=Lib.hid (Gq wr.heap.size xs.length cx Ax xs wr rfl hown.rd (by omega))
   have hfin:Hid (∀e w',En xs xs.length wr e w'→Cn (Am (Ce l ab ids k)) w e w'):=by
    rintro e w' ⟨A5,c5,h1,h2,h3⟩
    have hl5:(Am xs).length=xs.length:=E3 xs
    rw [← hxs.out]
    exact ⟨A5,c5,by rw [hl5];exact h1,by rw [hl5];exact h2.lower hfw.size,hfw.trans h3 zr⟩
   generalize Cn (Am (Ce l ab ids k)) w=POST at*
   clear hxs hown hr bg hsn htl hpos kp
   go_wp2_with (go_at_call 50;(with_reducible refine (ks.out).mono ?_);rintro _ w7 ⟨A5,c5,rfl,h5,h6⟩;have hdone:=Lib.hid (hfin.out _ _ ⟨A5,c5,rfl,h5,h6⟩);clear ks hfin h5 h6)
   first|exact hdone.out|(go_ret;exact hdone.out)
def Bo (l:List Pn) (above ids:List Id):Nat→List Id
 |0=>above
 |k+1=>match ids[k]? with
  |some y=>if (plc l y).isSome&& !Bm (Bo l above ids k) y then Bo l above ids k++[y] else Bo l above ids k
  |none=>Bo l above ids k
def Fj (l:List Pn) (ids:List Id):List Id:=Am (Bo l (Cq l ids) ids ids.length)
theorem Rp {l:List Pn} {above ids:List Id} {k:Nat} {y:Id} (h:ids[k]? =some y):
  Bo l above ids (k+1)=if (plc l y).isSome&& !Bm (Bo l above ids k) y then Bo l above ids k++[y] else Bo l above ids k:=by
 show (match ids[k]? with|some y=>if (plc l y).isSome&& !Bm (Bo l above ids k) y then Bo l above ids k++[y] else Bo l above ids k|none=>Bo l above ids k)=_
 rw [h]
theorem Rq (l:List Pn) (above ids:List Id):∀k,(Bo l above ids k).length≤above.length+k
 |0=>Am2 _
 |k+1=>by
  have ih:=Rq l above ids k
  unfold Bo
  split
  ·
   split
   · rw [Al2,Am7];omega
   · omega
  · omega
theorem Ad0 (base:Nat) (r:RG) (B n c:Nat) (A:Option Addr) (ids:List Id) (w:World) (h:r.own w base) (hn:Hid (ids.length=n)) (hr:Rd w B 3 A n (ids.flatMap Id.cells)) (hnm:n≤100000):
  Calls Tryz.prog 90 #[.agg r.cells,.slice A n c] w (Cn (Fj r.l ids) w):=by
 have bg:=Blk.new w 32 r.cells
 have f0:Fr Non w (w.alloc (.cells r.cells 32)):=(Fr.refl Non w).alloc _
 have kp:=Lib.hid (fun (id:Id) (w':World) (hf:Fr Non w w')=>Hd base r id w' (h.non hf))
 have hl:=Bd (P:=Tryz.prog) w.heap.size 32 Tryz.underlying32 rfl (cs:=r.cells) Dg
 have hpa:=Lib.hid (fun (w':World) (hf:Fr Non w w')=>Rn base r B n c A ids w' (h.non hf) hn (hr.fr hf zr) (by omega))
 have hal:(Cq r.l ids).length≤1000:=Al3 (Ro _ _) (Al3 h.few (by omega))
 have hsn:=Lib.hid (fun k y (hy:ids[k]? =some y)=>Rp (l:=r.l) (above:=Cq r.l ids) hy)
 have htl:=Lib.hid (Rq r.l (Cq r.l ids) ids)
 have hpos:Hid (∀id,0≤Aw r.l id↔(plc r.l id).isSome=true):=fun id=>plcI_pos
 have hRR:Hid (Fj r.l ids=Am (Bo r.l (Cq r.l ids) ids n)):=by show _=_;rw [← hn.out];rfl
 have h00:Hid (Cq r.l ids=Bo r.l (Cq r.l ids) ids 0):=rfl
 rw [hRR.out]
 change Hid (∀(w':World),Fr Non w w'→Calls Tryz.prog 47 #[.agg r.cells,.slice A n c] w' (Cn (Cq r.l ids) w')) at hpa
 clear h hRR
 generalize Cq r.l ids=ab at*
 generalize r.cells=CS at*
 generalize r.l=l at*
 go_enter Tryz.func90,Tryz.ntmps90
 go_upto_region 1 with (fail)
 have sz0:=f0.size
 generalize w.alloc (.cells CS 32)=w0 at*
 go_wp2_with (go_at_call 47;(with_reducible refine (hpa.out _ f0).mono ?_);rintro _ w1 ⟨A1,c1,rfl,o1,f1⟩;have fr1:=f0.trans f1 zr;have b1:=bg.fr f1 zq;clear hpa)
 have sz1:=f1.size
 go_loopw [5,6] (fun s v wr=>∃(k:Nat) (Ax:Option Addr) (cx:Nat) (xs:List Id),v=.int .i64 (k:Int)∧s=.slice Ax xs.length cx∧k≤n∧Hid (xs=Bo l ab ids k)∧Own wr w0.heap.size 38 3 Ax xs.length cx (xs.flatMap Id.cells)∧Fr Non w0 wr) (fun _ v _=>n-(intOf v).toNat)
 case atStart=>exact ⟨0,A1,c1,ab,rfl,rfl,by omega,h00,o1,f1⟩
 case round=>
  obtain ⟨k,Ax,cx,xs,rfl,rfl,hk,hxs,hown,hf⟩:=hrel
  have hfw:Fr Non w wr:=f0.trans hf zr
  have hrow:=hown.row
  have hxl:xs.length≤ab.length+k:=by rw [hxs.out];exact htl.out k
  by_cases hlt:k<n
  ·
   obtain ⟨y,hy⟩:∃y,ids[k]? =some y:=⟨_,Al1 (by rw [hn.out];exact hlt)⟩
   obtain ⟨b,off,rfl,hbB,k0,k1,k2⟩:=Id.at (hr.fr hfw zr) hy
   have hsk:=Lib.hid (hsn.out k y hy)
   rw [← hxs.out] at hsk
   have i1:(0:Int)≤k:=by omega
   have i2:(k:Int)<n:=by omega
   have i3:(k:Int).toNat=k:=by omega
   have B0:=(bg.fr hf zq).drew
   have ff0:Fr Non w wr.drew:=hfw.drew
   have K00:wr.drew.cell? ⟨b,off+k*3,none⟩=some (.int .i64 y.b):=k0
   have K10:wr.drew.cell? ⟨b,off+k*3+1,none⟩=some (.int .i64 y.s):=k1
   have K20:wr.drew.cell? ⟨b,off+k*3+2,none⟩=some (.int .u64 (y.u:Int)):=k2
   have O0:Own wr.drew w0.heap.size 38 3 Ax xs.length cx (xs.flatMap Id.cells):=hown.drew
   have H0:Fr Non w0 wr.drew:=hf.drew
   have kpy:=Lib.hid (kp.out y wr.drew ff0)
   have khx:Hid (∀w',Own w' w0.heap.size 38 3 Ax xs.length cx (xs.flatMap Id.cells)→Calls Tryz.prog 49 #[.slice Ax xs.length cx,.agg y.V] w' (Af (Bm xs y) w')):=fun w' hw=>Jz _ xs.length cx Ax xs y w' rfl hw.rd (by omega)
   have hps:=hpos.out y
   have hpsI:Hid (∀b,(plc l y).isSome=b→decide (Aw l y≥0)=b):=fun b e=>by
    subst e
    cases hq:(plc l y).isSome with
    |true=>exact decide_eq_true (hps.2 hq)
    |false=>exact decide_eq_false (fun e=>by rw [hps.1 e] at hq;cases hq)
   clear kp hsn htl k0 k1 k2 hy hpos hps h00
   generalize Bm xs y=h2 at*
   obtain ⟨ps,hpe⟩:∃b,(plc l y).isSome=b:=⟨_,rfl⟩
   have hP:=hpsI.out ps hpe
   rw [hpe] at hsk
   clear hpsI hpe
   generalize Aw l y=P at*
   cases ps
   case false=>
    go_upto_region 5 with (fail)
    clear hown hf hbB
    refine wp_region_held_drew (S:=fun w'=>Blk w' w.heap.size 32 CS∧w'.cell? ⟨b,off+k*3,none⟩=some (.int .i64 y.b)∧w'.cell? ⟨b,off+k*3+1,none⟩=some (.int .i64 y.s)∧w'.cell? ⟨b,off+k*3+2,none⟩=some (.int .u64 (y.u:Int))) (by kernel_rfl) ⟨B0,K00,K10,K20⟩ (fun hHeld=> ?_)
    clear hHeld
    refine tkH 0 ⟨B0,K00,K10,K20⟩ (h:=tkH 1 ⟨B0,K00,K10,K20⟩ (h:=tkH 2 ⟨B0,K00,K10,K20⟩ (h:=tkH 3 ⟨B0,K00,K10,K20⟩ (h:=tkH 4 ⟨B0,K00,K10,K20⟩ (h:=?_)))))
    simp only [List.set]
    refine oG 5 (fun K hK=> ?_)
    go_simp
    go_wp2_with (go_at_call 37;(with_reducible refine (kpy.out).mono ?_);rintro _ v1 ⟨rfl,fq1⟩;have B1:=B0.fr fq1 zq;have K01:=fq1.cell K00 zq;have K11:=fq1.cell K10 zq;have K21:=fq1.cell K20 zq;have ff1:=ff0.trans fq1 zr;have O1:=O0.fr fq1 zr;have H1:=H0.trans fq1 zr)
    refine hK.out _ _ ⟨B1,K01,K11,K21⟩ (fun hZ=> ?_)
    clear hZ hK K
    try simp only [Ac,List.set]
    refine tkH 6 ⟨B1,K01,K11,K21⟩ (h:=tkH 7 ⟨B1,K01,K11,K21⟩ (h:=skH 8 ⟨B1,K01,K11,K21⟩ (h:=skH 9 ⟨B1,K01,K11,K21⟩ (h:=skH 10 ⟨B1,K01,K11,K21⟩ (h:=skH 11 ⟨B1,K01,K11,K21⟩ (h:=skH 12 ⟨B1,K01,K11,K21⟩ (h:=skH 13 ⟨B1,K01,K11,K21⟩ (h:=skH 14 ⟨B1,K01,K11,K21⟩ (h:=tkH 15 ⟨B1,K01,K11,K21⟩ (h:=?_))))))))))
    simp only [List.set]
    refine oD ?_
    go_simp
    have hxs':Hid (xs=Bo l ab ids (k+1)):=by show _=_;rw [hsk.out];rfl
    have hz:=H1
    have oz:=O1
    clear hsk hxs kpy khx
    go_wp2_with (fail)
    go_roundw
    case rel=>exact ⟨k+1,Ax,cx,xs,by go_num,rfl,by omega,hxs',oz,hz⟩
    case measure=>simp [intOf];omega
   case true=>
    cases h2
    case true=>
     go_upto_region 5 with (fail)
     clear hown hf hbB
     refine wp_region_held_drew (S:=fun w'=>Blk w' w.heap.size 32 CS∧w'.cell? ⟨b,off+k*3,none⟩=some (.int .i64 y.b)∧w'.cell? ⟨b,off+k*3+1,none⟩=some (.int .i64 y.s)∧w'.cell? ⟨b,off+k*3+2,none⟩=some (.int .u64 (y.u:Int))) (by kernel_rfl) ⟨B0,K00,K10,K20⟩ (fun hHeld=> ?_)
     clear hHeld
     refine tkH 0 ⟨B0,K00,K10,K20⟩ (h:=tkH 1 ⟨B0,K00,K10,K20⟩ (h:=tkH 2 ⟨B0,K00,K10,K20⟩ (h:=tkH 3 ⟨B0,K00,K10,K20⟩ (h:=tkH 4 ⟨B0,K00,K10,K20⟩ (h:=?_)))))
     simp only [List.set]
     refine oG 5 (fun K hK=> ?_)
     go_simp
     go_wp2_with (go_at_call 37;(with_reducible refine (kpy.out).mono ?_);rintro _ v1 ⟨rfl,fq1⟩;have B1:=B0.fr fq1 zq;have K01:=fq1.cell K00 zq;have K11:=fq1.cell K10 zq;have K21:=fq1.cell K20 zq;have ff1:=ff0.trans fq1 zr;have O1:=O0.fr fq1 zr;have H1:=H0.trans fq1 zr)
     refine hK.out _ _ ⟨B1,K01,K11,K21⟩ (fun hZ=> ?_)
     clear hZ hK K
     try simp only [Ac,List.set]
     refine tkH 6 ⟨B1,K01,K11,K21⟩ (h:=tkH 7 ⟨B1,K01,K11,K21⟩ (h:=tkH 8 ⟨B1,K01,K11,K21⟩ (h:=tkH 9 ⟨B1,K01,K11,K21⟩ (h:=tkH 10 ⟨B1,K01,K11,K21⟩ (h:=tkH 11 ⟨B1,K01,K11,K21⟩ (h:=tkH 12 ⟨B1,K01,K11,K21⟩ (h:=?_)))))))
     simp only [List.set]
     refine oG 13 (fun K hK=> ?_)
     go_simp
     go_wp2_with (go_at_call 49;(with_reducible refine (khx.out _ O1).mono ?_);rintro _ v2 ⟨rfl,fq2⟩;have B2:=B1.fr fq2 zq;have K02:=fq2.cell K01 zq;have K12:=fq2.cell K11 zq;have K22:=fq2.cell K21 zq;have ff2:=ff1.trans fq2 zr;have O2:=O1.fr fq2 zr;have H2:=H1.trans fq2 zr)
     refine hK.out _ _ ⟨B2,K02,K12,K22⟩ (fun hZ=> ?_)
     clear hZ hK K
     try simp only [Ac,List.set]
     refine tkH 14 ⟨B2,K02,K12,K22⟩ (h:=tkH 15 ⟨B2,K02,K12,K22⟩ (h:=?_))
     simp only [List.set]
     refine oD ?_
     go_simp
     have hxs':Hid (xs=Bo l ab ids (k+1)):=by show _=_;rw [hsk.out];rfl
     have hz:=H2
     have oz:=O2
     clear hsk hxs kpy khx
     go_wp2_with (fail)
     go_roundw
     case rel=>exact ⟨k+1,Ax,cx,xs,by go_num,rfl,by omega,hxs',oz,hz⟩
     case measure=>simp [intOf];omega
    case false=>
     go_upto_region 5 with (fail)
     clear hown hf hbB
     refine wp_region_held_drew (S:=fun w'=>Blk w' w.heap.size 32 CS∧w'.cell? ⟨b,off+k*3,none⟩=some (.int .i64 y.b)∧w'.cell? ⟨b,off+k*3+1,none⟩=some (.int .i64 y.s)∧w'.cell? ⟨b,off+k*3+2,none⟩=some (.int .u64 (y.u:Int))) (by kernel_rfl) ⟨B0,K00,K10,K20⟩ (fun hHeld=> ?_)
     clear hHeld
     refine tkH 0 ⟨B0,K00,K10,K20⟩ (h:=tkH 1 ⟨B0,K00,K10,K20⟩ (h:=tkH 2 ⟨B0,K00,K10,K20⟩ (h:=tkH 3 ⟨B0,K00,K10,K20⟩ (h:=tkH 4 ⟨B0,K00,K10,K20⟩ (h:=?_)))))
     simp only [List.set]
     refine oG 5 (fun K hK=> ?_)
     go_simp
     go_wp2_with (go_at_call 37;(with_reducible refine (kpy.out).mono ?_);rintro _ v1 ⟨rfl,fq1⟩;have B1:=B0.fr fq1 zq;have K01:=fq1.cell K00 zq;have K11:=fq1.cell K10 zq;have K21:=fq1.cell K20 zq;have ff1:=ff0.trans fq1 zr;have O1:=O0.fr fq1 zr;have H1:=H0.trans fq1 zr)
     refine hK.out _ _ ⟨B1,K01,K11,K21⟩ (fun hZ=> ?_)
     clear hZ hK K
     try simp only [Ac,List.set]
     refine tkH 6 ⟨B1,K01,K11,K21⟩ (h:=tkH 7 ⟨B1,K01,K11,K21⟩ (h:=tkH 8 ⟨B1,K01,K11,K21⟩ (h:=tkH 9 ⟨B1,K01,K11,K21⟩ (h:=tkH 10 ⟨B1,K01,K11,K21⟩ (h:=tkH 11 ⟨B1,K01,K11,K21⟩ (h:=tkH 12 ⟨B1,K01,K11,K21⟩ (h:=?_)))))))
     simp only [List.set]
     refine oG 13 (fun K hK=> ?_)
     go_simp
     go_wp2_with (go_at_call 49;(with_reducible refine (khx.out _ O1).mono ?_);rintro _ v2 ⟨rfl,fq2⟩;have B2:=B1.fr fq2 zq;have K02:=fq2.cell K01 zq;have K12:=fq2.cell K11 zq;have K22:=fq2.cell K21 zq;have ff2:=ff1.trans fq2 zr;have O2:=O1.fr fq2 zr;have H2:=H1.trans fq2 zr)
     refine hK.out _ _ ⟨B2,K02,K12,K22⟩ (fun hZ=> ?_)
     clear hZ hK K
     try simp only [Ac,List.set]
     refine tkH 14 ⟨B2,K02,K12,K22⟩ (h:=tkH 15 ⟨B2,K02,K12,K22⟩ (h:=?_))
     simp only [List.set]
     refine oD ?_
     go_simp
     have hxs':Hid (xs++[y]=Bo l ab ids (k+1)):=by show _=_;rw [hsk.out];rfl
     have hz:=H2
     have oz:=O2
     have e0:=K02
     have e1:=K12
     have e2:=K22
     clear hsk hxs kpy khx
     have own3:=oz.alloc (.cells y.V 38)
     have fr3:=hz.alloc (.cells y.V 38)
     have hnb:=Blk.new v2 38 y.V
     have hs2:=hz.size
     go_wp2_with (at_builtin;go_loud (refine Bb (base:=w0.heap.size) (.tmp 32) (.tmp 37) 28 rfl rfl rfl rfl C9 own3 (Rd.blk (n:=1) (size:=3) hnb rfl) (by simp [Value.oneCell']) (by omega) (by omega) (by rw [Al5];omega) ?_);intro A2 c2' w4 own4 fr4 hat4)
     have own5:Own w4 w0.heap.size 38 3 A2 (xs++[y]).length c2' ((xs++[y]).flatMap Id.cells):=by
      rw [Al2,Am3]
      exact own4
     have fr5:Fr Non w0 w4:=fr3.trans fr4 (fun j hj e=>by have h5:=(hrow j e).1;omega)
     go_roundw
     case rel=>exact ⟨k+1,A2,c2',xs++[y],by go_num,by rw [Al2];rfl,by omega,hxs',own5,fr5⟩
     case measure=>simp [intOf];omega
  ·
   obtain rfl:k=n:=by omega
   have ks:=Lib.hid (Gq wr.heap.size xs.length cx Ax xs wr rfl hown.rd (by omega))
   have hfin:Hid (∀e w',En xs xs.length wr e w'→Cn (Am (Bo l ab ids k)) w e w'):=by
    rintro e w' ⟨A5,c5,h1,h2,h3⟩
    have hl5:(Am xs).length=xs.length:=E3 xs
    rw [← hxs.out]
    exact ⟨A5,c5,by rw [hl5];exact h1,by rw [hl5];exact h2.lower hfw.size,hfw.trans h3 zr⟩
   generalize Cn (Am (Bo l ab ids k)) w=POST at*
   clear hxs hown hr bg hsn htl hpos kp
   go_wp2_with (go_at_call 50;(with_reducible refine (ks.out).mono ?_);rintro _ w7 ⟨A5,c5,rfl,h5,h6⟩;have hdone:=Lib.hid (hfin.out _ _ ⟨A5,c5,rfl,h5,h6⟩);clear ks hfin h5 h6)
   first|exact hdone.out|(go_ret;exact hdone.out)
end Oq
end
section
open Go.RowKit
namespace Oq
theorem Ad1 (z:Array Value) (v:Value) (m:Nat) (h0:0<z.size) (h:∀i,i<z.size→z[i]! =v):(madeCells z m).toList=List.replicate m v:=by
 unfold madeCells
 rw [Array.toList_map,Am8]
 refine ⟨by simp,fun u hu=> ?_⟩
 obtain ⟨i,_,rfl⟩:=List.mem_map.1 hu
 exact h _ (Nat.mod_lt _ h0)
theorem Ad2 {P:Program} {o:Oper} {a:Act} {K:Act→World→Prop} {Q:Exit→Act→World→Prop} {w:World} (l:Operand) (t:TypeId) (hop:o.op=Op.makeSlice t l l) {e:TypeId} {size bytes:Nat} {z:Value} (hT:SlT P t e z size bytes)
  {N:Int} {n:Nat} (hl:a.eval l=.int .i64 N) (hN:N=(n:Int)) (b2:bytes*n≤281474976710656) (b3:n≤9223372036854775807)
  (hK:∀w',Own w' w.heap.size e size (some ⟨w.heap.size,0,none⟩) n n (madeCells z.cells (n*size)).toList→Fr Non w w'→K (a.put o.dst (.slice (some ⟨w.heap.size,0,none⟩) n n)) w'):Oper.wp P o a w K Q:=by
 obtain ⟨ht,hinfo,_,_⟩:=hT
 obtain ⟨i,hi,hz,hsize,hby⟩:=info_parts hinfo
 subst hN
 obtain ⟨w',hrun,r1,r2⟩:=run_make_full (P:=P) (w:=w) w.heap.size t e i z size ht hi hz hsize .i64 .i64 n (by rw [hby];exact b2) (by unfold maxLen;exact b3) (Am2 _)
 have hf:Fr Non w w':=⟨r2.os,r2.tape,r2.output,r2.size,fun j hj _=>r2.block j hj (fun e=>by cases e)⟩
 have hk':=hK w' r1 hf
 unfold Oper.wp execOp
 simp only [hop,hl,hrun,Sem.run_bind,Result.andThen_ok,Sem.run_pure]
 exact hk'
theorem Ad3 {P:Program} {ops:Array Oper} {rest:List Oper} {o:Oper} {a:Act} {Q:Exit→Act→World→Prop} {w:World} (hg:o.guard=none) (l:Operand) (t:TypeId) (hop:o.op=Op.makeSlice t l l) {e:TypeId} {size bytes:Nat} {z:Value} (hT:SlT P t e z size bytes)
  {N:Int} {n:Nat} (hl:a.eval l=.int .i64 N) (hN:N=(n:Int)) (b2:bytes*n≤281474976710656) (b3:n≤9223372036854775807)
  (hK:∀w',Own w' w.heap.size e size (some ⟨w.heap.size,0,none⟩) n n (madeCells z.cells (n*size)).toList→Fr Non w w'→wpList P ops Q rest (a.put o.dst (.slice (some ⟨w.heap.size,0,none⟩) n n)) w'):wpList P ops Q (o::rest) a w:=
 wpList_plain hg fun _ hK'=>Ad2 l t hop hT hl hN b2 b3 (fun w' h1 h2=>hK' _ _ (hK w' h1 h2))
end Oq
end
section
open Go.RowKit
attribute [local go_sem ↓] Go.wp_at_zero Go.wp_at_succ
namespace Oq
attribute [local go_sem] Am0 Am1
attribute [local go_sem ↓] Ew
theorem Dp {P:Program} {o:Oper} {a:Act} {K:Act→World→Prop} {Q:Exit→Act→World→Prop} {w:World} (s x:Operand) (t:TypeId)
  (ho:o.op=.call {callee:=.builtin .append,args:=#[s,x],argTypes:=#[t,t]})
  {base size n c:Nat} {e:TypeId} {A:Option Addr} {xs:List Value} {z:Value} {bytes m cx B:Nat} {Ax:Option Addr} {news:List Value}
  (hs:a.eval s=.slice A n c) (hx:a.eval x=.slice Ax m cx)
  (hT:SlT P t e z size bytes) (h:Own w base e size A n c xs) (hr:Rd w B size Ax m news)
  (h1:∀u∈news,u.oneCell'=true) (hbytes:(n+m)*bytes≤140737488355328) (hmax:n+m≤9223372036854775807) (hbase:base≤w.heap.size)
  (hk:∀A' c' w',Own w' base e size A' (n+m) c' (xs++news)→Fr (fun k=>Ab A=some k) w w'→(Ab A'=Ab A∨Ab A'=some w.heap.size)→
   K (a.put o.dst (.slice A' (n+m) c')) w'):Oper.wp P o a w K Q:=by
 obtain ⟨A',c',w',hrun,h2,h3,h4⟩:=Gl (P:=P) (ty:=o.type) (cx:=cx) hT h hr h1 hbytes hmax hbase
 unfold Oper.wp execOp
 simp only [ho,resolve,invoke,builtin,Sem.run_bind,Sem.run_pure,Result.andThen_ok,List.map_toArray,List.map_cons,List.map_nil,hs,hx,hrun]
 exact hk A' c' w' h2 h3 h4
def Ec (l:List Pn) (cs:List Id):Prop:=cs.Nodup∧∀id∈cs,(plc l id).isSome=true
theorem Rows.idsNodup {cards:List Cd} {l:List Pn} (h:Rows cards l):(l.map Pn.id).Nodup:=by
 refine List.pairwise_iff_getElem.2 (fun i j hi hj hij e=> ?_)
 rw [List.length_map] at hi hj
 rw [Am9,Am9] at e
 have h1:=(h.ok i _ (Al1 hi)).plc
 have h2:=(h.ok j _ (Al1 hj)).plc
 rw [e,h2] at h1
 injection h1 with h1
 omega
theorem Rows.placed {cards:List Cd} {l:List Pn} (h:Rows cards l) {id:Id} (hid:id∈l.map Pn.id):(plc l id).isSome=true:=by
 obtain ⟨n,hn,rfl⟩:=List.mem_map.1 hid
 obtain ⟨i,hi⟩:=List.getElem?_of_mem hn
 rw [(h.ok i n hi).plc]
 rfl
theorem Rr {cards:List Cd} {l:List Pn} (h:Rows cards l):Ec l (Am (l.map Pn.id)):=
 ⟨(Da _).nodup_iff.2 h.idsNodup,fun _ hid=>h.placed ((Da _).subset hid)⟩
theorem Mb (l:List Pn) (p:Nat→Bool):∀k,∀id∈Bi l p k,∃i m,i<k∧p i=true∧l[i]? =some m∧m.id=id:=by
 intro k id hid
 unfold Bi at hid
 obtain ⟨i,hi,h⟩:=List.mem_filterMap.1 hid
 rw [List.mem_range] at hi
 cases hp:p i with
 |false=>rw [hp] at h;cases h
 |true=>
  rw [hp,if_pos rfl] at h
  cases hm:l[i]? with
  |none=>rw [hm] at h;cases h
  |some m=>rw [hm] at h;injection h with h;exact ⟨i,m,hi,hp,hm,h⟩
theorem Mc {cards:List Cd} {l:List Pn} (h:Rows cards l) (p:Nat→Bool):∀k,(Bi l p k).Nodup:=by
 intro k
 induction k with
 |zero=>exact Am4
 |succ k ih=>
  cases hm:l[k]? with
  |none=>
   have:Bi l p (k+1)=Bi l p k:=by
    unfold Bi
    rw [List.range_succ,List.filterMap_append]
    simp [hm]
   rw [this]
   exact ih
  |some m=>
   rw [Rl l p k hm]
   cases hp:p k with
   |false=>simpa using ih
   |true=>
    rw [if_pos rfl,List.nodup_append]
    refine ⟨ih,List.nodup_cons.2 ⟨An0,Am4⟩,?_⟩
    intro a ha b hb e
    rw [Al8] at hb
    obtain ⟨i,m',hi,_,hm',e'⟩:=Mb l p k a ha
    have h1:=(h.ok i m' hm').plc
    have h2:=(h.ok k m hm).plc
    rw [e',e,hb,h2] at h1
    injection h1 with h1
    omega
theorem Ad4 {cards:List Cd} {l:List Pn} (h:Rows cards l) (ids:List Id):Ec l (Cq l ids):=by
 refine ⟨(Da _).nodup_iff.2 (Mc h _ _),fun id hid=> ?_⟩
 obtain ⟨i,m,_,_,hm,rfl⟩:=Mb l _ _ id ((Da _).subset hid)
 exact h.placed (List.mem_map_of_mem (Al6 hm))
theorem Ad5 {l:List Pn} {above ids:List Id} (h:Ec l above):∀k,Ec l (Bo l above ids k):=by
 intro k
 induction k with
 |zero=>exact h
 |succ k ih=>
  cases hy:ids[k]? with
  |none=>
   have:Bo l above ids (k+1)=Bo l above ids k:=by
    show (match ids[k]? with|some y=>if (plc l y).isSome&& !Bm (Bo l above ids k) y then Bo l above ids k++[y] else Bo l above ids k|none=>Bo l above ids k)=_
    rw [hy]
   rw [this]
   exact ih
  |some y=>
   rw [Rp hy]
   split
   ·
    rename_i hc
    rw [An1,Bool.not_eq_true'] at hc
    refine ⟨List.nodup_append.2 ⟨ih.1,List.nodup_cons.2 ⟨An0,Am4⟩,?_⟩,?_⟩
    ·
     intro a ha b hb e
     rw [Al8] at hb
     rw [e,hb] at ha
     rw [(Jx _ _).2 ha] at hc
     exact absurd hc.2 (by simp)
    ·
     intro id hid
     rcases List.mem_append.1 hid with h1|h1
     · exact ih.2 id h1
     ·
      rw [Al8] at h1
      rw [h1]
      exact hc.1
   · exact ih
theorem Ad6 {cards:List Cd} {l:List Pn} (h:Rows cards l) (ids:List Id):Ec l (Fj l ids):=by
 have k:=Ad5 (Ad4 h ids) (ids:=ids) ids.length
 exact ⟨(Da _).nodup_iff.2 k.1,fun id hid=>k.2 id ((Da _).subset hid)⟩
def I4 (l:List Pn) (w:World) (e:Ending) (w':World):Prop:=∃cs:List Id,Cn cs w e w'∧Ec l cs∧RowW cs
theorem Ad7 (l:List Id):(Am l).length=l.length:=(Da l).length_eq
theorem Ad8 (base:Nat) (r:RG) (B n c:Nat) (A:Option Addr) (l0:List Int) (w:World) (h:r.own w base) (hn:Hid (l0.length=n)) (hr:Rd w B 1 A n (l0.map Iv)) (hok:∀x∈l0,I64 x):
  Calls Tryz.prog 44 #[.agg r.cells,.slice A n c] w (I4 r.l w):=by
 have hfew:=h.few
 have bg:=Blk.new w 32 r.cells
 have f0:Fr Non w (w.alloc (.cells r.cells 32)):=(Fr.refl Non w).alloc _
 have g1:Hid (r.cells[1]? =some (.slice r.lA r.l.length r.lC)):=rfl
 have g2:Hid (r.cells[2]? =some (.slice r.iA r.l.length r.iC)):=rfl
 have hl:=Bd (P:=Tryz.prog) w.heap.size 32 Tryz.underlying32 rfl (cs:=r.cells) Dg
 have ka:=Lib.hid (fun (w':World) (hf:Fr Non w w')=>Ri base r w' (h.non hf))
 have hca:Hid (Ec r.l (Am r.ids)∧RowW (Am r.ids)):=⟨Rr h.rows,J1 _⟩
 have hla:Hid ((Am r.ids).length=r.l.length):=by show _=_;rw [Ad7,Rh]
 have kw:=Lib.hid (fun (A':Option Addr) (c':Nat) (ids:List Id) (w':World) (hf:Fr Non w w') (ho:Rd w' w'.heap.size 3 A' ids.length (ids.flatMap Id.cells)) (hle:ids.length≤1000)=>Ad0 base r w'.heap.size ids.length c' A' ids w' (h.non hf) rfl ho (by omega))
 have hcw:Hid (∀ids,Ec r.l (Fj r.l ids)∧RowW (Fj r.l ids)):=fun ids=>⟨Ad6 h.rows ids,J1 _⟩
 have hid:=Lib.hid (fun (p:Nat) (hp:p<r.l.length)=>h.idAt hp)
 have hpost:Hid (∀(cs:List Id) w1 e w',Fr Non w w1→Cn cs w1 e w'→Ec r.l cs∧RowW cs→I4 r.l w e w'):=by
  rintro cs w1 e w' hf ⟨A5,c5,h1,h2,h3⟩ ⟨h4,h5⟩
  exact ⟨cs,⟨A5,c5,h1,h2.lower hf.size,hf.trans h3 zr⟩,h4,h5⟩
 clear h
 unfold En at ka
 generalize Am r.ids=SI at*
 generalize r.lA=LA at*
 generalize r.lC=LC at*
 generalize r.iA=IA at*
 generalize r.iC=IC at*
 generalize r.cells=CS at*
 generalize I4 r.l w=POST at*
 generalize r.l=l at*
 obtain ⟨N,hN⟩:=Aa l.length
 rw [hN.out] at g1 g2 hid hfew hla
 by_cases hz:n=0∨N=0
 ·
  have c1:=(bg.cell 1).trans g1.out
  have tt:((n:Int)==0)=true∨((n:Int)==0)=false∧((N:Int)==0)=true:=by
   rcases hz with e|e
   · exact .inl (by simp [e])
   ·
    by_cases e2:n=0
    · exact .inl (by simp [e2])
    · exact .inr ⟨by simp;omega,by simp [e]⟩
  rcases tt with t1|⟨t1,t2⟩
  all_goals
   clear kw hcw hid hr hz
   go_enter Tryz.func44,Tryz.ntmps44
   go_upto_region 1 with (fail)
   generalize w.alloc (.cells CS 32)=w0 at*
   go_wp2_with (go_at_call 22;(with_reducible refine (ka.out _ f0).mono ?_);rintro _ w1 ⟨A1,c1,rfl,o1,f1⟩;have hd:=Lib.hid (hpost.out SI w0 (.returned (.slice A1 l.length c1)) w1 f0 ⟨A1,c1,by rw [hla.out,hN.out],by rw [hla.out,← hN.out];exact o1,f1⟩ hca.out);clear ka o1 f1 hpost hca)
   first|exact hd.out|(go_ret;exact hd.out)
 ·
  have t1:((n:Int)==0)=false:=by simp;omega
  have t2:((N:Int)==0)=false:=by simp;omega
  have c1:=(bg.cell 1).trans g1.out
  clear ka hca hla
  go_enter Tryz.func44,Tryz.ntmps44
  go_upto_region 1 with (fail)
  have sz0:=f0.size
  generalize w.alloc (.cells CS 32)=w0 at*
  go_wp2_with (fail)
  clear c1
  go_loopw [5,6] (fun s v wr=>∃(k:Nat) (Ax:Option Addr) (cx:Nat) (xs:List Id),v=.int .i64 (k:Int)∧s=.slice Ax xs.length cx∧k≤4∧k≤n∧Hid (xs.length=k)∧Own wr w0.heap.size 38 3 Ax xs.length cx (xs.flatMap Id.cells)∧Fr Non w0 wr) (fun _ v _=>4-(intOf v).toNat)
  case atStart=>exact ⟨0,none,0,[],rfl,rfl,by omega,by omega,rfl,Own.nil _ _ _ _,Fr.refl _ _⟩
  case round=>
   obtain ⟨k,Ax,cx,xs,rfl,rfl,hk4,hkn,hxl,hown,hf⟩:=hrel
   have hfw:Fr Non w wr:=f0.trans hf zr
   have hrow:=hown.row
   have hxn:xs.length≤4:=by rw [hxl.out];exact hk4
   by_cases hlt:k<n∧k<4
   ·
    have i0:decide ((k:Int)<(n:Int))=true:=decide_eq_true (by omega)
    have i00:decide ((k:Int)<4)=true:=decide_eq_true (by omega)
    obtain ⟨q,hq⟩:∃q,l0[k]? =some q:=⟨_,Al1 (by rw [hn.out];exact hlt.1)⟩
    obtain ⟨b,off,u,rfl,hbB,hu,c0⟩:=hr.at hlt.1
    rw [Al7,hq] at hu
    injection hu with hu
    subst hu
    replace c0:w.cell? ⟨b,off+k,none⟩=some (.int .i64 q):=c0
    have hqo:=hok q (Al6 hq)
    obtain ⟨ba1,ba2⟩:=Jj (n:=q) (m:=(N:Int)) (by omega)
    obtain ⟨p,hp⟩:∃p:Nat,C0 q (N:Int)=(p:Int):=⟨(C0 q (N:Int)).toNat,by omega⟩
    have kar:=Lib.hid (fun w'=>Jk q (N:Int) w' hqo.1 hqo.2 (by omega) (by omega))
    rw [hp] at kar ba2
    obtain ⟨m,b2,off2,hm,rfl,d0,d1,d2⟩:=hid.out p (by omega)
    have i1:(0:Int)≤k:=by omega
    have i2:(k:Int)<n:=by omega
    have i3:(k:Int).toNat=k:=by omega
    have p1:(0:Int)≤p:=by omega
    have p2:(p:Int)<N:=by omega
    have p3:(p:Int).toNat=p:=by omega
    have L0:wr.drew.cell? ⟨b,off+k,none⟩=some (.int .i64 q):=hfw.cell c0 zq
    have G0:wr.drew.cell? ⟨w.heap.size,2,none⟩=some (.slice (some ⟨b2,off2,none⟩) N IC):=((bg.fr hf zq).cell 2).trans g2.out
    have K00:wr.drew.cell? ⟨b2,off2+p*3,none⟩=some (.int .i64 m.id.b):=hfw.cell d0 zq
    have K10:wr.drew.cell? ⟨b2,off2+p*3+1,none⟩=some (.int .i64 m.id.s):=hfw.cell d1 zq
    have K20:wr.drew.cell? ⟨b2,off2+p*3+2,none⟩=some (.int .u64 (m.id.u:Int)):=hfw.cell d2 zq
    have O0:Own wr.drew w0.heap.size 38 3 Ax xs.length cx (xs.flatMap Id.cells):=hown.drew
    have H0:Fr Non w0 wr.drew:=hf.drew
    have gz:=Lib.hid ((bg.cell 2).trans g2.out)
    clear hid hm hcw hq hqo bg
    generalize m.id=z at*
    go_upto_region 7 with (fail)
    clear hf hown
    refine wp_region_held_drew (S:=fun w'=>w'.cell? ⟨b,off+k,none⟩=some (.int .i64 q)∧w'.cell? ⟨w.heap.size,2,none⟩=some (.slice (some ⟨b2,off2,none⟩) N IC)∧w'.cell? ⟨b2,off2+p*3,none⟩=some (.int .i64 z.b)∧w'.cell? ⟨b2,off2+p*3+1,none⟩=some (.int .i64 z.s)∧w'.cell? ⟨b2,off2+p*3+2,none⟩=some (.int .u64 (z.u:Int))) (by kernel_rfl) ⟨L0,G0,K00,K10,K20⟩ (fun hHeld=> ?_)
    clear hHeld
    refine tkH 0 ⟨L0,G0,K00,K10,K20⟩ (h:=tkH 1 ⟨L0,G0,K00,K10,K20⟩ (h:=tkH 2 ⟨L0,G0,K00,K10,K20⟩ (h:=tkH 3 ⟨L0,G0,K00,K10,K20⟩ (h:=tkH 4 ⟨L0,G0,K00,K10,K20⟩ (h:=tkH 5 ⟨L0,G0,K00,K10,K20⟩ (h:=tkH 6 ⟨L0,G0,K00,K10,K20⟩ (h:=tkH 7 ⟨L0,G0,K00,K10,K20⟩ (h:=tkH 8 ⟨L0,G0,K00,K10,K20⟩ (h:=tkH 9 ⟨L0,G0,K00,K10,K20⟩ (h:=?_))))))))))
    simp only [List.set]
    refine oG 10 (fun K hK=> ?_)
    go_simp
    go_wp2_with (go_at_call 25;(with_reducible refine (kar.out _).mono ?_);rintro _ v1 ⟨rfl,ew⟩;have fq1:Fr Non wr.drew v1:=ew▸Fr.refl _ _;clear ew;have L1:=fq1.cell L0 zq;have G1:=fq1.cell G0 zq;have K01:=fq1.cell K00 zq;have K11:=fq1.cell K10 zq;have K21:=fq1.cell K20 zq;have O1:=O0.fr fq1 zr;have H1:=H0.trans fq1 zr)
    refine hK.out _ _ ⟨L1,G1,K01,K11,K21⟩ (fun hZ=> ?_)
    clear hZ hK K
    try simp only [Ac,List.set]
    refine tkH 11 ⟨L1,G1,K01,K11,K21⟩ (h:=tkH 12 ⟨L1,G1,K01,K11,K21⟩ (h:=?_))
    simp only [List.set]
    refine oG 13 (fun K hK=> ?_)
    go_simp
    have fq2:Fr Non v1 (v1.alloc (.cells z.V 38)):=(Fr.refl _ _).alloc _
    have hnb:=Blk.new v1 38 z.V
    have L2:=fq2.cell L1 zq
    have G2:=fq2.cell G1 zq
    have K02:=fq2.cell K01 zq
    have K12:=fq2.cell K11 zq
    have K22:=fq2.cell K21 zq
    have O2:=O1.fr fq2 zr
    have H2:=H1.trans fq2 zr
    refine hK.out _ _ ⟨L2,G2,K02,K12,K22⟩ (fun hZ=> ?_)
    clear hZ hK K
    try simp only [Ac,List.set]
    generalize v1.alloc (.cells z.V 38)=v2 at*
    have hszn:=H2.size
    refine oG 14 (fun K hK=> ?_)
    refine Dp (base:=w0.heap.size) (.tmp 28) (.tmp 41) 28 rfl rfl rfl C9 O2 (Rd.blk (n:=1) (size:=3) hnb rfl) (by simp [Value.oneCell']) (by omega) (by omega) hszn ?_
    intro A2 c2' w4 own4 fr4 hat4
    have hr4:∀j,Ab Ax=some j→w0.heap.size≤j:=fun j e=>(hrow j e).1
    have fz:Fr Non w0 w4:=H2.trans fr4 (fun j hj e=>by have h5:=hr4 j e;omega)
    have fzw:Fr Non w w4:=f0.trans fz zr
    have L3:=fzw.cell c0 zq
    have G3:=fz.cell gz.out zq
    have K03:=fzw.cell d0 zq
    have K13:=fzw.cell d1 zq
    have K23:=fzw.cell d2 zq
    refine hK.out _ _ ⟨L3,G3,K03,K13,K23⟩ (fun hZ=> ?_)
    clear hZ hK K
    try simp only [Ac,List.set]
    refine tkH 15 ⟨L3,G3,K03,K13,K23⟩ (h:=?_)
    simp only [List.set]
    refine oD ?_
    go_simp
    have own5:Own w4 w0.heap.size 38 3 A2 (xs++[z]).length c2' ((xs++[z]).flatMap Id.cells):=by
     rw [Al2,Am3]
     exact own4
    have hl5:Hid ((xs++[z]).length=k+1):=by show _=_;rw [Al2,hxl.out];rfl
    clear L3 G3 K03 K13 K23 c0 d0 d1 d2 gz
    go_wp2_with (fail)
    go_roundw
    case rel=>exact ⟨k+1,A2,c2',xs++[z],by go_num,by rw [Al2];rfl,by omega,by omega,hl5,own5,fz⟩
    case measure=>simp [intOf];omega
   ·
    have kk:=Lib.hid (kw.out Ax cx xs wr hfw hown.rd (by omega))
    have hcs:=Lib.hid (hcw.out xs)
    have hd:Hid (∀e w',Cn (Fj l xs) wr e w'→POST e w'):=fun e w' h=>hpost.out _ wr e w' hfw h hcs.out
    have t3:(decide ((k:Int)<(n:Int))=true∧decide ((k:Int)<4)=false)∨decide ((k:Int)<(n:Int))=false:=by
     by_cases e:k<n
     · exact .inl ⟨decide_eq_true (by omega),decide_eq_false (by omega)⟩
     · exact .inr (decide_eq_false (by omega))
    clear kw hcw hpost hcs hid hxl hown hrow
    generalize Fj l xs=WL at*
    unfold Cn at kk hd
    have bgk:=bg.fr hf zq
    rcases t3 with ⟨t3,t4⟩|t3
    all_goals
     go_wp2_with (go_at_call 90;(with_reducible refine (kk.out).mono ?_);rintro _ w7 ⟨A5,c5,rfl,h5,h6⟩;have hdone:=Lib.hid (hd.out _ _ ⟨A5,c5,rfl,h5,h6⟩);clear kk hd h5 h6)
     all_goals first|exact hdone.out|(go_ret;exact hdone.out)
theorem plcI_neg {l:List Pn} {id:Id}:Aw l id<0↔(plc l id).isNone=true:=by
 unfold Aw
 cases plc l id with
 |none=>simp
 |some p=>simp
end Oq
namespace Oq
attribute [local go_sem] Am0 Am1
theorem Md {l:List Nat} {k q:Nat} {x:Nat} (h:l[k]? =some x):(l.take (k+1)).contains q=((l.take k).contains q||decide (q=x)):=by
 rw [Ea h,Bool.eq_iff_iff,Bool.or_eq_true,Am5,Am5,List.mem_append,Al8,decide_eq_true_eq]
theorem Ad9 (B n c:Nat) (A:Option Addr) (l:List Nat) (x:Nat) (w:World) (hn:Hid (l.length=n)) (hr:Rd w B 1 A n (l.map Qv)) (hnm:n≤1000000):
  Calls Tryz.prog 114 #[.slice A n c,.int .i64 (x:Int)] w fun e w'=>e=.returned (.bool (l.contains x))∧w=w':=by
 go_enter Tryz.func114,Tryz.ntmps114
 go_wp2
 go_loopw [5] (fun v wr=>∃k:Nat,v=.int .i64 (k:Int)∧k≤n∧Hid ((l.take k).contains x=false)∧w=wr) (fun v _=>n-(intOf v).toNat)
 case atStart=>exact ⟨0,rfl,by omega,rfl,rfl⟩
 case round=>
  obtain ⟨k,rfl,hk,hh,rfl⟩:=hrel
  by_cases hlt:k<n
  ·
   obtain ⟨y,hy⟩:∃y,l[k]? =some y:=⟨_,Al1 (by rw [hn.out];exact hlt)⟩
   obtain ⟨b,off,u,rfl,hbB,hu,c0⟩:=hr.at hlt
   rw [Al7,hy] at hu
   injection hu with hu
   subst hu
   have c0':w.cell? ⟨b,off+k,none⟩=some (.int .i64 (y:Int)):=c0
   clear c0
   have hsn:=Lib.hid (Md (q:=x) hy)
   have i1:(0:Int)≤k:=by omega
   have i2:(k:Int)<n:=by omega
   have i3:(k:Int).toNat=k:=by omega
   by_cases he:y=x
   ·
    have hb:((y:Int)==(x:Int))=true:=Cw (by omega)
    have hfin:Hid (l.contains x=true):=by
     show _=_
     rw [Am5]
     exact he▸Al6 hy
    clear hy
    go_wp2
    go_ret
    exact ⟨by rw [hfin.out];rfl,rfl⟩
   ·
    have hb:((y:Int)==(x:Int))=false:=Cu (by omega)
    have hfin:Hid ((l.take (k+1)).contains x=false):=by
     show _=_
     rw [hsn.out,hh.out,decide_eq_false (fun e=>he e.symm)]
     rfl
    clear hy
    go_wp2
    go_roundw
    case rel=>exact ⟨k+1,by go_num,by omega,hfin,by first|rfl|trivial⟩
    case measure=>first|(simp [intOf];done)|(simp [intOf];omega)
  ·
   obtain rfl:k=n:=by omega
   have hfin:Hid (l.contains x=false):=by have h:=hh.out;rw [Al9 (by rw [hn.out];omega)] at h;exact h
   go_wp2
   go_ret
   exact ⟨by rw [hfin.out];rfl,rfl⟩
def Cs (n:Nat) (s:Nat→Bool):List Value:=(Br n s).map Value.bool
theorem I5 {n i:Nat} (s:Nat→Bool) (h:i<n):(Cs n s)[i]? =some (.bool (s i)):=by
 unfold Cs
 rw [Al7,Pe h]
 rfl
theorem Ae0 {n i:Nat} (s:Nat→Bool):(Cs n s).set i (.bool true)=Cs n (fun q=>s q||decide (q=i)):=by
 apply List.ext_getElem?
 intro j
 by_cases hj:j<n
 ·
  rw [I5 _ hj,List.getElem?_set]
  split
  ·
   rename_i e
   subst e
   rw [if_pos (by simp [Cs,Fw];exact hj)]
   simp
  ·
   rename_i e
   rw [I5 _ hj,decide_eq_false (fun h=>e h.symm),Am6]
 · rw [An2 (by simp [Cs,Fw];omega),An2 (by simp [Cs,Fw];omega)]
theorem Ae1 (n:Nat):Cs n (fun _=>false)=(madeCells (Value.bool false).cells (n*1)).toList:=by
 rw [Ad1 (Value.bool false).cells (.bool false) (n*1) (by decide) (fun i hi=>by have:i=0:=by {have:(Value.bool false).cells.size=1:=rfl;omega};subst this;rfl),Nat.mul_one]
 unfold Cs Br
 rw [List.map_map,Am8]
 exact ⟨by simp,fun b hb=>by obtain ⟨x,_,rfl⟩:=List.mem_map.1 hb;rfl⟩
theorem I6:SlT Tryz.prog 112 4 (.bool false) 1 1:=⟨Tryz.underlying112,by kernel_rfl,rfl,by decide⟩
def I7 (n:Nat) (s:Nat→Bool) (w:World) (e:Ending) (w':World):Prop:=
 ∃A c,e=.returned (.slice A n c)∧Own w' w.heap.size 4 1 A n c (Cs n s)∧Fr Non w w'
structure Ct (w wr:World) (CS:Array Value) (n:Nat) (s:Nat→Bool):Prop where
 bg:Blk wr w.heap.size 32 CS
 own:Own wr (w.heap.size+1) 4 1 (some ⟨w.heap.size+1,0,none⟩) n n (Cs n s)
 fr:Fr Non w wr
theorem Ct.set {w wr:World} {CS:Array Value} {n:Nat} {s:Nat→Bool} (h:Ct w wr CS n s) {i:Nat} (hi:i<n):
  w.heap.size+1<wr.heap.size∧wr.cell? ⟨w.heap.size+1,i,none⟩=some (.bool (s i))∧wr.frozen? ⟨w.heap.size+1,i,none⟩=false∧Ct w (wr.setCell ⟨w.heap.size+1,i,none⟩ (.bool true)) CS n (fun q=>s q||decide (q=i)):=by
 obtain ⟨g,e,_,h2,h3,h4,h5⟩:=h.own.setAt (j:=i) (by omega) (.bool true)
 injection e with e
 injection e with e
 subst e
 exact ⟨h2,h3 _ (I5 s hi),h4,h.bg.far (p:=⟨_,_,_⟩) (fun e=>by have e':w.heap.size=w.heap.size+1:=e;omega) _,by rw [Ae0] at h5;exact h5,h.fr.setNew (by omega) _ _⟩
theorem Ct.is {w wr:World} {CS:Array Value} {n:Nat} {s t:Nat→Bool} (h:Ct w wr CS n s) (e:∀q,s q=t q):Ct w wr CS n t:=by
 have:s=t:=funext e
 subst this
 exact h
theorem Ct.post {w wr:World} {CS:Array Value} {n:Nat} {s:Nat→Bool} (h:Ct w wr CS n s):I7 n s w (.returned (.slice (some ⟨w.heap.size+1,0,none⟩) n n)) wr:=⟨_,_,rfl,h.own.lower (by omega),h.fr⟩
theorem Rs (base:Nat) (r:RG) (B n c:Nat) (A:Option Addr) (up:List Nat) (w:World) (h:r.own w base) (hn:Hid (up.length=n)) (hr:Rd w B 1 A n (up.map Qv)) (hnm:n≤1000000):
  Calls Tryz.prog 67 #[.agg r.cells,.slice A n c] w (I7 r.l.length (C3 (Df r.l) up r.l.length (fun _=>false)) w):=by
 have hfew:=h.few
 have bg:=Blk.new w 32 r.cells
 have f0:Fr Non w (w.alloc (.cells r.cells 32)):=(Fr.refl Non w).alloc _
 have sz0:(w.alloc (.cells r.cells 32)).heap.size=w.heap.size+1:=Al5 _ _
 have g1:Hid (r.cells[1]? =some (.slice r.lA r.l.length r.lC)):=rfl
 have g3:Hid (r.cells[3]? =some (.slice r.uA r.l.length r.uC)):=rfl
 have khas:=Lib.hid (fun (x:Nat) (w':World) (hf:Fr Non w w')=>Ad9 B n c A up x w' hn (hr.fr hf zr) hnm)
 have hrow:Hid (∀i,i<r.l.length→∃(us:List Nat) (A2:Option Addr) (c2 b off:Nat),r.uA=some ⟨b,off,none⟩∧w.cell? ⟨b,off+i,none⟩=some (.slice A2 us.length c2)∧Df r.l i=us∧us.length≤1000∧Rd w w.heap.size 1 A2 us.length (us.map Qv)∧∀q∈us,q<r.l.length):=by
  intro i hi
  obtain ⟨x,b,off,h1,h2,h3,_,h4⟩:=h.uAt (Al1 hi)
  have hok:=h.rows.ok i _ (Al1 hi)
  refine ⟨x.xs,x.A,x.c,b,off,h3,h4,by rw [h1];exact Kp (Al1 hi),?_,h2.sl.rd,?_⟩
  ·
   rw [h1,Gw]
   exact (h.ok _ (List.getElem_mem hi)).1.past.1
  ·
   rw [h1]
   exact Ko hok.placed
 clear h hr
 generalize Df r.l=US at*
 generalize r.l.length=N at*
 generalize r.uA=UA at*
 generalize r.uC=UC at*
 generalize r.lA=LA at*
 generalize r.lC=LC at*
 generalize r.cells=CS at*
 have c1:(w.alloc (.cells CS 32)).cell? ⟨w.heap.size,1,none⟩=some (.slice LA N LC):=(bg.cell 1).trans g1.out
 go_enter Tryz.func67,Tryz.ntmps67
 go_wp2_with (first|(refine Ad3 rfl (.tmp 10) 112 rfl I6 (n:=N) rfl rfl (by omega) (by omega) ?_;intro w1 own1 fr1;have bg1:=bg.fr fr1 zq;have hs1:=fr1.size;have c1:w1.cell? ⟨w.heap.size,1,none⟩=some (.slice LA N LC):=(bg1.cell 1).trans g1.out))
 have st1:Ct w w1 CS N (fun _=>false):=⟨bg1,by rw [Ae1,← sz0];exact own1,f0.trans fr1 zr⟩
 clear own1 fr1 bg1 bg f0
 go_loopw [6] (fun v wr=>∃(k:Nat) (s:Nat→Bool),v=.int .i64 ((k:Int)-1)∧k≤N∧Hid (C3 US up k s=C3 US up N (fun _=>false))∧Ct w wr CS N s) (fun v _=>(intOf v+1).toNat)
 case atStart=>exact ⟨N,fun _=>false,by go_num,by omega,rfl,st1⟩
 case round=>
  obtain ⟨k,s,rfl,hk,hpd,st⟩:=hrel
  clear st1 c1
  rcases Nat.eq_zero_or_pos k with h0|h0
  ·
   subst h0
   have hfin:=st.post
   have hs:s=C3 US up N (fun _=>false):=hpd.out
   rw [hs] at hfin
   have e0:((((0:Nat):Int))-1)= -1:=by omega
   rw [e0]
   go_wp2
   go_ret
   exact hfin
  ·
   obtain ⟨i,rfl⟩:∃i,k=i+1:=⟨k-1,by omega⟩
   have ei:(((i+1:Nat):Int)-1)=(i:Int):=by omega
   rw [ei]
   have i1:(0:Int)≤i:=by omega
   have i2:(i:Int)<N:=by omega
   have i3:(i:Int).toNat=i:=by omega
   obtain ⟨us,A2,c2,b,off,rfl,cu,hus,hul,hrd,hlt⟩:=hrow.out i (by omega)
   have hstep:Hid (C3 US up i (De US up i s)=C3 US up N (fun _=>false)):=hpd.out
   obtain ⟨hz,ci,fz,st2⟩:=st.set (i:=i) (by omega)
   obtain ⟨M,hM⟩:=Aa us.length
   rw [hM.out] at hrd cu hul
   have hpm:∀q,Cx up i s q=(s q||(decide (q=i)&&up.contains i)):=fun q=>rfl
   clear hpd hrow
   by_cases hc:up.contains i=true
   ·
    have st3:Ct w (wr.setCell ⟨w.heap.size+1,i,none⟩ (.bool true)) CS N (Cx up i s):=st2.is (fun q=>by rw [hpm,hc,Bool.and_true])
    have hpt:Cx up i s i=true:=by rw [hpm,hc,decide_eq_true rfl];simp
    have c3:(wr.setCell ⟨w.heap.size+1,i,none⟩ (.bool true)).cell? ⟨w.heap.size+1,i,none⟩=some (.bool true):=by
     have:=(st3.set (i:=i) (by omega)).2.1
     rwa [hpt] at this
    have kh:=Lib.hid (khas.out i wr st.fr)
    rw [hc] at kh
    have st3':=Lib.hid st3
    clear st2 hpm st3
    go_wp2_with (first|(go_at_call 114;(with_reducible refine (kh.out).mono ?_);rintro _ w5 ⟨rfl,rfl⟩))
    have hlen:us.length=us.length:=rfl
    go_wp2
    go_loopw [7] (fun v wi=>∃j:Nat,v=.int .i64 (j:Int)∧j≤M∧Ct w wi CS N (fun q=>Cx up i s q||(us.take j).contains q)) (fun v _=>M-(intOf v).toNat)
    case atStart=>exact ⟨0,rfl,by omega,st3'.out.is (fun q=>by rw [List.take_zero];simp)⟩
    case round=>
     obtain ⟨j,rfl,hj,sti⟩:=hrel
     have d3:=(sti.bg.cell 3).trans g3.out
     have cui:=sti.fr.cell cu zq
     by_cases hjm:j<M
     ·
      obtain ⟨y,hy⟩:∃y,us[j]? =some y:=⟨_,Al1 (by rw [hM.out];exact hjm)⟩
      have hyN:y<N:=hlt y (Al6 hy)
      obtain ⟨b2,off2,u,hA2,hb2,hu,cy⟩:=hrd.at hjm
      rw [Al7,hy] at hu
      injection hu with hu
      subst hu
      subst hA2
      have cyi:wr.cell? ⟨b2,off2+j,none⟩=some (.int .i64 (y:Int)):=sti.fr.cell cy zq
      obtain ⟨hz3,ci3,fz3,st3⟩:=sti.set (i:=y) hyN
      have hnx:Hid (Ct w (wr.setCell ⟨w.heap.size+1,y,none⟩ (.bool true)) CS N (fun q=>Cx up i s q||(us.take (j+1)).contains q)):=st3.is (fun q=>by rw [Md hy,Bool.or_assoc])
      clear hy st3 cy
      have j1:(0:Int)≤j:=by omega
      have j2:(j:Int)<M:=by omega
      have j3:(j:Int).toNat=j:=by omega
      have y1:(0:Int)≤y:=by omega
      have y2:(y:Int)<N:=by omega
      have y3:(y:Int).toNat=y:=by omega
      go_wp2
      go_roundw
      case rel=>exact ⟨j+1,by go_num,by omega,hnx.out⟩
      case measure=>first|(simp [intOf];done)|(simp [intOf];omega)
     ·
      obtain rfl:j=M:=by omega
      have hnx:Hid (Ct w wr CS N (De US up i s)):=sti.is (fun q=>by rw [Al9 (by rw [hM.out];omega),← hus];unfold De;rw [hpt,Bool.true_and])
      clear sti
      go_wp2
      go_roundw
      case rel=>exact ⟨i,De US up i s,by first|go_num|(congr 1;done)|(congr 1;omega),by omega,hstep,hnx.out⟩
      case measure=>first|(simp [intOf];done)|(simp [intOf];omega)
   ·
    have hc:=Al4 _▸hc
    have hps:∀q,Cx up i s q=s q:=fun q=>by rw [hpm,hc,Bool.and_false,Am6]
    have kh:=Lib.hid (khas.out i wr st.fr)
    rw [hc] at kh
    by_cases hsi:s i=true
    ·
     have hpt:Cx up i s i=true:=by rw [hps];exact hsi
     have ci:wr.cell? ⟨w.heap.size+1,i,none⟩=some (.bool true):=by rw [← hsi];exact ci
     have st3':=Lib.hid (st.is (fun q=>(hps q).symm))
     clear st2 hpm hps
     go_wp2_with (first|(go_at_call 114;(with_reducible refine (kh.out).mono ?_);rintro _ w5 ⟨rfl,rfl⟩))
     have hlen:us.length=us.length:=rfl
     go_wp2
     go_loopw [7] (fun v wi=>∃j:Nat,v=.int .i64 (j:Int)∧j≤M∧Ct w wi CS N (fun q=>Cx up i s q||(us.take j).contains q)) (fun v _=>M-(intOf v).toNat)
     case atStart=>exact ⟨0,rfl,by omega,st3'.out.is (fun q=>by rw [List.take_zero];simp)⟩
     case round=>
      obtain ⟨j,rfl,hj,sti⟩:=hrel
      have d3:=(sti.bg.cell 3).trans g3.out
      have cui:=sti.fr.cell cu zq
      by_cases hjm:j<M
      ·
       obtain ⟨y,hy⟩:∃y,us[j]? =some y:=⟨_,Al1 (by rw [hM.out];exact hjm)⟩
       have hyN:y<N:=hlt y (Al6 hy)
       obtain ⟨b2,off2,u,hA2,hb2,hu,cy⟩:=hrd.at hjm
       rw [Al7,hy] at hu
       injection hu with hu
       subst hu
       subst hA2
       have cyi:wr.cell? ⟨b2,off2+j,none⟩=some (.int .i64 (y:Int)):=sti.fr.cell cy zq
       obtain ⟨hz3,ci3,fz3,st3⟩:=sti.set (i:=y) hyN
       have hnx:Hid (Ct w (wr.setCell ⟨w.heap.size+1,y,none⟩ (.bool true)) CS N (fun q=>Cx up i s q||(us.take (j+1)).contains q)):=st3.is (fun q=>by rw [Md hy,Bool.or_assoc])
       clear hy st3 cy
       have j1:(0:Int)≤j:=by omega
       have j2:(j:Int)<M:=by omega
       have j3:(j:Int).toNat=j:=by omega
       have y1:(0:Int)≤y:=by omega
       have y2:(y:Int)<N:=by omega
       have y3:(y:Int).toNat=y:=by omega
       go_wp2
       go_roundw
       case rel=>exact ⟨j+1,by go_num,by omega,hnx.out⟩
       case measure=>first|(simp [intOf];done)|(simp [intOf];omega)
      ·
       obtain rfl:j=M:=by omega
       have hnx:Hid (Ct w wr CS N (De US up i s)):=sti.is (fun q=>by rw [Al9 (by rw [hM.out];omega),← hus];unfold De;rw [hpt,Bool.true_and])
       clear sti
       go_wp2
       go_roundw
       case rel=>exact ⟨i,De US up i s,by first|go_num|(congr 1;done)|(congr 1;omega),by omega,hstep,hnx.out⟩
       case measure=>first|(simp [intOf];done)|(simp [intOf];omega)
    ·
     have hsi:=Al4 _▸hsi
     have ci:wr.cell? ⟨w.heap.size+1,i,none⟩=some (.bool false):=by rw [← hsi];exact ci
     have hnx:Hid (Ct w wr CS N (De US up i s)):=st.is (fun q=>by unfold De;rw [hps,hps,hsi,Bool.false_and,Am6])
     clear st2 hpm hps st
     go_wp2_with (first|(go_at_call 114;(with_reducible refine (kh.out).mono ?_);rintro _ w5 ⟨rfl,rfl⟩))
     go_roundw
     case rel=>exact ⟨i,De US up i s,by first|go_num|(congr 1;done)|(congr 1;omega),by omega,hstep,hnx.out⟩
     case measure=>first|(simp [intOf];done)|(simp [intOf];omega)
theorem Ae2 (base:Nat) (r:RG) (x:OpL) (B c:Nat) (A:Option Addr) (p:Nat→Bool) (w:World) (h:r.own w base) (h1:1≤x.sq) (h2:x.sq≤9223372036854775807) (hr:Rd w B 1 A r.l.length (Cs r.l.length p)):
  Calls Tryz.prog 66 #[.agg r.cells,.agg x.cells,.slice A r.l.length c] w (Af (!Az r.l p x.op) w):=by
 have hfew:=h.few
 have bg:=(Blk.new w 32 r.cells).alloc (.cells x.cells 44)
 have bx:=Blk.new (w.alloc (.cells r.cells 32)) 44 x.cells
 rw [Al5] at bx
 have f0:Fr Non w ((w.alloc (.cells r.cells 32)).alloc (.cells x.cells 44)):=((Fr.refl Non w).alloc _).alloc _
 have g1:r.cells[1]? =some (.slice r.lA r.l.length r.lC):=rfl
 have c1:=(bg.cell 1).trans g1
 have x0:((w.alloc (.cells r.cells 32)).alloc (.cells x.cells 44)).cell? ⟨w.heap.size+1,0,none⟩=some (.int .i64 x.by_):=bx.cell 0
 have x1:((w.alloc (.cells r.cells 32)).alloc (.cells x.cells 44)).cell? ⟨w.heap.size+1,1,none⟩=some (.int .i64 x.sq):=bx.cell 1
 have hrow:Hid (∀k,k<r.l.length→∃(m:Pn) (b off:Nat),r.l[k]? =some m∧r.lA=some ⟨b,off,none⟩∧w.cell? ⟨b,off+k*27,none⟩=some (.int .i64 m.o.by_)∧w.cell? ⟨b,off+k*27+1,none⟩=some (.int .i64 m.o.sq)):=by
  intro k hk
  obtain ⟨y,b,off,_,h1,_,h3,_,h4⟩:=h.xAt (Al1 hk)
  refine ⟨_,b,off,Al1 hk,h3,?_,?_⟩
  · rw [← h1];exact h4 0 (by omega) _ rfl
  · rw [← h1];exact h4 1 (by omega) _ rfl
 have hbad:Hid (∀k m,r.l[k]? =some m→(m.o.by_==x.by_)=true→p k=true→x.sq≤m.o.sq→(!Az r.l p x.op)=false):=fun k m hm hb hp hs=>by
  rw [Wj (o:=x.op) hm (beq_iff_eq.1 hb) hp hs]
  rfl
 have hgood:Hid ((∀k m,k<r.l.length→r.l[k]? =some m→m.o.by_=x.by_→p k=true→m.o.sq<x.sq)→(!Az r.l p x.op)=((x.sq==1)||Ca r.l p x.by_ x.sq r.l.length)):=fun hh=>by
  rw [Wk (o:=x.op) h1 (fun k m hm=>hh k m (List.getElem?_eq_some_iff.1 hm).1 hm),Bool.not_not]
  rfl
 have hb0:=hr
 clear h g1 bg bx
 generalize (!Az r.l p x.op)=R at*
 generalize r.l=l at*
 generalize hN:l.length=N at*
 generalize r.lA=LA at*
 generalize r.lC=LC at*
 generalize r.cells=CS at*
 generalize x.cells=XS at*
 generalize x.by_=d at*
 generalize x.sq=sq at*
 clear hr hN
 have ew:IntKind.i64.wrap (sq-1)=sq-1:=IntWalk.i64_in _ (by omega)
 go_enter Tryz.func66,Tryz.ntmps66
 go_wp2
 generalize hw0:(w.alloc (.cells CS 32)).alloc (.cells XS 44)=w0 at*
 clear hw0
 go_loopw [7,8] (fun o v wr=>∃(k:Nat) (one:Bool),o=.bool one∧v=.int .i64 (k:Int)∧k≤N∧Hid (∀(j:Nat) (m:Pn),j<k→l[j]? =some m→m.o.by_=d→p j=true→m.o.sq<sq)∧Hid (one=Ca l p d sq k)∧Fr Non w0 wr) (fun _ v _=>N-(intOf v).toNat)
 case atStart=>exact ⟨0,false,rfl,rfl,by omega,fun j m hj=>absurd hj (Nat.not_lt_zero _),rfl,Fr.refl _ _⟩
 case round=>
  obtain ⟨k,one,rfl,rfl,hk,hall,hone,hf⟩:=hrel
  have d1:=hf.cell c1 zq
  have y0:=hf.cell x0 zq
  have y1:=hf.cell x1 zq
  have hfin:Fr Non w wr:=f0.trans hf zr
  clear c1 x0 x1
  by_cases hlt:k<N
  ·
   obtain ⟨m,b,off,hm,rfl,m0,m1⟩:=hrow.out k hlt
   have m0:=hfin.cell m0 zq
   have m1:=hfin.cell m1 zq
   obtain ⟨b3,off3,u,rfl,hb3,hu,cp⟩:=hb0.at hlt
   rw [I5 p hlt] at hu
   injection hu with hu
   subst hu
   have cp:=hfin.cell cp zq
   have hsucc:=Lib.hid (Q8 (p:=p) (d:=d) (s:=sq) hm)
   have i1:(0:Int)≤k:=by omega
   have i2:(k:Int)<N:=by omega
   have i3:(k:Int).toNat=k:=by omega
   have hnext:Hid ((m.o.by_=d→p k=true→m.o.sq<sq)→∀(j:Nat) (n:Pn),j<k+1→l[j]? =some n→n.o.by_=d→p j=true→n.o.sq<sq):=by
    intro hh j n hj hn
    rcases Nat.lt_or_ge j k with h1|h1
    · exact hall.out j n h1 hn
    ·
     have e:j=k:=by omega
     subst e
     rw [hm] at hn
     injection hn with hn
     subst hn
     exact hh
   have hbadk:=Lib.hid (hbad.out k m hm)
   clear hm hrow hbad hall
   by_cases hp:p k=true
   ·
    rw [hp] at cp
    by_cases hb:m.o.by_=d
    ·
     have f1:(m.o.by_ !=d)=false:=by simp [hb]
     by_cases hs:sq≤m.o.sq
     ·
      have hR:Hid (R=false):=hbadk.out (Cw hb) hp hs
      have f2:decide (m.o.sq≥sq)=true:=decide_eq_true hs
      have f3:decide (sq≤m.o.sq)=true:=decide_eq_true hs
      clear hnext hsucc hone hbadk hgood hb0
      generalize m.o.by_=mb at*
      generalize m.o.sq=ms at*
      go_wp2
      go_quiet (fail)
      go_wp2
      go_quiet (fail)
      go_wp2
      go_ret
      exact ⟨by rw [hR.out];rfl,by first|exact hfin.drewN _|exact (hfin.drewN _).drewN _⟩
     ·
      have f2:decide (m.o.sq≥sq)=false:=decide_eq_false hs
      have f3:decide (sq≤m.o.sq)=false:=decide_eq_false hs
      have hall:=Lib.hid (hnext.out (fun _ _=>Int.not_le.1 hs))
      have hone':Hid ((one||(m.o.sq==sq-1))=Ca l p d sq (k+1)):=by
       show _=_
       rw [hsucc.out,hone.out,hp,Cw hb]
       rfl
      clear hnext hsucc hone hbadk hgood hb0
      generalize m.o.by_=mb at*
      generalize m.o.sq=ms at*
      cases one with
      |true=>
       go_wp2
       go_quiet (fail)
       go_wp2
       go_quiet (fail)
       go_wp2
       go_quiet (fail)
       go_wp2
       go_roundw
       case rel=>exact ⟨k+1,_,rfl,by go_num,by omega,hall.out,hone',hf.drewN _⟩
       case measure=>first|(simp [intOf];done)|(simp [intOf];omega)
      |false=>
       generalize hq:(ms==sq-1)=q at*
       go_wp2
       go_quiet (fail)
       go_wp2
       go_quiet (fail)
       go_wp2
       go_quiet (fail)
       go_wp2
       go_roundw
       case rel=>exact ⟨k+1,_,rfl,by go_num,by omega,hall.out,hone',hf.drewN _⟩
       case measure=>first|(simp [intOf];done)|(simp [intOf];omega)
    ·
     have f1:(m.o.by_ !=d)=true:=by simp [hb]
     have hall:=Lib.hid (hnext.out (fun h=>absurd h hb))
     have hone':Hid (one=Ca l p d sq (k+1)):=by
      show _=_
      rw [hsucc.out,hone.out,Cu hb]
      simp
     clear hnext hsucc hone hbadk hgood hb0
     generalize m.o.by_=mb at*
     generalize m.o.sq=ms at*
     go_wp2
     go_quiet (fail)
     go_wp2
     go_roundw
     case rel=>exact ⟨k+1,_,rfl,by go_num,by omega,hall.out,hone',hf.drewN _⟩
     case measure=>first|(simp [intOf];done)|(simp [intOf];omega)
   ·
    have hp:=Al4 _▸hp
    rw [hp] at cp
    have hall:=Lib.hid (hnext.out (fun _ h=>absurd h (by rw [hp];simp)))
    have hone':Hid (one=Ca l p d sq (k+1)):=by
     show _=_
     rw [hsucc.out,hone.out,hp]
     simp
    clear hnext hsucc hone hbadk hgood hb0
    generalize m.o.by_=mb at*
    generalize m.o.sq=ms at*
    go_wp2
    go_quiet (fail)
    go_wp2
    go_roundw
    case rel=>exact ⟨k+1,_,rfl,by go_num,by omega,hall.out,hone',hf.drewN _⟩
    case measure=>first|(simp [intOf];done)|(simp [intOf];omega)
  ·
   obtain rfl:k=N:=by omega
   have hR:Hid (R=((sq==1)||one)):=by
    show _=_
    rw [hone.out]
    exact hgood.out hall.out
   clear hgood hall hone hbad hrow hb0
   by_cases hs:sq=1
   ·
    have f1:(sq==1)=true:=Cw hs
    rw [f1] at hR
    clear hs
    go_wp2
    go_ret
    exact ⟨by rw [hR.out];rfl,hfin⟩
   ·
    have f1:(sq==1)=false:=Cu hs
    rw [f1] at hR
    clear hs
    go_wp2
    go_ret
    exact ⟨by rw [hR.out];rfl,hfin⟩
theorem Ae3 (base:Nat) (r:RG) (d:Int) (w:World) (h:r.own w base):Calls Tryz.prog 64 #[.agg r.cells,.int .i64 d] w (Ep ((Bk r.cards d).getD Cd.zero) (Bk r.cards d).isSome w):=by
 have hr:=h.cards.sl.rd
 have hn:=h.cfew
 have g0:r.cells[0]? =some (.slice r.cA r.cards.length r.cC):=rfl
 have hfin:Hid (Bk r.cards d=r.cards.find? (fun c=>c.d==d)):=rfl
 generalize Bk r.cards d=R at*
 clear h
 generalize r.cells=CS at*
 generalize r.cA=CA at*
 generalize r.cC=CC at*
 generalize hl:r.cards=l at*
 clear hl
 obtain ⟨n,hnn⟩:=Aa l.length
 rw [hnn.out] at hr g0 hn
 have f0:Fr Non w ((w.alloc (.cells CS 32)).alloc (.cells zC 81)):=((Fr.refl Non w).alloc _).alloc _
 have bg:=(Blk.new w 32 CS).alloc (.cells zC 81)
 have b0:=Blk.new (w.alloc (.cells CS 32)) 81 zC
 rw [Al5] at b0
 have c0:=(bg.cell 0).trans g0
 replace hr:=hr.fr f0 zr
 clear bg g0
 go_enter Tryz.func64,Tryz.ntmps64
 go_upto_region 1 with (fail)
 generalize (w.alloc (.cells CS 32)).alloc (.cells zC 81)=w0 at*
 go_wp2_with (fail)
 go_loopw [5,6] (fun r v wr=>∃k:Nat,r=.bool false∧v=.int .i64 (k:Int)∧k≤n∧Hid ((l.take k).find? (fun c=>c.d==d)=none)∧Fr Non w0 wr) (fun _ v _=>n-(intOf v).toNat)
 case atStart=>exact ⟨0,rfl,rfl,by omega,rfl,Fr.refl _ _⟩
 case round=>
  obtain ⟨k,rfl,rfl,hk,hh,hf⟩:=hrel
  have b1:=b0.fr hf zq
  have f1:=f0.trans hf zr
  replace c0:=hf.cell c0 zq
  by_cases hlt:k<n
  ·
   have i1:(0:Int)≤k:=by omega
   have i2:(k:Int)<n:=by omega
   have i3:(k:Int).toNat=k:=by omega
   obtain ⟨c,hc⟩:∃c,l[k]? =some c:=⟨_,Al1 (by rw [hnn.out];exact hlt)⟩
   obtain ⟨b,off,hA,hbB,hcell⟩:=El (f:=Cd.cells) (fun _=>rfl) (by omega) (hr.fr hf zr) hc
   have d0:wr.cell? ⟨b,off+k*5,none⟩=some (.int .i64 c.d):=hcell 0 (by omega) _ rfl
   have d1:wr.cell? ⟨b,off+k*5+1,none⟩=some (.int .i64 c.m):=hcell 1 (by omega) _ rfl
   have d2:wr.cell? ⟨b,off+k*5+2,none⟩=some (.int .u64 (c.l:Int)):=hcell 2 (by omega) _ rfl
   have d3:wr.cell? ⟨b,off+k*5+3,none⟩=some (.int .u64 (c.k:Int)):=hcell 3 (by omega) _ rfl
   have d4:wr.cell? ⟨b,off+k*5+4,none⟩=some (.int .u64 (c.s:Int)):=hcell 4 (by omega) _ rfl
   clear hcell hbB
   subst hA
   rcases zb (c.d==d) with hcd|hcd
   ·
    have hR:Hid (R=some c):=by
     show _=_
     rw [hfin.out,← List.take_append_drop k l,An3,hh.out,List.drop_eq_getElem_cons (by rw [hnn.out];exact hlt)]
     rw [Al1 (by rw [hnn.out];exact hlt)] at hc
     rw [Option.some.inj hc]
     simp [hcd]
    have fin:Hid (∀wz,Fr (One (w.heap.size+1)) wr wz→Ep (R.getD Cd.zero) R.isSome w (.returned (.tuple #[.agg #[.int .i64 c.d,.int .i64 c.m,.int .u64 (c.l:Int),.int .u64 (c.k:Int),.int .u64 (c.s:Int)],.bool true])) wz):=by
     intro wz hz
     refine ⟨?_,f1.trans hz (fun k hk e=>absurd hk (by have e':k=w.heap.size+1:=e;omega))⟩
     rw [hR.out]
     rfl
    clear hfin hc hh f1
    generalize R.getD Cd.zero=RC at*
    generalize R.isSome=RS at*
    have e0:wr.cell? ⟨w.heap.size+1,0,none⟩=some (.int .i64 0):=b1.cell 0
    have z0:wr.frozen? ⟨w.heap.size+1,0,none⟩=false:=b1.frozen 0
    have e1:wr.cell? ⟨w.heap.size+1,1,none⟩=some (.int .i64 0):=b1.cell 1
    have z1:wr.frozen? ⟨w.heap.size+1,1,none⟩=false:=b1.frozen 1
    have e2:wr.cell? ⟨w.heap.size+1,2,none⟩=some (.int .u64 0):=b1.cell 2
    have z2:wr.frozen? ⟨w.heap.size+1,2,none⟩=false:=b1.frozen 2
    have e3:wr.cell? ⟨w.heap.size+1,3,none⟩=some (.int .u64 0):=b1.cell 3
    have z3:wr.frozen? ⟨w.heap.size+1,3,none⟩=false:=b1.frozen 3
    have e4:wr.cell? ⟨w.heap.size+1,4,none⟩=some (.int .u64 0):=b1.cell 4
    have z4:wr.frozen? ⟨w.heap.size+1,4,none⟩=false:=b1.frozen 4
    have hz2:=(((((b1.set 0 (.int .i64 c.d)).set 1 (.int .i64 c.m)).set 2 (.int .u64 (c.l:Int))).set 3 (.int .u64 (c.k:Int))).set 4 (.int .u64 (c.s:Int)))
    have fz:=((((((Fr.refl (One (w.heap.size+1)) wr).setCell (p:=⟨w.heap.size+1,0,none⟩) (fun _=>rfl) (.int .i64 c.d)).setCell (p:=⟨w.heap.size+1,1,none⟩) (fun _=>rfl) (.int .i64 c.m)).setCell (p:=⟨w.heap.size+1,2,none⟩) (fun _=>rfl) (.int .u64 (c.l:Int))).setCell (p:=⟨w.heap.size+1,3,none⟩) (fun _=>rfl) (.int .u64 (c.k:Int))).setCell (p:=⟨w.heap.size+1,4,none⟩) (fun _=>rfl) (.int .u64 (c.s:Int)))
    clear b1
    go_wp2_with (fail)
    (try simp only [Exit.inBlock,Exit.then])
    refine Fp (t:=81) rfl rfl hz2 rfl Tryz.underlying81 (by kernel_rfl) rfl ?_
    exact fin.out _ fz
   ·
    have hsn:Hid ((l.take (k+1)).find? (fun c=>c.d==d)=none):=by
     show _=_
     rw [List.take_add_one,An3,hh.out,hc]
     simp [hcd]
    clear hfin hc hh b1
    go_wp2_with (fail)
    go_roundw
    case rel=>exact ⟨k+1,rfl,by go_num,by omega,hsn,hf⟩
    case measure=>simp [intOf];omega
  ·
   obtain rfl:n=k:=by omega
   have hR:Hid (R=none):=by
    show _=_
    rw [hfin.out]
    have h:=hh.out
    rwa [Al9 (by rw [hnn.out];omega)] at h
   have fin:Hid (∀wz,Fr (One (w.heap.size+1)) wr wz→Ep (R.getD Cd.zero) R.isSome w (.returned (.tuple #[.agg zC,.bool false])) wz):=by
    intro wz hz
    refine ⟨?_,f1.trans hz (fun k hk e=>absurd hk (by have e':k=w.heap.size+1:=e;omega))⟩
    rw [hR.out]
    rfl
   clear hfin hh
   generalize R.getD Cd.zero=RC at*
   generalize R.isSome=RS at*
   have e0:wr.cell? ⟨w.heap.size+1,0,none⟩=some (.int .i64 0):=b1.cell 0
   have z0:wr.frozen? ⟨w.heap.size+1,0,none⟩=false:=b1.frozen 0
   have e1:wr.cell? ⟨w.heap.size+1,1,none⟩=some (.int .i64 0):=b1.cell 1
   have z1:wr.frozen? ⟨w.heap.size+1,1,none⟩=false:=b1.frozen 1
   have e2:wr.cell? ⟨w.heap.size+1,2,none⟩=some (.int .u64 0):=b1.cell 2
   have z2:wr.frozen? ⟨w.heap.size+1,2,none⟩=false:=b1.frozen 2
   have e3:wr.cell? ⟨w.heap.size+1,3,none⟩=some (.int .u64 0):=b1.cell 3
   have z3:wr.frozen? ⟨w.heap.size+1,3,none⟩=false:=b1.frozen 3
   have e4:wr.cell? ⟨w.heap.size+1,4,none⟩=some (.int .u64 0):=b1.cell 4
   have z4:wr.frozen? ⟨w.heap.size+1,4,none⟩=false:=b1.frozen 4
   have hz2:=(((((b1.set 0 (.int .i64 0)).set 1 (.int .i64 0)).set 2 (.int .u64 0)).set 3 (.int .u64 0)).set 4 (.int .u64 0))
   have fz:=((((((Fr.refl (One (w.heap.size+1)) wr).setCell (p:=⟨w.heap.size+1,0,none⟩) (fun _=>rfl) (.int .i64 0)).setCell (p:=⟨w.heap.size+1,1,none⟩) (fun _=>rfl) (.int .i64 0)).setCell (p:=⟨w.heap.size+1,2,none⟩) (fun _=>rfl) (.int .u64 0)).setCell (p:=⟨w.heap.size+1,3,none⟩) (fun _=>rfl) (.int .u64 0)).setCell (p:=⟨w.heap.size+1,4,none⟩) (fun _=>rfl) (.int .u64 0))
   go_wp2_with (fail)
   (try simp only [Exit.inBlock,Exit.then])
   refine Fp (t:=81) rfl rfl hz2 rfl Tryz.underlying81 (by kernel_rfl) rfl ?_
   exact fin.out _ fz
end Oq
def Sg.In (M pub R S:Int):Prop:=1≤pub∧pub≤M∧1≤R∧R≤M∧S<M
theorem Sg.in_ways (M pub R S:Int) (h:¬Sg.In M pub R S):pub<1∨(1≤pub∧M<pub)∨(1≤pub∧pub≤M∧R<1)∨(1≤pub∧pub≤M∧1≤R∧M<R)∨(1≤pub∧pub≤M∧1≤R∧R≤M∧M≤S):=by
 unfold Sg.In at h
 omega
theorem Sg.check_in (pub R S:Nat) (bs:List UInt8) (h:Sg.In 2305843009213693950 pub R S):Sg.check pub bs R S=(Fd.pow 37 S==Fd.mul R (Fd.pow pub (Sg.e R pub bs))):=by
 obtain ⟨h1,h2,h3,h4,h5⟩:=h
 have e1:Sg.within pub 1 2305843009213693950=true:=Sg.within_yes (lo:=1) (hi:=2305843009213693950) (by omega) (by omega)
 have e2:Sg.within R 1 2305843009213693950=true:=Sg.within_yes (lo:=1) (hi:=2305843009213693950) (by omega) (by omega)
 have e3:Sg.within S 0 2305843009213693949=true:=Sg.within_yes (lo:=0) (hi:=2305843009213693949) (by omega) (by omega)
 show (Sg.within pub 1 2305843009213693950&&Sg.within R 1 2305843009213693950&&Sg.within S 0 2305843009213693949&&(Fd.pow 37 S==Fd.mul R (Fd.pow pub (Sg.e R pub bs))))=_
 rw [e1,e2,e3]
 rfl
theorem Sg.check_out (pub R S:Nat) (bs:List UInt8) (h:¬Sg.In 2305843009213693950 pub R S):Sg.check pub bs R S=false:=by
 show (Sg.within pub 1 2305843009213693950&&Sg.within R 1 2305843009213693950&&Sg.within S 0 2305843009213693949&&(Fd.pow 37 S==Fd.mul R (Fd.pow pub (Sg.e R pub bs))))=false
 by_cases e1:Sg.within pub 1 2305843009213693950=true
 ·
  by_cases e2:Sg.within R 1 2305843009213693950=true
  ·
   by_cases e3:Sg.within S 0 2305843009213693949=true
   ·
    exfalso
    apply h
    unfold Sg.within at e1 e2 e3
    simp only [An1,decide_eq_true_eq] at e1 e2 e3
    exact ⟨e1.1,e1.2,e2.1,e2.2,Int.lt_of_le_of_lt e3.2 (by decide)⟩
   · simp only [Al4] at e3;rw [e3];simp
  · simp only [Al4] at e2;rw [e2];simp
 · simp only [Al4] at e1;rw [e1];simp
theorem Ae4 (pub R S n c:Nat) (A:Option Addr) (w:World) (hway:¬Sg.In 2305843009213693950 pub R S):
  Calls Tryz.prog 65 #[.int .u64 (pub:Int),.slice A n c,Dz R S] w (Af false w):=by
 unfold Dz
 have hb0:=Blk.new w 25 #[.int .u64 (R:Int),.int .u64 (S:Int)]
 have hf0:Fr Non w (w.alloc (.cells #[.int .u64 (R:Int),.int .u64 (S:Int)] 25)):=(Fr.refl _ _).alloc _
 have c0:=hb0.cell 0
 have c1:=hb0.cell 1
 have hord:(∀w,Calls Tryz.prog 101 #[] w fun e w'=>e=.returned (.int .u64 2305843009213693950)∧w'=w):=fun w=>(H8 w).mono fun _ _ h=>⟨h.1,h.2.symm⟩
 have hway:=Sg.in_ways _ _ _ _ hway
 rcases hway with t1|⟨t1,t2⟩|⟨t1,t2,t3⟩|⟨t1,t2,t3,t4⟩|⟨t1,t2,t3,t4,t5⟩
 all_goals
  go_enter Tryz.func65,Tryz.ntmps65
  generalize (2305843009213693950:Int)=M at*
  have hord':=Lib.hid hord
  clear hord
  go_wp2
  go_quiet (first|(go_at_call 101;exact Calls.quiet_of_same (hord'.out _)))
  go_wp2
  go_ret
  exact ⟨rfl,hf0.drewN _⟩
theorem Ae5 (pub R S B n c:Nat) (A:Option Addr) (bs:List UInt8) (w:World) (hp:pub<18446744073709551616) (hR:R<18446744073709551616) (hS:S<18446744073709551616) (hlen:Hid (bs.length=n)) (hn:n≤1099511627775) (hB:B≤w.heap.size) (hr:Rd w B 1 A n (bs.map Bv)) (hin:Sg.In 2305843009213693950 pub R S):
  Calls Tryz.prog 65 #[.int .u64 (pub:Int),.slice A n c,Dz R S] w (Af (Sg.check pub bs R S) w):=by
 unfold Dz
 have hb0:=Blk.new w 25 #[.int .u64 (R:Int),.int .u64 (S:Int)]
 have hf0:Fr Non w (w.alloc (.cells #[.int .u64 (R:Int),.int .u64 (S:Int)] 25)):=(Fr.refl _ _).alloc _
 have c0:=hb0.cell 0
 have c1:=hb0.cell 1
 have hr0:=hr.alloc (.cells #[.int .u64 (R:Int),.int .u64 (S:Int)] 25)
 have hz0:B≤(w.alloc (.cells #[.int .u64 (R:Int),.int .u64 (S:Int)] 25)).heap.size:=by simp;omega
 have hord:(∀w,Calls Tryz.prog 101 #[] w fun e w'=>e=.returned (.int .u64 2305843009213693950)∧w'=w):=fun w=>(H8 w).mono fun _ _ h=>⟨h.1,h.2.symm⟩
 have hck2:=Lib.hid (Sg.check_in pub R S bs hin)
 obtain ⟨t1,t2,t3,t4,t5⟩:=hin
 go_enter Tryz.func65,Tryz.ntmps65
 generalize (2305843009213693950:Int)=M at*
 have hord':=Lib.hid hord
 clear hord
 go_wp2
 go_quiet (first|(go_at_call 101;exact Calls.quiet_of_same (hord'.out _)))
 have le:=Sg.e_lt R pub bs
 have hee:=Lib.hid (fun B w hB hr=>Oz R pub B n c A bs w hR hp hlen hn hB hr)
 obtain ⟨E,hE⟩:=Aa (Sg.e R pub bs)
 rw [hE.out] at le hck2 hee
 have p1:Hid (∀w,Calls Tryz.prog 98 #[.int .u64 37,.int .u64 (S:Int)] w (Cf (Fd.pow 37 S) w)):=fun w=>(Gt 37 S w (by omega) hS).mono fun _ _ ⟨h,k,e⟩=>⟨h,by rw [e];exact (Fr.refl _ _).drewN _⟩
 have p2:Hid (∀w,Calls Tryz.prog 98 #[.int .u64 (pub:Int),.int .u64 (E:Int)] w (Cf (Fd.pow pub E) w)):=fun w=>(Gt pub E w hp (by omega)).mono fun _ _ ⟨h,k,e⟩=>⟨h,by rw [e];exact (Fr.refl _ _).drewN _⟩
 have lq:=Fd.pow_lt pub E
 obtain ⟨q,hq⟩:=Aa (Fd.pow pub E)
 obtain ⟨t,ht⟩:=Aa (Fd.pow 37 S)
 rw [hq.out] at p2 lq hck2
 rw [ht.out] at p1 hck2
 have p3:Hid (∀w,Calls Tryz.prog 113 #[.int .u64 (R:Int),.int .u64 (q:Int)] w (Cf (Fd.mul R q) w)):=fun w=>(H6 R q w hR (by omega)).mono fun _ _ ⟨h,k,e⟩=>⟨h,by rw [e];exact (Fr.refl _ _).drewN _⟩
 obtain ⟨v,hv⟩:=Aa (Fd.mul R q)
 rw [hv.out] at p3 hck2
 have hb1:=hb0.drewN nq
 have hr1:=hr0.drewN nq
 have hf1:=hf0.drewN nq
 have hz1:=Al3 hz0 (Nat.le_of_eq (show (w.alloc (.cells #[.int .u64 (R:Int),.int .u64 (S:Int)] 25)).heap.size=((w.alloc (.cells #[.int .u64 (R:Int),.int .u64 (S:Int)] 25)).drewN nq).heap.size from rfl))
 generalize (w.alloc (.cells #[.int .u64 (R:Int),.int .u64 (S:Int)] 25)).drewN nq=w1 at*
 have hb1d:Blk w1.drew w.heap.size 25 #[.int .u64 (R:Int),.int .u64 (S:Int)]:=hb1
 have d0:=hb1d.cell 0
 have d1:=hb1d.cell 1
 have hr1d:Rd w1.drew B 1 A n (bs.map Bv):=hr1
 have hz1d:B≤w1.drew.heap.size:=hz1
 clear c0 c1
 go_wp2_with (fail)
 go_region_held3 (fun w'=>w'.cell? ⟨w.heap.size,0,none⟩=some (.int .u64 (R:Int))∧w'.cell? ⟨w.heap.size,1,none⟩=some (.int .u64 (S:Int))) (go_keep) (first
  |(go_at_call 98;(with_reducible refine (p1.out _).mono ?_);rintro _ w2 ⟨rfl,hf2⟩;have g0:=hf2.cell d0 zq;have g1:=hf2.cell d1 zq)
  |(go_at_call 100;(with_reducible refine (hee.out B _ (Al3 hz1d hf2.size) (hr1d.fr hf2 zr)).mono ?_);rintro _ w3 ⟨rfl,hf3⟩;have ga:=hf3.cell g0 zq;have gb:=hf3.cell g1 zq)
  |(go_at_call 98;(with_reducible refine (p2.out _).mono ?_);rintro _ w4 ⟨rfl,hf4⟩;have gc:=hf4.cell ga zq;have gd:=hf4.cell gb zq)
  |(go_at_call 113;(with_reducible refine (p3.out _).mono ?_);rintro _ w5 ⟨rfl,hf5⟩;have ge:=hf5.cell gc zq;have gf:=hf5.cell gd zq))
 go_wp2
 go_ret
 refine ⟨congrArg (fun z=>Ending.returned (.bool z)) ?_,(((hf1.drew.trans hf2 zr).trans hf3 zr).trans hf4 zr).trans hf5 zr⟩
 rw [hck2.out,Bool.eq_iff_iff]
 simp only [beq_iff_eq]
 exact Int.ofNat_inj
set_option linter.unusedVariables false in
theorem Ae6 (pub R S B n c:Nat) (A:Option Addr) (bs:List UInt8) (w:World) (hp:pub<18446744073709551616) (hR:R<18446744073709551616) (hS:S<18446744073709551616) (hlen:Hid (bs.length=n)) (hnc:n≤c) (hn:n≤1099511627775) (hB:B≤w.heap.size) (hr:Rd w B 1 A n (bs.map Bv)):
  Calls Tryz.prog 65 #[.int .u64 (pub:Int),.slice A n c,Dz R S] w (Af (Sg.check pub bs R S) w):=by
 by_cases h:Sg.In 2305843009213693950 pub R S
 · exact Ae5 pub R S B n c A bs w hp hR hS hlen hn hB hr h
 ·
  rw [Sg.check_out _ _ _ _ h]
  exact Ae4 pub R S n c A w h
end
end Go.Proofs.YtafonabghnogaaaGreatDoor
