/-
  huddlelaw12.GraphPasts: what is in whose past, which are the heads, and the levels, is the document's.
    Conditions: op.kinds lies as its text lays it; the numbers read.
  GraphPasts: whatever the input is, where the one listed variable is as its text lays it, the law returns true, and nothing that was there has turned.
    Condition: none.
  GraphPasts: the tied card.
    Condition: none.
-/
import Derived.ChangeVars
import Derived.JoinedOf
import Derived.RowKitTokens
import Derived.LaidLaws
import Derived.Test.YtafonabghnogaaaGreatDoorTie
import Derived.Test.YtafonabghnogaaaGreatDoorCards
import Derived.SevenTiedAt
import Derived.Test.YtafonabghnogaaaGreatDoorGpM1
import Derived.Test.YtafonabghnogaaaGreatDoorGpM4
import Derived.Test.YtafonabghnogaaaGreatDoorGpM16
import Derived.Test.YtafonabghnogaaaGreatDoorGpM17
import Derived.Test.YtafonabghnogaaaGreatDoorGpM18
set_option maxRecDepth 100000
set_option maxHeartbeats 16000000
open List renaming length_append→Ak2,mem_of_getElem?→Ak3,getElem?_eq_getElem→Ak4,flatMap_append→Ak7
open Nat renaming zero_mul→Ak5
open Go.World renaming size_alloc→Ak6
namespace Go.Proofs.YtafonabghnogaaaGreatDoor
section
open Go.RowKit
attribute [local go_sem ↓] Go.wp_at_zero Go.wp_at_succ
namespace Oq
attribute [local go_sem ↓] Cf Ef
attribute [local go_sem] Bool.not_false Bool.not_true
attribute [local go_sem ↓] Ek Ma
theorem graphPasts_law (A:Option Addr) (c:Nat) (l0:List Int) (Ap:Option Addr) (cp:Nat) (lp:List Int) (Aa:Option Addr) (ca:Nat) (la:List Int) (no:Id) (w:World) (hk:KindsAt w)
  (hr:Rd w w.heap.size 1 A l0.length (l0.map Iv)) (hnc:l0.length≤c) (hnm:c≤9223372036854775807) (hok:∀x∈l0,I64 x)
  (hrp:Rd w w.heap.size 1 Ap lp.length (lp.map Iv)) (_:lp.length≤cp) (_:cp≤9223372036854775807) (hokp:∀x∈lp,I64 x)
  (hra:Rd w w.heap.size 1 Aa la.length (la.map Iv)) (_:la.length≤ca) (_:ca≤9223372036854775807) (hoka:∀x∈la,I64 x) (hno:no.ok):
  Calls Tryz.prog 10 #[.slice A l0.length c,.slice Ap lp.length cp,.slice Aa la.length ca,.agg no.V] w (Ae true w):=by
 have hpos:0<w.heap.size:=World.block_lt_of_cell? w _ (hk 0 (by decide))
 have f0:Fr Non w (w.alloc (.cells no.V 38)):=(Fr.refl Non w).alloc _
 have bno:=Blk.new w 38 no.V
 have km:=Lib.hid (Ai7 w.heap.size l0.length c A l0 (w.alloc (.cells no.V 38)) rfl (hr.fr f0 zr) hnc hnm hok)
 have kof:=Lib.hid (fun (b:Nat) (r:RG) (w':World) (hf:Fr Non w w') (h:r.own w' b) (hcs:r.cards=Bf 0 [1,2,3,1])=>Hz b r w' h hcs (Nat.lt_of_lt_of_le hpos hf.size) (hk.fr hf))
 have kcl:=Lib.hid (fun (b:Nat) (r:RG) (w':World) (hf:Fr Non w w') (h:r.own w' b)=>R3 b r w.heap.size lp.length cp Ap lp w' h rfl (hrp.fr hf zr) hokp)
 have hlv:=fun (w':World) (hf:Fr Non w w')=>Aj7 w' (hk.fr hf)
 unfold Ae at hlv
 replace hlv:=Lib.hid hlv
 have hfin:Hid (∀wz,Fr Non w wz→Ae true w (.returned (.bool true)) wz):=fun wz h=>⟨rfl,h⟩
 generalize Ae true w=POST at*
 obtain ⟨nl,hnl⟩:=Ab l0.length
 rw [hnl.out] at km ⊢
 obtain ⟨np,hnp⟩:=Ab lp.length
 rw [hnp.out] at kcl ⊢
 obtain ⟨na,hna⟩:=Ab la.length
 rw [hna.out] at hra ⊢
 have sz0:w.heap.size+1≤(w.alloc (.cells no.V 38)).heap.size:=by rw [Ak6];exact Nat.le_refl _
 clear hk hr hnc hnm hok hrp hokp hnl hnp hpos
 go_enter Tryz.func10,Tryz.ntmps10
 go_upto_region 1 with (fail)
 generalize w.alloc (.cells no.V 38)=w0 at*
 go_upto_region 2 with (first|(go_at_call 12;(with_reducible refine (km.out).mono ?_);rintro _ w1 ⟨r,rfl,f1,ro,hcd,hne⟩;have bn:=Blk.new w1 32 zG;have hst:=Ci (P:=Tryz.prog) w1.heap.size 32 (cs:=r.cells) C0 (old:=zG) rfl (Ed r)))
 have bG:Blk ((w1.alloc (.cells zG 32)).setRow w1.heap.size r.cells) w1.heap.size 32 r.cells:=bn.setRow (cs:=r.cells)
 have fG:Fr Non w1 ((w1.alloc (.cells zG 32)).setRow w1.heap.size r.cells):=((Fr.refl Non w1).alloc _).setRow (fun hh=>absurd hh (by omega)) _
 have ro2:=ro.non fG
 have f02:=(f0.trans f1 zr).trans fG zr
 have bno2:=(bno.fr f1 zq).fr fG zq
 obtain ⟨gv,hgv⟩:=Ab w1.heap.size
 rw [hgv.out] at bG ro2 f02 bno2 ⊢
 clear hst bn ro fG f1 km hgv bno
 generalize (w1.alloc (.cells zG 32)).setRow gv r.cells=w2 at*
 have hl:=Bb (P:=Tryz.prog) gv 32 Tryz.underlying32 rfl (cs:=r.cells) C0
 go_upto_region 3 with (go_at_call 13;(with_reducible refine (kof.out _ r _ f02 ro2 hcd).mono ?_);rintro _ w3 ⟨g,b,rfl,_,hg,_,hgp,f3⟩)
 have bG3:=bG.fr f3 zq
 have ro3:=ro2.non f3
 have f03:=f02.trans f3 zr
 have bno3:=bno2.fr f3 zq
 obtain ⟨gb,hgb⟩:=Ab g.gb
 rw [hgb.out]
 clear kof bG ro2 f02 bno2 f3
 go_upto_region 6 with (go_at_call 44;(with_reducible refine (kcl.out _ r _ f03 ro3).mono ?_);rintro _ w4 ⟨cs,⟨A4,c4,rfl,o4,f4⟩,hco,_⟩)
 have bG4:=bG3.fr f4 zq
 have ro4:=ro3.non f4
 have f04:=f03.trans f4 zr
 have hg4:=hg.fr f4
 have bno4:=bno3.fr f4 zq
 have n0:w4.cell? ⟨w.heap.size,0,none⟩=some (.int .i64 no.b):=bno4.cell 0
 have n1:w4.cell? ⟨w.heap.size,1,none⟩=some (.int .i64 no.s):=bno4.cell 1
 have n2:w4.cell? ⟨w.heap.size,2,none⟩=some (.int .u64 (no.u:Int)):=bno4.cell 2
 clear kcl bG3 ro3 f03 hg bno3 bno4 f4 hcd
 have hrows:=ro4.rows
 have hfew:=ro4.few
 have hidok:∀n∈r.l,n.id.ok:=fun n hn=>(ro4.ok n hn).2
 have hnn:g.nodes.length=r.l.length:=by rw [← hgp];unfold Gph.pns;rw [List.length_map]
 have hcl:=Sj hrows hco
 have hcok:∀x∈cs,x.ok:=fun x hx=>(Mc hrows ro4.ok (hco.2 x hx)).1
 have g2:r.cells[2]? =some (.slice r.iA r.l.length r.iC):=rfl
 have q2:=(bG4.cell 2).trans g2
 have hid:=Lib.hid (fun (p:Nat) (hp:p<r.l.length)=>ro4.idAt hp)
 have hNp:0<r.l.length:=List.length_pos_iff.2 hne
 clear g2
 have kHd:Hid (∀(ids:List Id) (A':Option Addr) (c':Nat) (w':World),Fr Non w4 w'→Rd w' w'.heap.size 3 A' ids.length (ids.flatMap Id.cells)→ids.length≤1000→(∀x∈ids,x.ok)→
   Calls Tryz.prog 45 #[.pointer (some ⟨gb,0,none⟩),.slice A' ids.length c'] w' (Cl (Co r.l ids) w')):=by
  intro ids A' c' w' hf hr hle hio
  have:=Zv b g w'.heap.size ids.length c' A' ids w' Lc (hg4.fr hf) rfl hr (by omega) hio
  rw [hgb.out] at this
  refine this.mono ?_
  rintro e w'' ⟨A5,c5,out,rfl,hp,hs,o5,f5⟩
  obtain rfl:=Ag9 hrows hgp hnn hp hs
  exact ⟨A5,c5,rfl,o5,f5⟩
 have kPs:Hid (∀(ids:List Id) (A':Option Addr) (c':Nat) (w':World),Fr Non w4 w'→Rd w' w'.heap.size 3 A' ids.length (ids.flatMap Id.cells)→ids.length≤1000→(∀x∈ids,x.ok)→
   Calls Tryz.prog 28 #[.pointer (some ⟨gb,0,none⟩),.slice A' ids.length c'] w' (Cl (Am (Bd r.l (Aq r.l ids) r.l.length)) w')):=by
  intro ids A' c' w' hf hr hle hio
  have:=Q4 b g w'.heap.size ids.length c' A' ids w' Lc (hg4.fr hf) rfl hr (by omega) hio
  rw [hgb.out] at this
  refine this.mono ?_
  rintro e w'' ⟨A5,c5,out,rfl,hp,hs,o5,f5⟩
  obtain rfl:=Ag8 hgp hnn hp hs
  exact ⟨A5,c5,rfl,o5,f5⟩
 have rHd:Hid (∀(ids:List Id) (A':Option Addr) (c':Nat) (w':World),Fr Non w4 w'→Rd w' w'.heap.size 3 A' ids.length (ids.flatMap Id.cells)→ids.length≤1000→
   Calls Tryz.prog 46 #[.agg r.cells,.slice A' ids.length c'] w' (Cl (Co r.l ids) w')):=fun ids A' c' w' hf hr hle=>Rt _ r w'.heap.size ids.length c' A' ids w' (ro4.non hf) rfl hr (by omega)
 have rPs:Hid (∀(ids:List Id) (A':Option Addr) (c':Nat) (w':World),Fr Non w4 w'→Rd w' w'.heap.size 3 A' ids.length (ids.flatMap Id.cells)→ids.length≤1000→
   Calls Tryz.prog 47 #[.agg r.cells,.slice A' ids.length c'] w' (Cl (Am (Bd r.l (Aq r.l ids) r.l.length)) w')):=fun ids A' c' w' hf hr hle=>Lv _ r w'.heap.size ids.length c' A' ids w' (ro4.non hf) rfl hr (by omega)
 have kSm:Hid (∀(ids:List Id) (A5 A6:Option Addr) (c5 c6:Nat) (w':World),Rd w' w'.heap.size 3 A5 ids.length (ids.flatMap Id.cells)→Rd w' w'.heap.size 3 A6 ids.length (ids.flatMap Id.cells)→ids.length≤1000→
   Calls Tryz.prog 20 #[.slice A5 ids.length c5,.slice A6 ids.length c6] w' fun e w''=>e=.returned (.bool true)∧Fr Non w' w''):=by
  intro ids A5 A6 c5 c6 w' h1 h2 hle
  have:=Ac7 w'.heap.size ids.length c5 w'.heap.size ids.length c6 A5 A6 ids ids w' rfl rfl h1 h2 (by omega) true (by simp)
  unfold Ae at this
  exact this
 have hHl:Hid (∀ids,(Co r.l ids).length≤ids.length∧(Am (Bd r.l (Aq r.l ids) r.l.length)).length≤200):=fun ids=>⟨Sh _ _,by rw [Fh];have:=Lu r.l (Aq r.l ids) r.l.length;omega⟩
 have kLv:Hid (∀(x:Id) (w':World),Fr Non w4 w'→x.ok→Calls Tryz.prog 27 #[.pointer (some ⟨gb,0,none⟩),.agg x.V] w' fun e w''=>e=.returned (.int .i64 (Bk r.l x:Int))∧Fr Non w' w''):=by
  intro x w' hf hx
  have:=Nx b g x w' (hg4.fr hf) hx
  rw [g.level_eq,hgp,hgb.out] at this
  exact this
 have rLv:Hid (∀(x:Id) (w':World),Fr Non w4 w'→Calls Tryz.prog 38 #[.agg r.cells,.agg x.V] w' fun e w''=>e=.returned (.int .i64 (Bk r.l x:Int))∧Fr Non w' w''):=fun x w' hf=>Ah4 _ r x w' (ro4.non hf)
 have kBf:Hid (∀(x y:Id) (w':World),Fr Non w4 w'→x.ok→y.ok→Calls Tryz.prog 29 #[.pointer (some ⟨gb,0,none⟩),.agg x.V,.agg y.V] w' fun e w''=>e=.returned (.bool (bef r.l x y))∧Fr Non w' w''):=by
  intro x y w' hf hx hy
  have:=J6 b g x y w' (hg4.fr hf) hx hy
  rw [g.before_eq,hgp,hgb.out] at this
  exact this
 have rBf:Hid (∀(x y:Id) (w':World),Fr Non w4 w'→Calls Tryz.prog 48 #[.agg r.cells,.agg x.V,.agg y.V] w' fun e w''=>e=.returned (.bool (bef r.l x y))∧Fr Non w' w''):=fun x y w' hf=>Ah0 _ r x y w' (ro4.non hf)
 have hraw:=hra.fr f04 zr
 have hmid:∀x∈r.l.map Pn.id,x.ok:=fun x hx=>by obtain ⟨n,hn,rfl⟩:=List.mem_map.1 hx;exact hidok n hn
 have hidm:Hid (∀(p:Nat) (m:Pn),r.l[p]? =some m→m.id.ok):=fun p m h=>hidok m (Ak3 h)
 clear hra hg4 hgp hgb hrows hco hnn ro4 hidok hmid hne
 obtain ⟨CS,hCS⟩:=Ab r.cells
 rw [hCS.out] at bG4 rHd rPs rLv rBf hl
 clear hCS
 generalize r.iA=IA at*
 generalize r.iC=IC at*
 generalize r.l=l at*
 obtain ⟨N,hN⟩:=Ab l.length
 rw [hN.out] at q2 hid hNp hfew kPs rPs hcl hHl
 obtain ⟨nc,hncs⟩:=Ab cs.length
 rw [hncs.out] at o4 hcl ⊢
 go_wp2_with (fail)
 go_loopw [12,13] (fun s v wr=>∃(k:Nat) (As:Option Addr) (cx:Nat) (sm:List Id),v=.int .i64 (k:Int)∧s=.slice As sm.length cx∧k≤5∧k≤na∧Hid (sm.length=k)∧Hid (∀x∈sm,x.ok)∧Own wr w4.heap.size 38 3 As sm.length cx (sm.flatMap Id.cells)∧Fr Non w4 wr) (fun _ v _=>5-(intOf v).toNat)
 case atStart=>exact ⟨0,none,0,[],rfl,rfl,by omega,by omega,rfl,(fun x hx=>absurd hx List.not_mem_nil),Own.nil _ _ _ _,Fr.refl _ _⟩
 case round=>
 obtain ⟨k,As,cx,sm,rfl,rfl,hk5,hkn,hsl,hsok,hown,hf⟩:=hrel
 have hrow:=hown.row
 have hxn:sm.length≤5:=by rw [hsl.out];exact hk5
 by_cases hlt:k<na∧k<5
 ·
  have t1:decide ((k:Int)<(na:Int))=true:=decide_eq_true (by omega)
  have t2:decide ((k:Int)<5)=true:=decide_eq_true (by omega)
  obtain ⟨q,hq⟩:∃q,la[k]? =some q:=⟨_,Ak4 (by rw [hna.out];exact hlt.1)⟩
  obtain ⟨ba,oa,u,rfl,hbB,hu,c0⟩:=hraw.at hlt.1
  rw [List.getElem?_map,hq] at hu
  injection hu with hu
  subst hu
  replace c0:w4.cell? ⟨ba,oa+k,none⟩=some (.int .i64 q):=c0
  have hqo:=hoka q (Ak3 hq)
  obtain ⟨ba1,ba2⟩:=Jl (n:=q) (m:=(N:Int)) (by omega)
  obtain ⟨p,hp⟩:∃p:Nat,C2 q (N:Int)=(p:Int):=⟨(C2 q (N:Int)).toNat,by omega⟩
  have kar:=Lib.hid (fun w'=>Jm q (N:Int) w' hqo.1 hqo.2 (by omega) (by omega))
  rw [hp] at kar ba2
  obtain ⟨m,bi,oi,hm,rfl,d0,d1,d2⟩:=hid.out p (by omega)
  have hmok:=hidm.out p m hm
  have i1:(0:Int)≤k:=by omega
  have i2:(k:Int)<na:=by omega
  have i3:(k:Int).toNat=k:=by omega
  have p1:(0:Int)≤p:=by omega
  have p2:(p:Int)<N:=by omega
  have p3:(p:Int).toNat=p:=by omega
  have L0:=hf.cell c0 zq
  have Q0:=hf.cell q2 zq
  have Za0:=hf.cell d0 zq
  have Zb0:=hf.cell d1 zq
  have Zc0:=hf.cell d2 zq
  have F0:Fr Non wr wr.drew:=(Fr.refl Non wr).drew
  have G0:Fr Non w4 wr.drew:=hf.drew
  have O0:Own wr.drew w4.heap.size 38 3 As sm.length cx (sm.flatMap Id.cells):=hown.drew
  clear hm hid hq
  generalize m.id=z at*
  go_upto_region 10 with (fail)
  refine wp_region_held_drew (S:=fun w'=>w'.cell? ⟨ba,oa+k,none⟩=some (.int .i64 q)∧w'.cell? ⟨gv,2,none⟩=some (.slice (some ⟨bi,oi,none⟩) N IC)∧w'.cell? ⟨bi,oi+p*3,none⟩=some (.int .i64 z.b)∧w'.cell? ⟨bi,oi+p*3+1,none⟩=some (.int .i64 z.s)∧w'.cell? ⟨bi,oi+p*3+2,none⟩=some (.int .u64 (z.u:Int))) (by kernel_rfl) ⟨L0,Q0,Za0,Zb0,Zc0⟩ (fun hHeld=> ?_)
  clear hHeld
  refine tkH 0 ⟨L0,Q0,Za0,Zb0,Zc0⟩ (h:=tkH 1 ⟨L0,Q0,Za0,Zb0,Zc0⟩ (h:=tkH 2 ⟨L0,Q0,Za0,Zb0,Zc0⟩ (h:=tkH 3 ⟨L0,Q0,Za0,Zb0,Zc0⟩ (h:=tkH 4 ⟨L0,Q0,Za0,Zb0,Zc0⟩ (h:=tkH 5 ⟨L0,Q0,Za0,Zb0,Zc0⟩ (h:=tkH 6 ⟨L0,Q0,Za0,Zb0,Zc0⟩ (h:=tkH 7 ⟨L0,Q0,Za0,Zb0,Zc0⟩ (h:=tkH 8 ⟨L0,Q0,Za0,Zb0,Zc0⟩ (h:=tkH 9 ⟨L0,Q0,Za0,Zb0,Zc0⟩ (h:=?_))))))))))
  simp only [List.set]
  refine oG 10 (fun K hK=> ?_)
  go_simp
  go_wp2_with (go_at_call 25;(with_reducible refine (kar.out _).mono ?_);rintro _ v1 ⟨rfl,ew⟩;have fq1:Fr Non wr.drew v1:=ew▸Fr.refl _ _;clear ew;have F1:=F0.trans fq1 zr;have L1:=F1.cell L0 zq;have Q1:=F1.cell Q0 zq;have Za1:=F1.cell Za0 zq;have Zb1:=F1.cell Zb0 zq;have Zc1:=F1.cell Zc0 zq;have G1:=hf.trans F1 zr;have O1:=hown.fr F1 zr)
  refine hK.out _ _ ⟨L1,Q1,Za1,Zb1,Zc1⟩ (fun hZ=> ?_)
  clear hZ hK K
  try simp only [Ad,List.set]
  refine tkH 11 ⟨L1,Q1,Za1,Zb1,Zc1⟩ (h:=tkH 12 ⟨L1,Q1,Za1,Zb1,Zc1⟩ (h:=?_))
  simp only [List.set]
  refine oG 13 (fun K hK=> ?_)
  go_simp
  have hnb:=Blk.new v1 38 z.V
  have fq2:Fr Non v1 (v1.alloc (.cells z.V 38)):=(Fr.refl _ _).alloc _
  have F2:=F1.trans fq2 zr
  have L2:=F2.cell L0 zq
  have Q2:=F2.cell Q0 zq
  have Za2:=F2.cell Za0 zq
  have Zb2:=F2.cell Zb0 zq
  have Zc2:=F2.cell Zc0 zq
  have G2:=hf.trans F2 zr
  have O2:=hown.fr F2 zr
  refine hK.out _ _ ⟨L2,Q2,Za2,Zb2,Zc2⟩ (fun hZ=> ?_)
  clear hZ hK K
  try simp only [Ad,List.set]
  generalize v1.alloc (.cells z.V 38)=v2 at*
  have hszn:=G2.size
  refine oG 14 (fun K hK=> ?_)
  refine Du (base:=w4.heap.size) (.tmp 34) (.tmp 47) 28 rfl rfl rfl Cw O2 (Rd.blk (n:=1) (size:=3) hnb rfl) (by simp [Value.oneCell']) (by omega) (by omega) hszn ?_
  intro A2 c2' v3 own4 fr4 hat4
  have fz:Fr Non w4 v3:=G2.trans fr4 (fun j hj e=>by have h5:=(hrow j e).1;omega)
  have L3:=fz.cell c0 zq
  have Q3:=fz.cell q2 zq
  have Za3:=fz.cell d0 zq
  have Zb3:=fz.cell d1 zq
  have Zc3:=fz.cell d2 zq
  refine hK.out _ _ ⟨L3,Q3,Za3,Zb3,Zc3⟩ (fun hZ=> ?_)
  clear hZ hK K
  try simp only [Ad,List.set]
  refine tkH 15 ⟨L3,Q3,Za3,Zb3,Zc3⟩ (h:=?_)
  simp only [List.set]
  refine oD ?_
  go_simp
  have own5:Own v3 w4.heap.size 38 3 A2 (sm++[z]).length c2' ((sm++[z]).flatMap Id.cells):=by
   rw [Ak2,Ak7]
   exact own4
  have hl5:Hid ((sm++[z]).length=k+1):=by show _=_;rw [Ak2,hsl.out];rfl
  have hs5:Hid (∀x∈sm++[z],x.ok):=fun x hx=>by
   rcases List.mem_append.1 hx with h|h
   · exact hsok.out x h
   ·
    rw [List.mem_singleton.1 h]
    exact hmok
  clear L3 Q3 Za3 Zb3 Zc3 c0 d0 d1 d2
  go_wp2_with (fail)
  go_roundw
  case rel=>exact ⟨k+1,A2,c2',sm++[z],by go_num,by rw [Ak2];rfl,by omega,by omega,hl5,hs5,own5,fz⟩
  case measure=>simp [intOf];omega
 ·
  have t3:(decide ((k:Int)<(na:Int))=true∧decide ((k:Int)<5)=false∧decide (k<na)=true∧decide (k<5)=false)∨(decide ((k:Int)<(na:Int))=false∧decide ((k:Int)<5)=true∧decide (k<na)=false∧decide (k<5)=true)∨(decide ((k:Int)<(na:Int))=false∧decide ((k:Int)<5)=false∧decide (k<na)=false∧decide (k<5)=false):=by
   by_cases e:k<na
   · exact .inl ⟨decide_eq_true (by omega),decide_eq_false (by omega),decide_eq_true (by omega),decide_eq_false (by omega)⟩
   ·
    by_cases e2:k<5
    · exact .inr (.inl ⟨decide_eq_false (by omega),decide_eq_true (by omega),decide_eq_false (by omega),decide_eq_true (by omega)⟩)
    · exact .inr (.inr ⟨decide_eq_false (by omega),decide_eq_false (by omega),decide_eq_false (by omega),decide_eq_false (by omega)⟩)
  go_upto_region 8 with (fail)
  go_cut [31] from 24 to 31 (fun s wc=>wr=wc∧s=.bool false)
  case first=>
   rcases t3 with ⟨t1,t2,t3,t4⟩|⟨t1,t2,t3,t4⟩|⟨t1,t2,t3,t4⟩
   all_goals
    go_wp2_with (fail)
    go_meet
    exact ⟨rfl,rfl⟩
  case rest=>
  obtain ⟨rfl,rfl⟩:=hcut
  have fwr:=f04.trans hf zr
  have m0:=hf.cell n0 zq
  have m1:=hf.cell n1 zq
  have m2:=hf.cell n2 zq
  clear t3 hraw q2 hid hrow
  go_upto_region 12 with (first|(at_builtin;go_loud (refine Az (base:=w4.heap.size) (.tmp 49) (.tmp 51) 28 rfl rfl rfl rfl Cw (hown.fr ((Fr.refl Non wr).alloc (.cells no.V 38)) zr) (Rd.blk (n:=1) (size:=3) (Blk.new wr 38 no.V) rfl) (by simp [Value.oneCell']) (by omega) (by omega) (by rw [Ak6];have:=hf.size;omega) ?_);intro A6 c6 w6 own6 fr6 hat6))
  have fa:Fr Non wr (wr.alloc (.cells no.V 38)):=(Fr.refl Non wr).alloc _
  have f46:Fr Non w4 w6:=(hf.trans fa zr).trans fr6 (fun j hj e=>by have h5:=(hown.row j e).1;omega)
  have own7:Own w6 w4.heap.size 38 3 A6 (sm++[no]).length c6 ((sm++[no]).flatMap Id.cells):=by
   rw [Ak2,Ak7]
   exact own6
  have hsm7:(sm++[no]).length=sm.length+1:=by rw [Ak2];rfl
  have hs7:∀x∈sm++[no],x.ok:=fun x hx=>by
   rcases List.mem_append.1 hx with h|h
   · exact hsok.out x h
   ·
    rw [List.mem_singleton.1 h]
    exact hno
  have e7:Hid ((sm++[no]).length=sm.length+1):=hsm7
  have h07:∃y,(sm++[no])[0]? =some y:=⟨_,Ak4 (by omega)⟩
  rw [← hsm7]
  clear fa fr6 hat6 own6 hsm7
  generalize sm++[no]=sm7 at*
  obtain ⟨M,hM⟩:=Ab sm7.length
  have hM6:M≤6:=by have:=e7.out;rw [← hM.out];omega
  have hM1:1≤M:=by have:=e7.out;rw [← hM.out];omega
  have bG6:=bG4.fr f46 zq
  have oc6:Own w6 w3.heap.size 38 3 A4 cs.length c4 (cs.flatMap Id.cells):=by rw [hncs.out];exact o4.fr f46 zr
  have fw6:=f04.trans f46 zr
  have V0:=bG6
  have F0:Fr Non w6 w6.drew:=(Fr.refl Non w6).drew
  have G0:Fr Non w4 w6.drew:=f46.drew
  have hc6:cs.length≤200:=by rw [hncs.out];omega
  have hs6:sm7.length≤6:=by rw [hM.out];exact hM6
  obtain ⟨hl1,hl2⟩:=hHl.out cs
  obtain ⟨hl3,hl4⟩:=hHl.out sm7
  have kc1:=Lib.hid (fun (w':World) (f6:Fr Non w6 w') (f4:Fr Non w4 w')=>kHd.out cs A4 c4 w' f4 ((oc6.fr f6 zr).rd) (by omega) hcok)
  have kc2:=Lib.hid (fun (w':World) (f6:Fr Non w6 w') (f4:Fr Non w4 w')=>rHd.out cs A4 c4 w' f4 ((oc6.fr f6 zr).rd) (by omega))
  have kc3:=Lib.hid (fun (w':World) (f6:Fr Non w6 w') (f4:Fr Non w4 w')=>kPs.out cs A4 c4 w' f4 ((oc6.fr f6 zr).rd) (by omega) hcok)
  have kc4:=Lib.hid (fun (w':World) (f6:Fr Non w6 w') (f4:Fr Non w4 w')=>rPs.out cs A4 c4 w' f4 ((oc6.fr f6 zr).rd) (by omega))
  have ks1:=Lib.hid (fun (w':World) (f6:Fr Non w6 w') (f4:Fr Non w4 w')=>kHd.out sm7 A6 c6 w' f4 ((own7.fr f6 zr).rd) (by omega) hs7)
  have ks2:=Lib.hid (fun (w':World) (f6:Fr Non w6 w') (f4:Fr Non w4 w')=>rHd.out sm7 A6 c6 w' f4 ((own7.fr f6 zr).rd) (by omega))
  have ks3:=Lib.hid (fun (w':World) (f6:Fr Non w6 w') (f4:Fr Non w4 w')=>kPs.out sm7 A6 c6 w' f4 ((own7.fr f6 zr).rd) (by omega) hs7)
  have ks4:=Lib.hid (fun (w':World) (f6:Fr Non w6 w') (f4:Fr Non w4 w')=>rPs.out sm7 A6 c6 w' f4 ((own7.fr f6 zr).rd) (by omega))
  rw [hncs.out] at kc1 kc2 kc3 kc4
  rw [hM.out] at ks1 ks2 ks3 ks4 ⊢
  replace hl1:(Co l cs).length≤1000:=by omega
  replace hl2:(Am (Bd l (Aq l cs) N)).length≤1000:=by omega
  replace hl3:(Co l sm7).length≤1000:=by omega
  replace hl4:(Am (Bd l (Aq l sm7) N)).length≤1000:=by omega
  have kS1:=Lib.hid (fun A5 A6 c5 c6 w' h1 h2=>kSm.out (Co l cs) A5 A6 c5 c6 w' h1 h2 hl1)
  have kS2:=Lib.hid (fun A5 A6 c5 c6 w' h1 h2=>kSm.out (Am (Bd l (Aq l cs) N)) A5 A6 c5 c6 w' h1 h2 hl2)
  have kS3:=Lib.hid (fun A5 A6 c5 c6 w' h1 h2=>kSm.out (Co l sm7) A5 A6 c5 c6 w' h1 h2 hl3)
  have kS4:=Lib.hid (fun A5 A6 c5 c6 w' h1 h2=>kSm.out (Am (Bd l (Aq l sm7) N)) A5 A6 c5 c6 w' h1 h2 hl4)
  unfold Cl at kc1 kc2 kc3 kc4 ks1 ks2 ks3 ks4
  generalize Co l cs=H1 at*
  generalize Am (Bd l (Aq l cs) N)=H2 at*
  generalize Co l sm7=H3 at*
  generalize Am (Bd l (Aq l sm7) N)=H4 at*
  clear kHd kPs rHd rPs kSm hHl m0 m1 m2 hown hsok hf
  refine wp_region_held_drew (S:=fun w'=>Blk w' gv 32 CS) (by kernel_rfl) V0 (fun hHeld=> ?_)
  clear hHeld
  refine tkH 0 V0 (h:=tkH 1 V0 (h:=tkH 3 V0 (h:=tkH 4 V0 (h:=?_))))
  simp only [List.set]
  refine oG 2 (fun K hK=> ?_)
  go_simp
  go_wp2_with (go_at_call 45;(with_reducible refine (kc1.out _ F0 G0).mono ?_);rintro _ v1 ⟨A1x,c1x,rfl,o1x,fq1⟩;have F1:=F0.trans fq1 zr;have V1:=V0.fr F1 zq;have G1:=f46.trans F1 zr)
  refine hK.out _ _ V1 (fun hZ=> ?_)
  clear hZ hK K
  try simp only [Ad,List.set]
  refine oG 5 (fun K hK=> ?_)
  go_simp
  go_wp2_with (go_at_call 46;(with_reducible refine (kc2.out _ F1 G1).mono ?_);rintro _ v2 ⟨A2x,c2x,rfl,o2x,fq2⟩;have F2:=F1.trans fq2 zr;have V2:=V0.fr F2 zq;have G2:=f46.trans F2 zr;have P2:=o1x.fr fq2 zr)
  refine hK.out _ _ V2 (fun hZ=> ?_)
  clear hZ hK K
  try simp only [Ad,List.set]
  refine oG 6 (fun K hK=> ?_)
  go_simp
  go_wp2_with (go_at_call 20;(with_reducible refine (kS1.out _ _ _ _ _ (P2.rd) (o2x.rd)).mono ?_);rintro _ v3 ⟨rfl,fq3⟩;have F3:=F2.trans fq3 zr;have V3:=V0.fr F3 zq;have G3:=f46.trans F3 zr)
  refine hK.out _ _ V3 (fun hZ=> ?_)
  clear hZ hK K
  try simp only [Ad,List.set]
  refine tkH 7 V3 (h:=tkH 8 V3 (h:=tkH 9 V3 (h:=tkH 10 V3 (h:=tkH 12 V3 (h:=tkH 13 V3 (h:=?_))))))
  simp only [List.set]
  refine oG 11 (fun K hK=> ?_)
  go_simp
  go_wp2_with (go_at_call 28;(with_reducible refine (ks3.out _ F3 G3).mono ?_);rintro _ v4 ⟨A4x,c4x,rfl,o4x,fq4⟩;have F4:=F3.trans fq4 zr;have V4:=V0.fr F4 zq;have G4:=f46.trans F4 zr)
  refine hK.out _ _ V4 (fun hZ=> ?_)
  clear hZ hK K
  try simp only [Ad,List.set]
  refine oG 14 (fun K hK=> ?_)
  go_simp
  go_wp2_with (go_at_call 47;(with_reducible refine (ks4.out _ F4 G4).mono ?_);rintro _ v5 ⟨A5x,c5x,rfl,o5x,fq5⟩;have F5:=F4.trans fq5 zr;have V5:=V0.fr F5 zq;have G5:=f46.trans F5 zr;have P5:=o4x.fr fq5 zr)
  refine hK.out _ _ V5 (fun hZ=> ?_)
  clear hZ hK K
  try simp only [Ad,List.set]
  refine oG 15 (fun K hK=> ?_)
  go_simp
  go_wp2_with (go_at_call 20;(with_reducible refine (kS4.out _ _ _ _ _ (P5.rd) (o5x.rd)).mono ?_);rintro _ v6 ⟨rfl,fq6⟩;have F6:=F5.trans fq6 zr;have V6:=V0.fr F6 zq;have G6:=f46.trans F6 zr)
  refine hK.out _ _ V6 (fun hZ=> ?_)
  clear hZ hK K
  try simp only [Ad,List.set]
  refine tkH 16 V6 (h:=tkH 17 V6 (h:=tkH 18 V6 (h:=tkH 19 V6 (h:=tkH 20 V6 (h:=tkH 22 V6 (h:=tkH 23 V6 (h:=?_)))))))
  simp only [List.set]
  refine oG 21 (fun K hK=> ?_)
  go_simp
  go_wp2_with (go_at_call 28;(with_reducible refine (kc3.out _ F6 G6).mono ?_);rintro _ v7 ⟨A7x,c7x,rfl,o7x,fq7⟩;have F7:=F6.trans fq7 zr;have V7:=V0.fr F7 zq;have G7:=f46.trans F7 zr)
  refine hK.out _ _ V7 (fun hZ=> ?_)
  clear hZ hK K
  try simp only [Ad,List.set]
  refine oG 24 (fun K hK=> ?_)
  go_simp
  go_wp2_with (go_at_call 47;(with_reducible refine (kc4.out _ F7 G7).mono ?_);rintro _ v8 ⟨A8x,c8x,rfl,o8x,fq8⟩;have F8:=F7.trans fq8 zr;have V8:=V0.fr F8 zq;have G8:=f46.trans F8 zr;have P8:=o7x.fr fq8 zr)
  refine hK.out _ _ V8 (fun hZ=> ?_)
  clear hZ hK K
  try simp only [Ad,List.set]
  refine oG 25 (fun K hK=> ?_)
  go_simp
  go_wp2_with (go_at_call 20;(with_reducible refine (kS2.out _ _ _ _ _ (P8.rd) (o8x.rd)).mono ?_);rintro _ v9 ⟨rfl,fq9⟩;have F9:=F8.trans fq9 zr;have V9:=V0.fr F9 zq;have G9:=f46.trans F9 zr)
  refine hK.out _ _ V9 (fun hZ=> ?_)
  clear hZ hK K
  try simp only [Ad,List.set]
  refine tkH 26 V9 (h:=tkH 27 V9 (h:=tkH 28 V9 (h:=tkH 29 V9 (h:=tkH 30 V9 (h:=tkH 32 V9 (h:=tkH 33 V9 (h:=?_)))))))
  simp only [List.set]
  refine oG 31 (fun K hK=> ?_)
  go_simp
  go_wp2_with (go_at_call 45;(with_reducible refine (ks1.out _ F9 G9).mono ?_);rintro _ v10 ⟨A10x,c10x,rfl,o10x,fq10⟩;have F10:=F9.trans fq10 zr;have V10:=V0.fr F10 zq;have G10:=f46.trans F10 zr)
  refine hK.out _ _ V10 (fun hZ=> ?_)
  clear hZ hK K
  try simp only [Ad,List.set]
  refine oG 34 (fun K hK=> ?_)
  go_simp
  go_wp2_with (go_at_call 46;(with_reducible refine (ks2.out _ F10 G10).mono ?_);rintro _ v11 ⟨A11x,c11x,rfl,o11x,fq11⟩;have F11:=F10.trans fq11 zr;have V11:=V0.fr F11 zq;have G11:=f46.trans F11 zr;have P11:=o10x.fr fq11 zr)
  refine hK.out _ _ V11 (fun hZ=> ?_)
  clear hZ hK K
  try simp only [Ad,List.set]
  refine oG 35 (fun K hK=> ?_)
  go_simp
  go_wp2_with (go_at_call 20;(with_reducible refine (kS3.out _ _ _ _ _ (P11.rd) (o11x.rd)).mono ?_);rintro _ v12 ⟨rfl,fq12⟩;have F12:=F11.trans fq12 zr;have V12:=V0.fr F12 zq;have G12:=f46.trans F12 zr)
  refine hK.out _ _ V12 (fun hZ=> ?_)
  clear hZ hK K
  try simp only [Ad,List.set]
  refine tkH 36 V12 (h:=tkH 37 V12 (h:=?_))
  simp only [List.set]
  refine oD ?_
  go_simp
  have f6w:Fr Non w6 v12:=F12
  have fw7:=fw6.trans f6w zr
  have f47:=G12
  clear kc1 kc2 kc3 kc4 ks1 ks2 ks3 ks4 kS1 kS2 kS3 kS4
  clear V0 V1 V2 V3 V4 V5 V6 V7 V8 V9 V10 V11 V12 F0 F1 F2 F3 F4 F5 F6 F7 F8 F9 F10 F11 G0 G1 G2 G3 G4 G5 G6 G7 G8 G9 G10 G11
  obtain ⟨y,hy⟩:=h07
  have hs7':=Lib.hid hs7
  have hyo:=hs7 y (Ak3 hy)
  clear hs7 hl1 hl2 hl3 hl4
  go_wp2_with (fail)
  go_loopw [14] (fun v wr=>∃i:Nat,v=.int .i64 (i:Int)∧i≤M∧Fr Non w6 wr) (fun v _=>M-(intOf v).toNat)
  case atStart=>exact ⟨0,rfl,Nat.zero_le _,f6w⟩
  case round=>
   obtain ⟨i,rfl,hin,f8⟩:=hrel
   by_cases hiM:i<M
   ·
    obtain ⟨x,hx⟩:∃x,sm7[i]? =some x:=⟨_,Ak4 (by rw [hM.out];exact hiM)⟩
    have hxo:=hs7'.out x (Ak3 hx)
    obtain ⟨bs,os,hA6,_,Xa0,Xb0,Xc0⟩:=Id.at (own7.fr f8 zr).rd hx
    obtain ⟨bs2,os2,hA62,_,y0,y1,y2⟩:=Id.at (own7.fr f8 zr).rd hy
    rw [hA6] at hA62
    injection hA62 with e
    injection e with e1 e2
    subst e1 e2
    have Ya0:wr.cell? ⟨bs,os,none⟩=some (.int .i64 y.b):=by rw [Ak5] at y0;exact y0
    have Yb0:wr.cell? ⟨bs,os+1,none⟩=some (.int .i64 y.s):=by rw [Ak5] at y1;exact y1
    have Yc0:wr.cell? ⟨bs,os+2,none⟩=some (.int .u64 (y.u:Int)):=by rw [Ak5] at y2;exact y2
    subst hA6
    have V0:=bG6.fr f8 zq
    have F7:=f46.trans f8 zr
    have F0:Fr Non wr wr.drew:=(Fr.refl Non wr).drew
    have G0:Fr Non w4 wr.drew:=F7.drew
    have i1:(0:Int)≤i:=by omega
    have i2:(i:Int)<M:=by omega
    have i3:(i:Int).toNat=i:=by omega
    have z2:(0:Int)<M:=by omega
    have z3:0<M:=hM1
    have q1:=Lib.hid (fun (w':World) (hf:Fr Non w4 w')=>kLv.out x w' hf hxo)
    have q2:=Lib.hid (fun (w':World) (hf:Fr Non w4 w')=>rLv.out x w' hf)
    have q3:=Lib.hid (fun (w':World) (hf:Fr Non w4 w')=>kBf.out y x w' hf hyo hxo)
    have q4:=Lib.hid (fun (w':World) (hf:Fr Non w4 w')=>rBf.out y x w' hf)
    generalize Bk l x=La at*
    generalize bef l y x=Ba at*
    have t1:((La:Int) !=(La:Int))=false:=by simp
    have t2:(Ba !=Ba)=false:=by simp
    clear kLv rLv kBf rBf hx hy y0 y1 y2
    go_upto_region 17 with (fail)
    refine wp_region_held_drew (S:=fun w'=>Blk w' gv 32 CS∧w'.cell? ⟨bs,os+i*3,none⟩=some (.int .i64 x.b)∧w'.cell? ⟨bs,os+i*3+1,none⟩=some (.int .i64 x.s)∧w'.cell? ⟨bs,os+i*3+2,none⟩=some (.int .u64 (x.u:Int))∧w'.cell? ⟨bs,os,none⟩=some (.int .i64 y.b)∧w'.cell? ⟨bs,os+1,none⟩=some (.int .i64 y.s)∧w'.cell? ⟨bs,os+2,none⟩=some (.int .u64 (y.u:Int))) (by kernel_rfl) ⟨V0,Xa0,Xb0,Xc0,Ya0,Yb0,Yc0⟩ (fun hHeld=> ?_)
    clear hHeld
    refine tkH 0 ⟨V0,Xa0,Xb0,Xc0,Ya0,Yb0,Yc0⟩ (h:=tkH 1 ⟨V0,Xa0,Xb0,Xc0,Ya0,Yb0,Yc0⟩ (h:=tkH 2 ⟨V0,Xa0,Xb0,Xc0,Ya0,Yb0,Yc0⟩ (h:=tkH 3 ⟨V0,Xa0,Xb0,Xc0,Ya0,Yb0,Yc0⟩ (h:=tkH 4 ⟨V0,Xa0,Xb0,Xc0,Ya0,Yb0,Yc0⟩ (h:=tkH 6 ⟨V0,Xa0,Xb0,Xc0,Ya0,Yb0,Yc0⟩ (h:=tkH 7 ⟨V0,Xa0,Xb0,Xc0,Ya0,Yb0,Yc0⟩ (h:=tkH 8 ⟨V0,Xa0,Xb0,Xc0,Ya0,Yb0,Yc0⟩ (h:=tkH 9 ⟨V0,Xa0,Xb0,Xc0,Ya0,Yb0,Yc0⟩ (h:=tkH 10 ⟨V0,Xa0,Xb0,Xc0,Ya0,Yb0,Yc0⟩ (h:=?_))))))))))
    simp only [List.set]
    refine oG 5 (fun K hK=> ?_)
    go_simp
    go_wp2_with (go_at_call 27;(with_reducible refine (q1.out _ G0).mono ?_);rintro _ v1 ⟨rfl,fq1⟩;have F1:=F0.trans fq1 zr;have V1:=V0.fr F1 zq;have Xa1:=F1.cell Xa0 zq;have Xb1:=F1.cell Xb0 zq;have Xc1:=F1.cell Xc0 zq;have Ya1:=F1.cell Ya0 zq;have Yb1:=F1.cell Yb0 zq;have Yc1:=F1.cell Yc0 zq;have G1:=F7.trans F1 zr)
    refine hK.out _ _ ⟨V1,Xa1,Xb1,Xc1,Ya1,Yb1,Yc1⟩ (fun hZ=> ?_)
    clear hZ hK K
    try simp only [Ad,List.set]
    refine oG 11 (fun K hK=> ?_)
    go_simp
    go_wp2_with (go_at_call 38;(with_reducible refine (q2.out _ G1).mono ?_);rintro _ v2 ⟨rfl,fq2⟩;have F2:=F1.trans fq2 zr;have V2:=V0.fr F2 zq;have Xa2:=F2.cell Xa0 zq;have Xb2:=F2.cell Xb0 zq;have Xc2:=F2.cell Xc0 zq;have Ya2:=F2.cell Ya0 zq;have Yb2:=F2.cell Yb0 zq;have Yc2:=F2.cell Yc0 zq;have G2:=F7.trans F2 zr)
    refine hK.out _ _ ⟨V2,Xa2,Xb2,Xc2,Ya2,Yb2,Yc2⟩ (fun hZ=> ?_)
    clear hZ hK K
    try simp only [Ad,List.set]
    refine tkH 12 ⟨V2,Xa2,Xb2,Xc2,Ya2,Yb2,Yc2⟩ (h:=tkH 13 ⟨V2,Xa2,Xb2,Xc2,Ya2,Yb2,Yc2⟩ (h:=tkH 14 ⟨V2,Xa2,Xb2,Xc2,Ya2,Yb2,Yc2⟩ (h:=tkH 15 ⟨V2,Xa2,Xb2,Xc2,Ya2,Yb2,Yc2⟩ (h:=tkH 16 ⟨V2,Xa2,Xb2,Xc2,Ya2,Yb2,Yc2⟩ (h:=tkH 17 ⟨V2,Xa2,Xb2,Xc2,Ya2,Yb2,Yc2⟩ (h:=tkH 18 ⟨V2,Xa2,Xb2,Xc2,Ya2,Yb2,Yc2⟩ (h:=tkH 19 ⟨V2,Xa2,Xb2,Xc2,Ya2,Yb2,Yc2⟩ (h:=tkH 20 ⟨V2,Xa2,Xb2,Xc2,Ya2,Yb2,Yc2⟩ (h:=tkH 21 ⟨V2,Xa2,Xb2,Xc2,Ya2,Yb2,Yc2⟩ (h:=tkH 23 ⟨V2,Xa2,Xb2,Xc2,Ya2,Yb2,Yc2⟩ (h:=tkH 24 ⟨V2,Xa2,Xb2,Xc2,Ya2,Yb2,Yc2⟩ (h:=?_))))))))))))
    simp only [List.set]
    refine tkH 25 ⟨V2,Xa2,Xb2,Xc2,Ya2,Yb2,Yc2⟩ (h:=tkH 26 ⟨V2,Xa2,Xb2,Xc2,Ya2,Yb2,Yc2⟩ (h:=tkH 27 ⟨V2,Xa2,Xb2,Xc2,Ya2,Yb2,Yc2⟩ (h:=tkH 28 ⟨V2,Xa2,Xb2,Xc2,Ya2,Yb2,Yc2⟩ (h:=tkH 29 ⟨V2,Xa2,Xb2,Xc2,Ya2,Yb2,Yc2⟩ (h:=tkH 30 ⟨V2,Xa2,Xb2,Xc2,Ya2,Yb2,Yc2⟩ (h:=?_))))))
    simp only [List.set]
    refine oG 22 (fun K hK=> ?_)
    go_simp
    go_wp2_with (go_at_call 29;(with_reducible refine (q3.out _ G2).mono ?_);rintro _ v3 ⟨rfl,fq3⟩;have F3:=F2.trans fq3 zr;have V3:=V0.fr F3 zq;have Xa3:=F3.cell Xa0 zq;have Xb3:=F3.cell Xb0 zq;have Xc3:=F3.cell Xc0 zq;have Ya3:=F3.cell Ya0 zq;have Yb3:=F3.cell Yb0 zq;have Yc3:=F3.cell Yc0 zq;have G3:=F7.trans F3 zr)
    refine hK.out _ _ ⟨V3,Xa3,Xb3,Xc3,Ya3,Yb3,Yc3⟩ (fun hZ=> ?_)
    clear hZ hK K
    try simp only [Ad,List.set]
    refine oG 31 (fun K hK=> ?_)
    go_simp
    go_wp2_with (go_at_call 48;(with_reducible refine (q4.out _ G3).mono ?_);rintro _ v4 ⟨rfl,fq4⟩;have F4:=F3.trans fq4 zr;have V4:=V0.fr F4 zq;have Xa4:=F4.cell Xa0 zq;have Xb4:=F4.cell Xb0 zq;have Xc4:=F4.cell Xc0 zq;have Ya4:=F4.cell Ya0 zq;have Yb4:=F4.cell Yb0 zq;have Yc4:=F4.cell Yc0 zq;have G4:=F7.trans F4 zr)
    refine hK.out _ _ ⟨V4,Xa4,Xb4,Xc4,Ya4,Yb4,Yc4⟩ (fun hZ=> ?_)
    clear hZ hK K
    try simp only [Ad,List.set]
    refine tkH 32 ⟨V4,Xa4,Xb4,Xc4,Ya4,Yb4,Yc4⟩ (h:=tkH 33 ⟨V4,Xa4,Xb4,Xc4,Ya4,Yb4,Yc4⟩ (h:=?_))
    simp only [List.set]
    refine oD ?_
    go_simp
    have f9:=f8.trans F4 zr
    clear q1 q2 q3 q4
    go_wp2_with (fail)
    go_roundw
    case rel=>exact ⟨i+1,by go_num,by omega,f9⟩
    case measure=>simp [intOf];omega
   ·
    obtain rfl:i=M:=by omega
    have t1:decide ((i:Int)<(i:Int))=false:=decide_eq_false (by omega)
    have fw8:=fw6.trans f8 zr
    have kv:=Lib.hid (hlv.out wr fw8)
    go_wp2_with (go_at_call 19;(with_reducible refine (kv.out).mono ?_);rintro _ we ⟨rfl,fe⟩;have fre:=fw8.trans fe zr)
    exact hfin.out _ fre
end Oq
end
section
open Go.ChangeShapes Go.WideShapes Go.ChangeAt Go.RowKit
theorem Aj8 (os:Os) (started:os.Started) (H:Type) (enc:TypeId × Value→H):
  ReturnsInHanded {} Tryz.checked os 10 .any (fun w args=>(Rows.graphPastsSpec.pre enc Tryz.prog Tryz.f10 [] false w args∧laidMetH Tryz.prog [("huddle/op.kinds",Rows.laid_huddle_op_kinds)] w)∧sizedMet enc Tryz.prog Tryz.f10 (OpenSpec.ofChange Rows.graphPastsSpec) false w args)
   (Rows.graphPastsSpec.post enc Tryz.prog Tryz.f10 false true false false):=by
 refine returnsInHanded_of_change_and (C:=Tryz.checked) (X:=fun w _=>laidMetH Tryz.prog [("huddle/op.kinds",Rows.laid_huddle_op_kinds)] w) (fun _ _ _ hh h=>h.of_heap hh) Tryz.own started (by kernel_rfl) Tryz.func10
  (ChangeSpec.witness_at (enc:=enc) (C:=Tryz.checked) (os:=os) (X:=fun w _=>laidMetH Tryz.prog [("huddle/op.kinds",Rows.laid_huddle_op_kinds)] w) false (Kc os) #[.slice none 0 0,.slice none 0 0,.slice none 0 0,.agg #[.int .i64 0,.int .i64 0,.int .u64 0]] 8 rfl (by kernel_rfl) (by kernel_rfl) (by kernel_rfl) (by kernel_rfl) (by kernel_rfl) (U5 os _)) ?_
 intro W base args ds gs before hval0 hW _ _ hL _
 have hk:=U4 hL
 have hval:∀(j:Nat) t v,Tryz.f10.params[j]? =some t→args[j]? =some v→Value.okWide Tryz.prog W .any base t v:=hval0
 have hW':=hW
 obtain ⟨p,q,hA0,hV,rfl,hfz,hnd⟩:=hW
 have hA:DataW.TrodAll enc Tryz.prog W 0 (fun _=>true) true Tryz.f10.params.toList args.toList ds p:=hA0
 rw [Tryz.params10] at hA hval
 obtain ⟨v0,v1,v2,v3,d0,d1,d2,d3,p0,p1,p2,p3,rfl,rfl,rfl,h0,h1,h2,h3⟩:=trodAll_four hA
 obtain ⟨A0,c0,l0,rfl,hlc0,hc0,hr0,hok0⟩:=Jp Tryz.underlying22 Tryz.underlying3 (by kernel_rfl) (hval 0 22 v0 rfl rfl) h0
 obtain ⟨A1,c1,l1,rfl,hlc1,hc1,hr1,hok1⟩:=Jp Tryz.underlying22 Tryz.underlying3 (by kernel_rfl) (hval 1 22 v1 rfl rfl) h1
 obtain ⟨A2,c2,l2,rfl,hlc2,hc2,hr2,hok2⟩:=Jp Tryz.underlying22 Tryz.underlying3 (by kernel_rfl) (hval 2 22 v2 rfl rfl) h2
 obtain ⟨i3,rfl,hio3⟩:=Tc (hval 3 38 v3 rfl rfl) h3
 refine (Oq.graphPasts_law A0 c0 l0 A1 c1 l1 A2 c2 l2 i3 W hk hr0 hlc0 hc0 hok0 hr1 hlc1 hc1 hok1 hr2 hlc2 hc2 hok2 hio3).mono fun e W' ⟨he,hf⟩=> ?_
 exact ⟨_,he,S7 Tryz.laidOut (by kernel_rfl) rfl (by kernel_rfl) Tryz.underlying4 hW' ⟨rfl,rfl,rfl⟩ hf⟩
theorem Aj9:Rows.GraphPastsSaid:=
 OpenClaim.holds_of_wide 10 Tryz.f10 rfl rfl rfl rfl rfl rfl rfl ⟨rfl,rfl,rfl,rfl,rfl⟩ rfl rfl rfl rfl rfl (by kernel_rfl) Tryz.func10 (by kernel_rfl)
  (of_decide_eq_true (by kernel_rfl)) (by unfold Func.isWrapper;rw [if_neg (by decide+kernel)];exact ⟨rfl,rfl⟩)
  (fun os started H enc _=>Aj8 os started H enc)
end
section
open Go
theorem graphPasts_card_holds:Rows.GraphPastsCardSaid:=
 Claim7.holds_tied_plain_at .later [] [.data] true (true, "7e0c834fc93e2f05c1722e6864a69bf9e61c39615967a567db2e137b72a7bc25") false
  Aj9 (fun _ h=>by cases h) (by kernel_rfl) (fun _ h=>by cases h) graphPasts_row_tie rfl ⟨rfl,rfl⟩ (by kernel_rfl) rfl
  (fun f fn hf hfn=>by
   obtain rfl:f=10:=Option.some.inj ((show Tryz.prog.funcNamed "huddle/huddlelaw12.GraphPasts" =some 10 by kernel_rfl).symm.trans hf)|>.symm
   obtain rfl:fn=Tryz.f10:=(Option.some.inj (Tryz.func10.symm.trans hfn)).symm
   exact ⟨by kernel_rfl,fun j t ht=>by
    rw [Tryz.params10] at ht
    have hm:t∈([22,22,22,38]:List TypeId):=by
     have h2:=Array.mem_of_getElem? ht
     simpa using h2
    have hall:([22,22,22,38]:List TypeId).all (fun t=> !(Tryz.prog.wantsStandIn t))=true:=by kernel_rfl
    have:=List.all_eq_true.1 hall t hm
    exact (by simpa using this:Tryz.prog.wantsStandIn t=false)⟩)
  (by kernel_rfl)
end
end Go.Proofs.YtafonabghnogaaaGreatDoor
