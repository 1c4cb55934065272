/-
  huddlelaw12.GraphSeq: each operation has one of its device, of one Seq less, in its past, and none of its own Seq, or of a greater one.
    Conditions: op.kinds lies as its text lays it; the numbers read.
  GraphSeq: whatever the input is, where the one listed variable is as its text lays it, the law returns true, and nothing that was there has turned.
    Condition: none.
  GraphSeq: the tied card.
    Condition: none.
-/
import Derived.ChangeVars
import Derived.JoinedOf
import Derived.RowKitTokens
import Derived.LaidLaws
import Derived.Test.YtafonabghnogaaaGreatDoorTie
import Derived.Test.YtafonabghnogaaaGreatDoorCards
import Derived.SevenTiedAt
import Derived.Test.YtafonabghnogaaaGreatDoorGoM1
import Derived.Test.YtafonabghnogaaaGreatDoorGoM4
import Derived.Test.YtafonabghnogaaaGreatDoorGoM17
import Derived.Test.YtafonabghnogaaaGreatDoorGoM18
set_option maxRecDepth 100000
set_option maxHeartbeats 16000000
namespace Go.Proofs.YtafonabghnogaaaGreatDoor
section
open Go.RowKit
attribute [local go_sem ↓] Go.wp_at_zero Go.wp_at_succ
namespace Oq
attribute [local go_sem ↓] loadAt_op storeAt_op
attribute [local go_sem] Bool.not_false Bool.not_true
theorem graphSeq_law (A:Option Addr) (c:Nat) (l0:List Int) (w:World) (hk:KindsAt w) (hr:Rd w w.heap.size 1 A l0.length (l0.map Iv)) (hnc:l0.length≤c) (hnm:c≤9223372036854775807) (hok:∀x∈l0,I64 x):
  Calls Tryz.prog 5 #[.slice A l0.length c] w (BoolPost true w):=by
 have hi:(Tryz.prog.info? 44).map (·.size)=some OpL.zero.cells.size:=by rw [show OpL.zero.cells.size=27 from rfl];kernel_rfl
 have hpos:0<w.heap.size:=World.block_lt_of_cell? w _ (hk 0 (by decide))
 have km:=Lib.hid (made_any w.heap.size l0.length c A l0 w rfl hr hnc hnm hok)
 have kof:=Lib.hid (fun (b:Nat) (r:RG) (w':World) (hf:Fr Non w w') (h:r.own w' b) (hcs:r.cards=cardsFrom 0 [1,2,3,1])=>of_any b r w' h hcs (Nat.lt_of_lt_of_le hpos hf.size) (hk.fr hf))
 have hlv:=fun (w':World) (hf:Fr Non w w')=>lives12_any w' (hk.fr hf)
 unfold BoolPost at hlv
 replace hlv:=Lib.hid hlv
 have hfin:Hid (∀wz,Fr Non w wz→BoolPost true w (.returned (.bool true)) wz):=fun wz h=>⟨rfl,h⟩
 generalize BoolPost true w=POST at*
 obtain ⟨nl,hnl⟩:=hid_ex l0.length
 rw [hnl.out] at km ⊢
 clear hr hnc hnm hok hnl
 go_enter Tryz.func5,Tryz.ntmps5
 go_upto_region 2 with (first
  |(go_at_call 12;(with_reducible refine (km.out).mono ?_);rintro _ w1 ⟨r,rfl,f1,ro,hcd,hne⟩)
  |(go_at_call 13;(with_reducible refine (kof.out _ r _ f1 ro hcd).mono ?_);rintro _ w2 ⟨g,b,rfl,hb0,hg,hgc,hgp,f2⟩))
 have fr2:=f1.trans f2 zr
 have hrows:=ro.rows
 have hfew:=ro.few
 have hidok:∀n∈r.l,n.id.ok:=fun n hn=>(ro.ok n hn).2
 have hnok:=ro.ok
 clear hk hb0 hgc hne km kof ro hcd f1 f2 hpos
 generalize r.cards=CD at*
 generalize r.l=l at*
 have kA:=Lib.hid (gall_any b g w2 sortsIds hg)
 obtain ⟨gb,hgb⟩:=hid_ex g.gb
 rw [hgb.out] at kA ⊢
 go_upto_region 5 with (go_at_call 21;(with_reducible refine (kA.out).mono ?_);rintro _ w3 ⟨A3,c3,ids,rfl,hperm,_,o3,f3⟩)
 have hper:=all_perm hgp hperm
 have hlen:ids.length≤200:=by rw [hper.length_eq,List.length_map];exact hfew
 have hmem:=Lib.hid (fun (x:Id) (hx:x∈ids)=>hrows.named hper hx)
 have hxok:∀x∈ids,x.ok:=fun x hx=>by
  obtain ⟨p,m,_,h2,h3⟩:=hmem.out x hx
  rw [← h3]
  exact hidok m (List.mem_of_getElem? h2)
 have fr3:=fr2.trans f3 zr
 have hg3:=hg.fr f3
 have kB:Hid (∀(x y:Id) (w':World),Fr Non w3 w'→x∈ids→y∈ids→Calls Tryz.prog 29 #[.pointer (some ⟨gb,0,none⟩),.agg x.V,.agg y.V] w' fun e w''=>e=.returned (.bool (bef l x y))∧Fr Non w' w''):=by
  intro x y w' hf hx hy
  have:=before_any b g x y w' (hg3.fr hf) (hxok x hx) (hxok y hy)
  rw [g.before_eq,hgp,hgb.out] at this
  exact this
 have hseq:=Lib.hid (fun (x:Id) (hx:x∈ids)=>hrows.seqOk hper hx)
 have hslt:=Lib.hid (fun (x z:Id) (hb:x.b=z.b) (hz:bef l z x=true)=>hrows.seqLt hb hz)
 have hnod:ids.Nodup:=hper.nodup_iff.2 hrows.nodup
 have hrng:Hid (∀x∈ids,1≤x.s∧x.s≤2147483647):=fun x hx=>by
  obtain ⟨p,m,h1,_⟩:=hmem.out x hx
  exact (placed_id hrows hnok (by rw [h1];rfl)).2
 have o3':=o3.rd
 obtain ⟨n,hn⟩:=hid_ex ids.length
 rw [hn.out] at o3' hlen ⊢
 clear kA hperm hper o3 hg hg3 hgp hrows hfew hidok hmem hxok f3 fr2 hgb hnok hi
 clear CD
 go_wp2_with (fail)
 go_loopw [5] (fun v wr=>∃i:Nat,v=.int .i64 (i:Int)∧i≤n∧Fr Non w3 wr) (fun v _=>n-(intOf v).toNat)
 case atStart=>exact ⟨0,rfl,Nat.zero_le _,Fr.refl _ _⟩
 case round=>
  obtain ⟨i,rfl,hin,f4⟩:=hrel
  by_cases hlt:i<n
  ·
   obtain ⟨x,hx⟩:∃x,ids[i]? =some x:=⟨_,List.getElem?_eq_getElem (by rw [hn.out];exact hlt)⟩
   have hxm:=List.mem_of_getElem? hx
   obtain ⟨ba,oa,rfl,hbB,_,_,_⟩:=Id.at o3' hx
   have hJ:Hid (∀(k:Nat) (y:Id) (wr:World),ids[k]? =some y→Fr Non w3 wr→wr.cell? ⟨ba,oa+k*3,none⟩=some (.int .i64 y.b)∧wr.cell? ⟨ba,oa+k*3+1,none⟩=some (.int .i64 y.s)∧wr.cell? ⟨ba,oa+k*3+2,none⟩=some (.int .u64 (y.u:Int))):=by
    intro k y wr hy hf
    obtain ⟨b',o',e,_,h0,h1,h2⟩:=Id.at (o3'.fr hf zr) hy
    injection e with e
    injection e with e1 e2
    subst e1 e2
    exact ⟨h0,h1,h2⟩
   have i1:(0:Int)≤i:=by omega
   have i2:(i:Int)<n:=by omega
   have i3:(i:Int).toNat=i:=by omega
   have it:decide ((i:Int)<(n:Int))=true:=decide_eq_true i2
   obtain ⟨Xa,Xb,Xc⟩:=hJ.out i x wr hx f4
   have hA0:Hid ((x.s==1)=seqA l x []):=by show _=_;unfold seqA;simp
   have hsx:=hseq.out x hxm
   obtain ⟨hr1,hr2⟩:=hrng.out x hxm
   have e1:IntKind.i64.wrap (x.s-1)=x.s-1:=IntWalk.i64_in _ (by omega)
   clear o3'
   go_upto_region 10 with (fail)
   rw [hA0.out]
   clear hA0 Xa Xb Xc
   go_loopw [6,7] (fun a v wr=>∃k:Nat,v=.int .i64 (k:Int)∧a=.bool (seqA l x (ids.take k))∧k≤n∧Fr Non w3 wr) (fun _ v _=>n-(intOf v).toNat)
   case atStart=>exact ⟨0,rfl,rfl,Nat.zero_le _,f4⟩
   case round=>
    obtain ⟨k,rfl,rfl,hkn,f7⟩:=hrel
    by_cases hkt:k<n
    ·
     obtain ⟨z,hz⟩:∃z,ids[k]? =some z:=⟨_,List.getElem?_eq_getElem (by rw [hn.out];exact hkt)⟩
     have hzm:=List.mem_of_getElem? hz
     obtain ⟨Xa,Xb,Xc⟩:=hJ.out i x wr hx f7
     obtain ⟨Za,Zb,Zc⟩:=hJ.out k z wr hz f7
     have k1:(0:Int)≤k:=by omega
     have k2:(k:Int)<n:=by omega
     have k3:(k:Int).toNat=k:=by omega
     have kt:decide ((k:Int)<(n:Int))=true:=decide_eq_true k2
     have hsn:=Lib.hid (seqA_snoc l x ids k hz)
     by_cases hik:i=k
     ·
      subst hik
      obtain rfl:x=z:=Option.some.inj (hx.symm.trans hz)
      have hsn':Hid (seqA l x (ids.take (i+1))=seqA l x (ids.take i)):=by show _=_;rw [hsn.out];simp
      have te:((i:Int)==(i:Int))=true:=by simp
      go_upto_region 12 with (fail)
      go_quiet (fail)
      go_wp2_with (fail)
      go_roundw
      case rel=>exact ⟨i+1,by go_num,by rw [hsn'.out],by omega,f7.drewN _⟩
      case measure=>simp [intOf];omega
     ·
      have te:((i:Int)==(k:Int))=false:=by rw [beq_eq_false_iff_ne];omega
      have hne:¬x=z:=fun e=>hik (nodup_at hnod hx (by rw [e];exact hz))
      go_upto_region 12 with (fail)
      by_cases hb:x.b=z.b
      case neg=>
       have tb:(x.b !=z.b)=true:=by simp [hb]
       have hsn':Hid (seqA l x (ids.take (k+1))=seqA l x (ids.take k)):=by show _=_;rw [hsn.out,beq_eq_false_iff_ne.2 (fun e=>hb e.symm)];simp
       go_quiet (fail)
       go_wp2_with (fail)
       go_roundw
       case rel=>exact ⟨k+1,by go_num,by rw [hsn'.out],by omega,f7.drewN _⟩
       case measure=>simp [intOf];omega
      case pos=>
       have tb:(x.b !=z.b)=false:=by simp [hb]
       have hs1:=Lib.hid (hslt.out x z hb)
       have hbb:=Lib.hid hb
       clear hb
       go_quiet (fail)
       have f8:=f7.drewN nq
       have F0:Fr Non (wr.drewN nq) (wr.drewN nq).drew:=(Fr.refl Non _).drew
       have G0:Fr Non w3 (wr.drewN nq).drew:=f8.drew
       obtain ⟨Xa0,Xb0,Xc0⟩:=hJ.out i x (wr.drewN nq) hx f8
       obtain ⟨Za0,Zb0,Zc0⟩:=hJ.out k z (wr.drewN nq) hz f8
       have kB1:=Lib.hid (fun (w':World) (hf:Fr Non w3 w')=>kB.out z x w' hf hzm hxm)
       obtain ⟨BV,hBV⟩:=hid_ex (bef l z x)
       rw [hBV.out] at kB1 hs1 hsn
       clear Xa Xb Xc Za Zb Zc f7
       generalize wr.drewN nq=wq at*
       go_upto_region 13 with (fail)
       refine wp_region_held_drew (S:=fun w'=>w'.cell? ⟨ba,oa+i*3,none⟩=some (.int .i64 x.b)∧w'.cell? ⟨ba,oa+i*3+1,none⟩=some (.int .i64 x.s)∧w'.cell? ⟨ba,oa+i*3+2,none⟩=some (.int .u64 (x.u:Int))∧w'.cell? ⟨ba,oa+k*3,none⟩=some (.int .i64 z.b)∧w'.cell? ⟨ba,oa+k*3+1,none⟩=some (.int .i64 z.s)∧w'.cell? ⟨ba,oa+k*3+2,none⟩=some (.int .u64 (z.u:Int))) (by kernel_rfl) ⟨Xa0,Xb0,Xc0,Za0,Zb0,Zc0⟩ (fun hHeld=> ?_)
       clear hHeld
       refine tkH 0 ⟨Xa0,Xb0,Xc0,Za0,Zb0,Zc0⟩ (h:=tkH 1 ⟨Xa0,Xb0,Xc0,Za0,Zb0,Zc0⟩ (h:=tkH 2 ⟨Xa0,Xb0,Xc0,Za0,Zb0,Zc0⟩ (h:=tkH 3 ⟨Xa0,Xb0,Xc0,Za0,Zb0,Zc0⟩ (h:=tkH 4 ⟨Xa0,Xb0,Xc0,Za0,Zb0,Zc0⟩ (h:=tkH 5 ⟨Xa0,Xb0,Xc0,Za0,Zb0,Zc0⟩ (h:=tkH 6 ⟨Xa0,Xb0,Xc0,Za0,Zb0,Zc0⟩ (h:=tkH 7 ⟨Xa0,Xb0,Xc0,Za0,Zb0,Zc0⟩ (h:=tkH 8 ⟨Xa0,Xb0,Xc0,Za0,Zb0,Zc0⟩ (h:=?_)))))))))
       simp only [List.set]
       refine oG 9 (fun K hK=> ?_)
       go_simp
       go_wp2_with (go_at_call 29;(with_reducible refine (kB1.out _ G0).mono ?_);rintro _ v1 ⟨rfl,fq1⟩;have F1:=F0.trans fq1 zr;have Xa1:=F1.cell Xa0 zq;have Xb1:=F1.cell Xb0 zq;have Xc1:=F1.cell Xc0 zq;have Za1:=F1.cell Za0 zq;have Zb1:=F1.cell Zb0 zq;have Zc1:=F1.cell Zc0 zq;have G1:=f8.trans F1 zr)
       refine hK.out _ _ ⟨Xa1,Xb1,Xc1,Za1,Zb1,Zc1⟩ (fun hZ=> ?_)
       clear hZ hK K
       try simp only [put_lit',List.set]
       refine tkH 10 ⟨Xa1,Xb1,Xc1,Za1,Zb1,Zc1⟩ (h:=?_)
       simp only [List.set]
       refine oD ?_
       go_simp
       have f9:=f8.trans F1 zr
       clear Xa0 Xb0 Xc0 Za0 Zb0 Zc0 Xa1 Xb1 Xc1 Za1 Zb1 Zc1 F0 F1 G0 G1 kB1 fq1 f8 hBV
       obtain ⟨Xa,Xb,Xc⟩:=hJ.out i x v1 hx f9
       obtain ⟨Za,Zb,Zc⟩:=hJ.out k z v1 hz f9
       have hAk:Hid (seqA l x (ids.take (k+1))=(seqA l x (ids.take k)||(BV&&(z.s==x.s-1)))):=by show _=_;rw [hsn.out,beq_iff_eq.2 hbb.out.symm,decide_eq_true (show z≠x from fun e=>hne e.symm)];rfl
       clear hsn
       obtain ⟨AH,hAH⟩:=hid_ex (seqA l x (ids.take k))
       rw [hAH.out] at hAk ⊢
       clear hAH
       go_upto_region 14 with (fail)
       go_cut [6] from 60 to 77 (fun s wc=>∃nq,wc=v1.drewN nq∧s=.bool (seqA l x (ids.take (k+1))))
       case first=>
        cases AH<;>cases BV
        all_goals
         go_quiet (fail)
         go_wp2_with (fail)
         go_meet
         exact ⟨_,rfl,by rw [hAk.out];first|rfl|simp⟩
       case rest=>
       obtain ⟨nq,rfl,rfl⟩:=hcut
       have f10:=f9.drewN nq
       clear Xa Xb Xc Za Zb Zc hAk f9
       generalize v1.drewN nq=wq2 at*
       obtain ⟨Xa,Xb,Xc⟩:=hJ.out i x wq2 hx f10
       obtain ⟨Za,Zb,Zc⟩:=hJ.out k z wq2 hz f10
       go_upto_region 15 with (fail)
       by_cases hs2:x.s≤z.s
       case neg=>
        have tg:decide (x.s≤z.s)=false:=decide_eq_false hs2
        have ts:(z.s==x.s)=false:=by rw [beq_eq_false_iff_ne];omega
        go_quiet (fail)
        go_wp2_with (fail)
        go_roundw
        case rel=>exact ⟨k+1,by go_num,rfl,by omega,f10.drewN _⟩
        case measure=>simp [intOf];omega
       case pos=>
        have tg:decide (x.s≤z.s)=true:=decide_eq_true hs2
        cases BV
        case true=>exact absurd (hs1.out rfl) (by omega)
        case false=>
        by_cases hs3:z.s=x.s
        case neg=>
         have ts:(z.s==x.s)=false:=by rw [beq_eq_false_iff_ne];exact hs3
         go_quiet (fail)
         go_wp2_with (fail)
         go_roundw
         case rel=>exact ⟨k+1,by go_num,rfl,by omega,f10.drewN _⟩
         case measure=>simp [intOf];omega
        case pos=>
         have ts:(z.s==x.s)=true:=by rw [beq_iff_eq];exact hs3
         clear hs3
         have kL1:=Lib.hid (fun (w':World)=>opless_any x z w')
         have kL2:=Lib.hid (fun (w':World)=>opless_any z x w')
         have tle:=less_two hne
         unfold BoolPost at kL1 kL2
         obtain ⟨P1,hP1⟩:=hid_ex (Id.less x z)
         obtain ⟨P2,hP2⟩:=hid_ex (Id.less z x)
         rw [hP1.out] at kL1 tle
         rw [hP2.out] at kL2 tle
         clear Xa Xb Xc Za Zb Zc hP1 hP2 hs1
         have F0:Fr Non wq2 wq2.drew:=(Fr.refl Non _).drew
         have G0:Fr Non w3 wq2.drew:=f10.drew
         obtain ⟨Xa0,Xb0,Xc0⟩:=hJ.out i x wq2 hx f10
         obtain ⟨Za0,Zb0,Zc0⟩:=hJ.out k z wq2 hz f10
         refine wp_region_held_drew (S:=fun w'=>w'.cell? ⟨ba,oa+i*3,none⟩=some (.int .i64 x.b)∧w'.cell? ⟨ba,oa+i*3+1,none⟩=some (.int .i64 x.s)∧w'.cell? ⟨ba,oa+i*3+2,none⟩=some (.int .u64 (x.u:Int))∧w'.cell? ⟨ba,oa+k*3,none⟩=some (.int .i64 z.b)∧w'.cell? ⟨ba,oa+k*3+1,none⟩=some (.int .i64 z.s)∧w'.cell? ⟨ba,oa+k*3+2,none⟩=some (.int .u64 (z.u:Int))) (by kernel_rfl) ⟨Xa0,Xb0,Xc0,Za0,Zb0,Zc0⟩ (fun hHeld=> ?_)
         clear hHeld
         refine tkH 0 ⟨Xa0,Xb0,Xc0,Za0,Zb0,Zc0⟩ (h:=tkH 1 ⟨Xa0,Xb0,Xc0,Za0,Zb0,Zc0⟩ (h:=tkH 2 ⟨Xa0,Xb0,Xc0,Za0,Zb0,Zc0⟩ (h:=tkH 3 ⟨Xa0,Xb0,Xc0,Za0,Zb0,Zc0⟩ (h:=tkH 4 ⟨Xa0,Xb0,Xc0,Za0,Zb0,Zc0⟩ (h:=tkH 5 ⟨Xa0,Xb0,Xc0,Za0,Zb0,Zc0⟩ (h:=tkH 6 ⟨Xa0,Xb0,Xc0,Za0,Zb0,Zc0⟩ (h:=tkH 7 ⟨Xa0,Xb0,Xc0,Za0,Zb0,Zc0⟩ (h:=tkH 8 ⟨Xa0,Xb0,Xc0,Za0,Zb0,Zc0⟩ (h:=tkH 9 ⟨Xa0,Xb0,Xc0,Za0,Zb0,Zc0⟩ (h:=tkH 10 ⟨Xa0,Xb0,Xc0,Za0,Zb0,Zc0⟩ (h:=tkH 11 ⟨Xa0,Xb0,Xc0,Za0,Zb0,Zc0⟩ (h:=?_))))))))))))
         simp only [List.set]
         refine tkH 12 ⟨Xa0,Xb0,Xc0,Za0,Zb0,Zc0⟩ (h:=tkH 13 ⟨Xa0,Xb0,Xc0,Za0,Zb0,Zc0⟩ (h:=tkH 14 ⟨Xa0,Xb0,Xc0,Za0,Zb0,Zc0⟩ (h:=tkH 15 ⟨Xa0,Xb0,Xc0,Za0,Zb0,Zc0⟩ (h:=tkH 16 ⟨Xa0,Xb0,Xc0,Za0,Zb0,Zc0⟩ (h:=tkH 17 ⟨Xa0,Xb0,Xc0,Za0,Zb0,Zc0⟩ (h:=tkH 18 ⟨Xa0,Xb0,Xc0,Za0,Zb0,Zc0⟩ (h:=tkH 19 ⟨Xa0,Xb0,Xc0,Za0,Zb0,Zc0⟩ (h:=tkH 20 ⟨Xa0,Xb0,Xc0,Za0,Zb0,Zc0⟩ (h:=tkH 21 ⟨Xa0,Xb0,Xc0,Za0,Zb0,Zc0⟩ (h:=tkH 22 ⟨Xa0,Xb0,Xc0,Za0,Zb0,Zc0⟩ (h:=tkH 23 ⟨Xa0,Xb0,Xc0,Za0,Zb0,Zc0⟩ (h:=?_))))))))))))
         simp only [List.set]
         refine tkH 24 ⟨Xa0,Xb0,Xc0,Za0,Zb0,Zc0⟩ (h:=tkH 25 ⟨Xa0,Xb0,Xc0,Za0,Zb0,Zc0⟩ (h:=tkH 26 ⟨Xa0,Xb0,Xc0,Za0,Zb0,Zc0⟩ (h:=tkH 27 ⟨Xa0,Xb0,Xc0,Za0,Zb0,Zc0⟩ (h:=tkH 28 ⟨Xa0,Xb0,Xc0,Za0,Zb0,Zc0⟩ (h:=tkH 29 ⟨Xa0,Xb0,Xc0,Za0,Zb0,Zc0⟩ (h:=tkH 30 ⟨Xa0,Xb0,Xc0,Za0,Zb0,Zc0⟩ (h:=tkH 31 ⟨Xa0,Xb0,Xc0,Za0,Zb0,Zc0⟩ (h:=tkH 32 ⟨Xa0,Xb0,Xc0,Za0,Zb0,Zc0⟩ (h:=tkH 33 ⟨Xa0,Xb0,Xc0,Za0,Zb0,Zc0⟩ (h:=tkH 34 ⟨Xa0,Xb0,Xc0,Za0,Zb0,Zc0⟩ (h:=tkH 36 ⟨Xa0,Xb0,Xc0,Za0,Zb0,Zc0⟩ (h:=?_))))))))))))
         simp only [List.set]
         refine tkH 37 ⟨Xa0,Xb0,Xc0,Za0,Zb0,Zc0⟩ (h:=tkH 38 ⟨Xa0,Xb0,Xc0,Za0,Zb0,Zc0⟩ (h:=tkH 39 ⟨Xa0,Xb0,Xc0,Za0,Zb0,Zc0⟩ (h:=tkH 40 ⟨Xa0,Xb0,Xc0,Za0,Zb0,Zc0⟩ (h:=tkH 41 ⟨Xa0,Xb0,Xc0,Za0,Zb0,Zc0⟩ (h:=tkH 42 ⟨Xa0,Xb0,Xc0,Za0,Zb0,Zc0⟩ (h:=tkH 43 ⟨Xa0,Xb0,Xc0,Za0,Zb0,Zc0⟩ (h:=?_)))))))
         simp only [List.set]
         refine oG 35 (fun K hK=> ?_)
         go_simp
         go_wp2_with (go_at_call 30;(with_reducible refine (kL1.out _).mono ?_);rintro _ v1 ⟨rfl,fq1⟩;have F1:=F0.trans fq1 zr;have Xa1:=F1.cell Xa0 zq;have Xb1:=F1.cell Xb0 zq;have Xc1:=F1.cell Xc0 zq;have Za1:=F1.cell Za0 zq;have Zb1:=F1.cell Zb0 zq;have Zc1:=F1.cell Zc0 zq;have G1:=f10.trans F1 zr)
         refine hK.out _ _ ⟨Xa1,Xb1,Xc1,Za1,Zb1,Zc1⟩ (fun hZ=> ?_)
         clear hZ hK K
         try simp only [put_lit',List.set]
         refine oG 44 (fun K hK=> ?_)
         go_simp
         go_wp2_with (go_at_call 30;(with_reducible refine (kL2.out _).mono ?_);rintro _ v2 ⟨rfl,fq2⟩;have F2:=F1.trans fq2 zr;have Xa2:=F2.cell Xa0 zq;have Xb2:=F2.cell Xb0 zq;have Xc2:=F2.cell Xc0 zq;have Za2:=F2.cell Za0 zq;have Zb2:=F2.cell Zb0 zq;have Zc2:=F2.cell Zc0 zq;have G2:=f10.trans F2 zr)
         refine hK.out _ _ ⟨Xa2,Xb2,Xc2,Za2,Zb2,Zc2⟩ (fun hZ=> ?_)
         clear hZ hK K
         try simp only [put_lit',List.set]
         refine tkH 45 ⟨Xa2,Xb2,Xc2,Za2,Zb2,Zc2⟩ (h:=tkH 46 ⟨Xa2,Xb2,Xc2,Za2,Zb2,Zc2⟩ (h:=tkH 47 ⟨Xa2,Xb2,Xc2,Za2,Zb2,Zc2⟩ (h:=?_)))
         simp only [List.set]
         refine oD ?_
         go_simp
         have f11:=f10.trans F2 zr
         clear Xa0 Xb0 Xc0 Za0 Zb0 Zc0 Xa1 Xb1 Xc1 Za1 Zb1 Zc1 Xa2 Xb2 Xc2 Za2 Zb2 Zc2 F0 F1 F2 G0 G1 G2
         go_wp2_with (fail)
         go_roundw
         case rel=>exact ⟨k+1,by go_num,rfl,by omega,f11⟩
         case measure=>simp [intOf];omega
    ·
     obtain rfl:k=n:=by omega
     have t1:decide ((k:Int)<(k:Int))=false:=decide_eq_false (by omega)
     have hend:Hid (seqA l x (ids.take k)=true):=by show _=_;rw [List.take_of_length_le (by rw [hn.out];exact Nat.le_refl _)];exact hsx
     rw [hend.out]
     go_wp2_with (fail)
     go_roundw
     case rel=>exact ⟨i+1,by go_num,by omega,f7⟩
     case measure=>simp [intOf];omega
  ·
   obtain rfl:i=n:=by omega
   have t1:decide ((i:Int)<(i:Int))=false:=decide_eq_false (by omega)
   have kv:=Lib.hid (hlv.out wr (fr3.trans f4 zr))
   go_wp2_with (go_at_call 19;(with_reducible refine (kv.out).mono ?_);rintro _ we ⟨rfl,fe⟩;have fre:=(fr3.trans f4 zr).trans fe zr)
   exact hfin.out _ fre
end Oq
end
section
open Go.ChangeShapes Go.WideShapes Go.ChangeAt Go.RowKit
theorem graphSeq_lifted (os:Os) (started:os.Started) (H:Type) (enc:TypeId × Value→H):
  ReturnsInHanded {} Tryz.checked os 5 .any (fun w args=>(Rows.graphSeqSpec.pre enc Tryz.prog Tryz.f5 [] false w args∧laidMetH Tryz.prog [("huddle/op.kinds",Rows.laid_huddle_op_kinds)] w)∧sizedMet enc Tryz.prog Tryz.f5 (OpenSpec.ofChange Rows.graphSeqSpec) false w args)
   (Rows.graphSeqSpec.post enc Tryz.prog Tryz.f5 false true false false):=by
 refine returnsInHanded_of_change_and (C:=Tryz.checked) (X:=fun w _=>laidMetH Tryz.prog [("huddle/op.kinds",Rows.laid_huddle_op_kinds)] w) (fun _ _ _ hh h=>h.of_heap hh) Tryz.own started (by kernel_rfl) Tryz.func5
  (ChangeSpec.witness_at (enc:=enc) (C:=Tryz.checked) (os:=os) (X:=fun w _=>laidMetH Tryz.prog [("huddle/op.kinds",Rows.laid_huddle_op_kinds)] w) false (laidWorld os) #[.slice none 0 0] 8 rfl (by kernel_rfl) (by kernel_rfl) (by kernel_rfl) (by kernel_rfl) (by kernel_rfl) (laidWorld_met os _)) ?_
 intro W base args ds gs before hval0 hW _ _ hL _
 have hk:=kindsAt_of_laid hL
 have hval:∀(j:Nat) t v,Tryz.f5.params[j]? =some t→args[j]? =some v→Value.okWide Tryz.prog W .any base t v:=hval0
 have hW':=hW
 obtain ⟨p,q,hA0,hV,rfl,hfz,hnd⟩:=hW
 have hA:DataW.TrodAll enc Tryz.prog W 0 (fun _=>true) true Tryz.f5.params.toList args.toList ds p:=hA0
 rw [Tryz.params5] at hA hval
 obtain ⟨v0,d0,rfl,rfl,h0⟩:=trodAll_one hA
 obtain ⟨A0,c0,l0,rfl,hlc0,hc0,hr0,hok0⟩:=open_ints Tryz.underlying22 Tryz.underlying3 (by kernel_rfl) (hval 0 22 v0 rfl rfl) h0
 refine (Oq.graphSeq_law A0 c0 l0 W hk hr0 hlc0 hc0 hok0).mono fun e W' ⟨he,hf⟩=> ?_
 exact ⟨_,he,law_post Tryz.laidOut (by kernel_rfl) rfl (by kernel_rfl) Tryz.underlying4 hW' ⟨rfl,rfl,rfl⟩ hf⟩
theorem graphSeq_holds:Rows.GraphSeqSaid:=
 OpenClaim.holds_of_wide 5 Tryz.f5 rfl rfl rfl rfl rfl rfl rfl ⟨rfl,rfl,rfl,rfl,rfl⟩ rfl rfl rfl rfl rfl (by kernel_rfl) Tryz.func5 (by kernel_rfl)
  (of_decide_eq_true (by kernel_rfl)) (by unfold Func.isWrapper;rw [if_neg (by decide+kernel)];exact ⟨rfl,rfl⟩)
  (fun os started H enc _=>graphSeq_lifted os started H enc)
end
section
open Go
theorem graphSeq_card_holds:Rows.GraphSeqCardSaid:=
 Claim7.holds_tied_plain_at .later [] [.data] true (true, "7e0c834fc93e2f05c1722e6864a69bf9e61c39615967a567db2e137b72a7bc25") false
  graphSeq_holds (fun _ h=>by cases h) (by kernel_rfl) (fun _ h=>by cases h) graphSeq_row_tie rfl ⟨rfl,rfl⟩ (by kernel_rfl) rfl
  (fun f fn hf hfn=>by
   obtain rfl:f=5:=Option.some.inj ((show Tryz.prog.funcNamed "huddle/huddlelaw12.GraphSeq" =some 5 by kernel_rfl).symm.trans hf)|>.symm
   obtain rfl:fn=Tryz.f5:=(Option.some.inj (Tryz.func5.symm.trans hfn)).symm
   exact ⟨by kernel_rfl,fun j t ht=>by
    rw [Tryz.params5] at ht
    have hm:t∈([22]:List TypeId):=by
     have h2:=Array.mem_of_getElem? ht
     simpa using h2
    have hall:([22]:List TypeId).all (fun t=> !(Tryz.prog.wantsStandIn t))=true:=by kernel_rfl
    have:=List.all_eq_true.1 hall t hm
    exact (by simpa using this:Tryz.prog.wantsStandIn t=false)⟩)
  (by kernel_rfl)
end
end Go.Proofs.YtafonabghnogaaaGreatDoor
