/-
  Contracts of the functions that the claim's statement reaches, walked one by one (part 16).
  Conditions: as each theorem says.
-/
import Derived.Great.BuildSlice
import Derived.Lib.SlBytesConst
import Derived.Test.YtafonabghnogaaaGreatDoorGrM12
import Derived.Test.YtafonabghnogaaaGreatDoorGrM13
import Derived.Test.YtafonabghnogaaaGreatDoorGrM15
set_option maxRecDepth 100000
set_option maxHeartbeats 16000000
open Array renaming length_toList→Am3
open Bool renaming and_eq_true→Am5
open List renaming not_mem_nil→Al1,mem_singleton→Al4,nil_append→Al8,map_append→Al9,length_append→Am0,getElem?_eq_getElem→Am1,length_map→Am2,mem_of_getElem?→Am4,getElem?_toArray→Am6,take_of_length_le→Am7,getElem_map→Am8,getElem?_map→Am9
open Nat renaming le_refl→Al3,le_trans→Al5,zero_add→Al6,zero_le→Al7
open Option renaming map_map→An0
open Go.World renaming size_alloc→Al2
namespace Go.Proofs.YtafonabghnogaaaGreatDoor
section
open Go.RowKit
attribute [local go_sem ↓] Go.wp_at_zero Go.wp_at_succ
namespace Oq
attribute [local go_sem] Bool.not_false Bool.not_true
theorem Mf (p v:Value):Instr.storeAt 32 p v=stS 32 p v:=rfl
def bsO (t:TypeId) (len:Nat) (parts:Array (Nat × Value)):=Instr.buildSlice t len parts
theorem Af7 (n:Nat) (p:Array (Nat × Value)):Instr.buildSlice 27 n p=bsO 27 n p:=rfl
theorem Af8 (x:OpL) (w:World):(bsO 27 1 #[(0,.agg x.cells)]).run Tryz.prog w=.ok (.slice (some ⟨w.heap.size,0,none⟩) 1 1) (w.alloc (.cells x.cells 44)):=by
 obtain ⟨ht,hinfo,_⟩:=E5
 obtain ⟨i,hi,hz,hs,_⟩:=info_parts hinfo
 exact run_buildSlice w 27 44 1 _ _ i _ ht hi hz (by rw [hs];decide) (by rw [hs];decide) (by rw [hs];kernel_rfl)
attribute [local go_sem ↓] Ew Ci Mf Af7
theorem Ry {P:Program} {Q:Exit→Act→World→Prop} {l:List Oper} {md:Region.Mode} {S:World→Prop} {g fuel:Nat} {listed:Array Bool} {a:Act} {w:World} (i j:Nat) {d:Option Tmp} {op:Go.Op} {ty:TypeId} {pos:String} {after:Array Edge} {d':Option Tmp} {op':Go.Op} {ty':TypeId} {pos':String} {after':Array Edge}
  (hr:Region.ready md l.toArray listed=[i,j]) (ho:l[i]? =some ⟨d,op,ty,pos,after,none⟩) (ho':l[j]? =some ⟨d',op',ty',pos',after',none⟩)
  (h:∀K':Act→World→Prop,Shut (∀a w,S w→(S w→Cy P md l.toArray Q S g fuel (listed.setIfInBounds i true) a w)→K' a w)→Oper.wp P ⟨d,op,ty,pos,after,none⟩ a w K' Q)
  (h':∀K':Act→World→Prop,Shut (∀a w,S w→(S w→Cy P md l.toArray Q S g fuel (listed.setIfInBounds j true) a w)→K' a w)→Oper.wp P ⟨d',op',ty',pos',after',none⟩ a w K' Q):
  Cy P md l.toArray Q S g (fuel+1) listed a w:=by
 refine ⟨fun h0=>(by rw [hr] at h0;cases h0),fun k hk=> ?_⟩
 rw [hr] at hk
 rcases List.mem_cons.1 hk with rfl|hk
 ·
  refine wpOp_step (o:=⟨d,op,ty,pos,after,none⟩) (by rw [Am6];exact ho) (fun K' hK=> ?_)
  rw [if_pos (show Region.wanted _ _=true from rfl)]
  exact h K' (fun a w hS hW=>hK a w ⟨fun _=>hS,hW hS⟩)
 ·
  obtain rfl:=List.mem_singleton.1 hk
  refine wpOp_step (o:=⟨d',op',ty',pos',after',none⟩) (by rw [Am6];exact ho') (fun K' hK=> ?_)
  rw [if_pos (show Region.wanted _ _=true from rfl)]
  exact h' K' (fun a w hS hW=>hK a w ⟨fun _=>hS,hW hS⟩)
def E6 (base:Nat) (r:RG) (o:Op) (w:World) (e:Ending) (w':World):Prop:=
 ∃r':RG,e=.returned (.tuple #[.agg r'.cells,.int .i64 (Aj r.cards r.l o)])∧Fr Non w w'∧r'.own w' base∧r'.cards=r.cards∧r'.l=(if Aj r.cards r.l o=0 then r.l++[Av r.l o] else r.l)
theorem Ed (r:RG):r.cells.all (·.oneCell')=true:=by unfold RG.cells;simp [Value.oneCell']
theorem Rz (x:OpL):∀u∈x.cells.toList,u.oneCell'=true:=by
 intro u hu
 have h:=Cr x
 rw [Array.all_eq_true'] at h
 exact h u (Array.mem_toList_iff.1 hu)
theorem I8 (l:List OpL):∀u∈l.flatMap (fun x=>x.cells.toList),u.oneCell'=true:=by
 intro u hu
 obtain ⟨x,_,hx⟩:=List.mem_flatMap.1 hu
 exact Rz x u hx
theorem R3 {α:Type} (f:α→Value) (hf:∀x,(f x).oneCell'=true) (l:List α):∀u∈l.map f,u.oneCell'=true:=by
 intro u hu
 obtain ⟨x,_,rfl⟩:=List.mem_map.1 hu
 exact hf x
theorem Af9 (base:Nat) (r:RG) (x:OpL) (w:World) (h:r.own w base) (hx:x.own w base) (hb:base≤w.heap.size) (hok:x.op.ok):
  Calls Tryz.prog 33 #[.agg r.cells,.agg x.cells] w (E6 base r x.op w):=by
 have hat:=hx.at
 have hfew:=h.few
 have hG:(Tryz.prog.info? 32).map (·.size)=some r.cells.size:=Dg
 have hszx:(Tryz.prog.info? 44).map (·.size)=some x.cells.size:=by rw [show x.cells.size=27 from rfl];kernel_rfl
 have hl:=Bd (P:=Tryz.prog) w.heap.size 32 Tryz.underlying32 rfl (cs:=r.cells) Dg
 have hlx:=Bd (P:=Tryz.prog) (w.heap.size+1) 44 Tryz.underlying44 rfl hszx
 have bg:=((Blk.new w 32 r.cells).alloc (.cells x.cells 44)).alloc (.cells zG 32)
 have bx:=(Blk.new (w.alloc (.cells r.cells 32)) 44 x.cells).alloc (.cells zG 32)
 have br:=Blk.new ((w.alloc (.cells r.cells 32)).alloc (.cells x.cells 44)) 32 zG
 rw [Al2] at bx
 rw [Al2,Al2] at br
 have f0:Fr Non w (((w.alloc (.cells r.cells 32)).alloc (.cells x.cells 44)).alloc (.cells zG 32)):=(((Fr.refl Non w).alloc _).alloc _).alloc _
 have sz0:w.heap.size+3≤(((w.alloc (.cells r.cells 32)).alloc (.cells x.cells 44)).alloc (.cells zG 32)).heap.size:=by
  rw [Al2,Al2,Al2]
  exact Al3 _
 have kw:=Lib.hid (fun (w':World) (hf:Fr Non w w')=>Af2 base r x w' (h.non hf) (OpL.frame hat hf) hok)
 have hEs:Hid (Aj r.cards r.l x.op≠0→∀w',Fr Non w w'→E6 base r x.op w (.returned (.tuple #[.agg r.cells,.int .i64 (Aj r.cards r.l x.op)])) w'):=by
  intro he w' hf
  exact ⟨r,rfl,hf,h.non hf,rfl,by rw [if_neg he]⟩
 have honeG:=Ed r
 have hbs:=Af8 x
 have hsz27:x.cells.size=1*27:=rfl
 go_enter Tryz.func33,Tryz.ntmps33
 go_upto_region 1 with (fail)
 generalize ((w.alloc (.cells r.cells 32)).alloc (.cells x.cells 44)).alloc (.cells zG 32)=w0 at*
 unfold He at kw
 go_upto_region 2 with (go_at_call 16;(with_reducible refine (kw.out _ f0).mono ?_);rintro _ w1 ⟨A1,n1,c1,rfl,hup,f1⟩)
 replace bg:=bg.fr f1 zq
 replace bx:=bx.fr f1 zq
 replace br:=br.fr f1 zq
 have ff1:=f0.trans f1 zr
 have sz1:=Al5 sz0 f1.size
 clear kw
 by_cases he:Aj r.cards r.l x.op=0
 case neg=>
  have hd:=Lib.hid (hEs.out he)
  obtain ⟨E,hE⟩:=Aa (Aj r.cards r.l x.op)
  rw [hE.out] at hd he ⊢
  have t:(E !=0)=true:=by simp [he]
  have hst:=Ck (P:=Tryz.prog) (w.heap.size+2) 32 hG (old:=zG) rfl honeG
  generalize E6 base r x.op w=POST at*
  clear hup h hx hat hEs hok
  as_aux_lemma=>
  go_wp2_with (fail)
  have hz2:=br.setRow (cs:=r.cells)
  have fz:=ff1.setRow (g:=w.heap.size+2) (fun hh=>absurd hh (by omega)) r.cells
  have hdd:=Lib.hid (hd.out _ fz)
  (try simp only [Exit.inBlock,Exit.then])
  refine Fp (t:=32) rfl rfl hz2 rfl Tryz.underlying32 hG rfl ?_
  exact hdd.out
 case pos=>
 obtain ⟨rfl,own1⟩:=hup he
 replace own1:=own1.lower sz0
 rw [he]
 have hplaced:=(Gv he).past
 have kp:=Lib.hid (fun (w':World) (hf:Fr Non w w') (ho:Own w' (w.heap.size+3) 3 1 A1 x.op.past.length c1 ((Ak r.l x.op.past).map Qv))=>(Rs base r w'.heap.size x.op.past.length c1 A1 (Ak r.l x.op.past) w' (h.non hf) (by show _=_;rw [Gw]) ho.rd (by have:=hok.past.1;omega)))
 rw [Rf h.rows hplaced] at kp
 have kid:=Lib.hid (fun (w':World) (hf:Fr Non w w')=>Ru x x.op.name rfl w' (OpL.frame hat hf) hok)
 have hmore:Hid (∀(lA iA uA nA:Option Addr) (lC iC uC nC:Nat) (ns:List InL) (wz:World),Fr Non w wz→
   Own wz (w.heap.size+3) 44 27 lA (r.l.length+1) lC (r.xs.flatMap (fun x=>x.cells.toList)++x.cells.toList)→
   Own wz (w.heap.size+3) 38 3 iA (r.l.length+1) iC (r.ids.flatMap Id.cells++x.op.name.cells)→
   Own wz (w.heap.size+3) 22 1 uA (r.l.length+1) uC (r.us.map UpL.cell++[.slice A1 x.op.past.length c1])→
   Own wz (w.heap.size+3) 3 1 A1 x.op.past.length c1 ((Ak r.l x.op.past).map Qv)→
   Own wz (w.heap.size+3) 112 1 nA (r.l.length+1) nC (ns.map InL.cell)→(∀y∈ns,y.own wz base)→ns.map InL.bs=(Dd r.l).map (· ++[false])++[Br r.l.length (Ah r.l x.op.past)++[false]]→
   E6 base r x.op w (.returned (.tuple #[.agg #[.slice r.cA r.cards.length r.cC,.slice lA (r.l.length+1) lC,.slice iA (r.l.length+1) iC,.slice uA (r.l.length+1) uC,.slice nA (r.l.length+1) nC],.int .i64 0])) wz):=by
  intro lA iA uA nA lC iC uC nC ns wz hf oL oI oU oa oN on hn
  have hul:(Ak r.l x.op.past).length=x.op.past.length:=Gw _ _
  have hcell:(UpL.mk A1 c1 (Ak r.l x.op.past)).cell=.slice A1 x.op.past.length c1:=by
   show Value.slice A1 (Ak r.l x.op.past).length c1=_
   rw [hul]
  have hlen:(r.l++[Av r.l x.op]).length=r.l.length+1:=by rw [Am0];rfl
  have hm:=Af6 (u:=⟨A1,c1,Ak r.l x.op.past⟩) h hx hok hf (by omega) he oL oI (by rw [hcell];exact oU) (by
   show RowAt wz base 3 1 A1 (Ak r.l x.op.past).length c1 ((Ak r.l x.op.past).map Qv)
   rw [hul]
   exact (RowAt.of_own oa).lower (by omega)) rfl oN on hn
  refine ⟨_,?_,hf,hm,rfl,by rw [if_pos he];rfl⟩
  rw [he]
  show Ending.returned (.tuple #[.agg #[.slice r.cA r.cards.length r.cC,.slice lA (r.l.length+1) lC,.slice iA (r.l.length+1) iC,.slice uA (r.l.length+1) uC,.slice nA (r.l.length+1) nC],.int .i64 0])=Ending.returned (.tuple #[.agg #[.slice r.cA r.cards.length r.cC,.slice lA (r.l++[Av r.l x.op]).length lC,.slice iA (r.l++[Av r.l x.op]).length iC,.slice uA (r.l++[Av r.l x.op]).length uC,.slice nA (r.l++[Av r.l x.op]).length nC],.int .i64 0])
  rw [hlen]
 have hrdL:=Lib.hid h.ops.sl.rd
 have hrdI:=Lib.hid h.rdIds
 have hrdU:=Lib.hid h.ups.sl.rd
 have hnAt:Hid (∀(i:Nat) (n:Pn),r.l[i]? =some n→∃(x:InL) (b off:Nat),x.bs=Br r.l.length n.ps∧x.own w base∧r.nA=some ⟨b,off,none⟩∧b<w.heap.size∧w.cell? ⟨b,off+i,none⟩=some x.cell):=fun i n hi=>h.nAt hi
 have g0:Hid (r.cells[0]? =some (.slice r.cA r.cards.length r.cC)):=rfl
 have g1:Hid (r.cells[1]? =some (.slice r.lA r.l.length r.lC)):=rfl
 have g2:Hid (r.cells[2]? =some (.slice r.iA r.l.length r.iC)):=rfl
 have g3:Hid (r.cells[3]? =some (.slice r.uA r.l.length r.uC)):=rfl
 have g4:Hid (r.cells[4]? =some (.slice r.nA r.l.length r.nC)):=rfl
 have hopo:=Lib.hid (I8 r.xs)
 have hxo:=Lib.hid (Rz x)
 have hoid:=Lib.hid (Id.cells_one r.ids)
 have houp:=Lib.hid (R3 UpL.cell (fun _=>rfl) r.us)
 have hino:=Lib.hid (fun (y:InL)=>R3 Value.bool (fun _=>rfl) y.bs)
 have hrx:Hid (x.cells.toList.length=1*27):=rfl
 have hns0:Hid ((Dd r.l).length=r.l.length):=Wd r.l
 have hns1:Hid (∀(i:Nat) (n:Pn),r.l[i]? =some n→(Dd r.l)[i]? =some (Br r.l.length n.ps)):=fun i n hi=>Pg hi
 clear hEs h hx hat hplaced he hG hup f1 f0
 obtain ⟨NM,hNM⟩:∃nm,x.op.name=nm:=⟨_,rfl⟩
 rw [hNM] at kid hmore
 clear hNM
 have hpm:x.op.past.length≤1000:=hok.past.1
 clear hok
 generalize Ak r.l x.op.past=UP at*
 generalize Ah r.l x.op.past=PS at*
 generalize x.op.past.length=M at*
 generalize E6 base r x.op w=POST at*
 generalize hXL:x.cells.toList=XL at*
 generalize r.xs.flatMap (fun x=>x.cells.toList)=LL at*
 generalize x.cells=XS at*
 generalize r.ids.flatMap Id.cells=IL at*
 generalize r.us.map UpL.cell=UL at*
 generalize Dd r.l=IR at*
 generalize r.cells=CS at*
 generalize r.cards.length=nc at*
 generalize r.cA=CA at*
 generalize r.cC=CC at*
 generalize r.lA=LA at*
 generalize r.lC=LC at*
 generalize r.iA=IA at*
 generalize r.iC=IC at*
 generalize r.uA=UA at*
 generalize r.uC=UC at*
 generalize r.nA=NA at*
 generalize r.nC=NC at*
 generalize r.l=l at*
 obtain ⟨N,hN⟩:=Aa l.length
 rw [hN.out] at kp hmore hrdL hrdI hrdU hnAt g1 g2 g3 g4 hfew hns0 hns1
 unfold I7 at kp
 go_upto_region 5 with (go_at_call 67;(with_reducible refine (kp.out _ ff1 own1).mono ?_);rintro _ w2 ⟨A2,c2,rfl,own2,f2⟩)
 have owa:=own1.fr f2 zr
 replace own2:=own2.lower sz1
 have ff2:=ff1.trans f2 zr
 have sz2:=Al5 sz1 f2.size
 replace bg:=bg.fr f2 zq
 replace bx:=bx.fr f2 zq
 replace br:=br.fr f2 zq
 have K:KA w (w2.alloc (.cells zG 32)) w2.heap.size CS XS zG zG:=⟨bg.alloc _,bx.alloc _,br.alloc _,Blk.new w2 32 zG,sz2,ff2.alloc _⟩
 replace owa:=owa.alloc (.cells zG 32)
 replace own2:=own2.alloc (.cells zG 32)
 clear bg bx br ff1 ff2 own1 kp f2
 go_upto_region 6 with (fail)
 obtain ⟨nb,hnb⟩:=Aa w2.heap.size
 rw [hnb.out] at K ⊢
 generalize w2.alloc (.cells zG 32)=w3 at*
 clear hnb sz0 sz1 sz2 w2 w1 w0
 have d0:=(K.bg.cell 0).trans g0.out
 have n0:w3.cell? ⟨nb,0,none⟩=some (.slice none 0 0):=K.bn.cell 0
 have z0:=K.bn.frozen 0
 go_upto_region 7 with (fail)
 have K4:=K.set 0 (.slice CA nc CC)
 replace owa:=Own.setFar (i:=0) owa K.bn (by decide) (.slice CA nc CC)
 replace own2:=Own.setFar (i:=0) own2 K.bn (by decide) (.slice CA nc CC)
 generalize w3.setCell ⟨nb,0,none⟩ (.slice CA nc CC)=w4 at*
 clear K d0 n0 z0 w3
 change KA w w4 nb CS XS zG #[.slice CA nc CC,.slice none 0 0,.slice none 0 0,.slice none 0 0,.slice none 0 0] at K4
 have hL4:=Lib.hid ((hrdL.out).fr K4.fr zr)
 have hI4:=Lib.hid ((hrdI.out).fr K4.fr zr)
 have hU4:=Lib.hid ((hrdU.out).fr K4.fr zr)
 have sz4:w.heap.size+3≤w4.heap.size:=by have h1:=K4.bn.lt;have h2:=K4.nb;omega
 go_cut [8] from 28 to 36 (fun s wc=>s=.slice A2 N c2∧∃lA lC,KA w wc nb CS XS zG #[.slice CA nc CC,.slice lA (N+1) lC,.slice none 0 0,.slice none 0 0,.slice none 0 0]∧Own wc (w.heap.size+3) 44 27 lA (N+1) lC (LL++XL)∧Own wc (w.heap.size+3) 3 1 A1 M c1 (UP.map Qv)∧Own wc (w.heap.size+3) 4 1 A2 N c2 (Cs N PS))
 case first=>
  clear hmore kid
  as_aux_lemma=>
  have hcd:∀wz,Fr Non w4 wz→KA w wz nb CS XS zG #[.slice CA nc CC,.slice none 0 0,.slice none 0 0,.slice none 0 0,.slice none 0 0]:=fun wz hz=>K4.non hz
  have B0:=K4.bg
  have X0:=K4.bx
  have G0:w4.cell? ⟨w.heap.size,1,none⟩=some (.slice LA N LC):=(K4.bg.cell 1).trans g1.out
  have P0:w4.cell? ⟨nb,1,none⟩=some (.slice none 0 0):=K4.bn.cell 1
  have F0:Fr Non w4 w4.drew:=(Fr.refl Non w4).drew
  have hone1:∀u∈XS.toList,u.oneCell'=true:=by rw [hXL];exact hxo.out
  refine C4 (S:=fun w'=>Blk w' w.heap.size 32 CS∧Blk w' (w.heap.size+1) 44 XS∧w'.cell? ⟨w.heap.size,1,none⟩=some (.slice LA N LC)∧w'.cell? ⟨nb,1,none⟩=some (.slice none 0 0)) 9 (by kernel_rfl) ?_
  refine tkG 0 ⟨B0,X0,G0,P0⟩ (h:=tkG 1 ⟨B0,X0,G0,P0⟩ (h:=tkG 2 ⟨B0,X0,G0,P0⟩ (h:=tkG 3 ⟨B0,X0,G0,P0⟩ (h:=tkG 5 ⟨B0,X0,G0,P0⟩ (h:=?_)))))
  simp only [List.set]
  refine Ry 4 6 (by kernel_rfl) rfl rfl (fun K hK=> ?_) (fun K hK=> ?_)
  ·
   skip
   refine Dp (base:=w.heap.size+3) (.tmp 29) (.tmp 31) 27 rfl rfl rfl E5 (Own.nil _ _ _ _) (hL4.out.fr F0 zr) hopo.out (by omega) (by omega) sz4 ?_
   intro lA lC v1 oL fL hat1
   rw [Al6,Al8] at oL
   have F1:Fr Non w4 v1:=F0.trans (Gf fL) zr
   have hr1:∀k,Ab lA=some k→w4.heap.size≤k:=fun k hk=>by rcases hat1 with e|e;(rw [e] at hk;cases hk);(rw [e] at hk;injection hk with hk;have hk':w4.heap.size=k:=hk;omega)
   have B1:=B0.fr F1 zq
   have X1:=X0.fr F1 zq
   have G1:=F1.cell G0 zq
   have P1:=F1.cell P0 zq
   refine hK.out _ _ ⟨B1,X1,G1,P1⟩ (fun hZ=> ?_)
   clear hZ hK K
   try simp only [Al6]
   refine Bl 6 (by kernel_rfl) rfl (fun K hK=> ?_)
   go_simp
   have hnb:=Blk.new v1 44 XS
   have oL2:=oL.alloc (.cells XS 44)
   have F2:Fr Non w4 (v1.alloc (.cells XS 44)):=F1.alloc _
   obtain ⟨ga,hga⟩:=Aa v1.heap.size
   rw [hga.out] at hnb ⊢
   generalize v1.alloc (.cells XS 44)=v2 at*
   have B2:=B0.fr F2 zq
   have X2:=X0.fr F2 zq
   have G2:=F2.cell G0 zq
   have P2:=F2.cell P0 zq
   refine hK.out _ _ ⟨B2,X2,G2,P2⟩ (fun hZ=> ?_)
   clear hZ hK K
   try simp only [Ac,List.set]
   refine Bl 7 (by kernel_rfl) rfl (fun K hK=> ?_)
   refine Dp (base:=w.heap.size+3) (.tmp 32) (.tmp 34) 27 rfl rfl rfl E5 oL2 (Rd.blk (n:=1) (size:=27) hnb hsz27) hone1 (by omega) (by omega) (Al5 sz4 F2.size) ?_
   intro lA2 lC2 v3 oL3 fL3 hat3
   rw [hXL] at oL3
   have F3:Fr Non w4 v3:=F2.trans fL3 (fun k hk e=>by have h9:=hr1 k e;omega)
   have B3:=B0.fr F3 zq
   have X3:=X0.fr F3 zq
   have G3:=F3.cell G0 zq
   have P3:=F3.cell P0 zq
   refine hK.out _ _ ⟨B3,X3,G3,P3⟩ (fun hZ=> ?_)
   clear hZ hK K
   try simp only [Ac,List.set]
   refine tkG 8 ⟨B3,X3,G3,P3⟩ (h:=?_)
   simp only [List.set]
   have nz:=(hcd v3 F3).bn.frozen 1
   refine Cv (by kernel_rfl) ?_
   refine oG 9 (fun K hK=> ?_)
   go_simp
   have K5:=(hcd v3 F3).set 1 (.slice lA2 (N+1) lC2)
   have oL5:=Own.setFar (i:=1) oL3 (hcd v3 F3).bn (by decide) (.slice lA2 (N+1) lC2)
   have oa5:=Own.setFar (i:=1) (owa.fr F3 zr) (hcd v3 F3).bn (by decide) (.slice lA2 (N+1) lC2)
   have o25:=Own.setFar (i:=1) (own2.fr F3 zr) (hcd v3 F3).bn (by decide) (.slice lA2 (N+1) lC2)
   refine hK.out _ _ trivial (fun hZ=> ?_)
   clear hZ hK K
   try simp only [Ac,List.set]
   refine oD ?_
   go_simp
   go_wp2_with (fail)
   go_meet
   exact ⟨rfl,lA2,lC2,K5,oL5,oa5,o25⟩
  ·
   skip
   go_simp
   have hnb0:=(Blk.new w4 44 XS).drew
   have F1:Fr Non w4 (w4.alloc (.cells XS 44)).drew:=((Fr.refl Non w4).alloc _).drew
   have sz5:=F1.size
   obtain ⟨ga,hga⟩:=Aa w4.heap.size
   have hga2:w4.heap.size≤w4.heap.size:=Al3 _
   rw [hga.out] at hnb0 ⊢
   generalize (w4.alloc (.cells XS 44)).drew=v1 at*
   have B1:=B0.fr F1 zq
   have X1:=X0.fr F1 zq
   have G1:=F1.cell G0 zq
   have P1:=F1.cell P0 zq
   refine hK.out _ _ ⟨B1,X1,G1,P1⟩ (fun hZ=> ?_)
   clear hZ hK K
   try simp only [Ac,List.set]
   refine Bl 4 (by kernel_rfl) rfl (fun K hK=> ?_)
   refine Dp (base:=w.heap.size+3) (.tmp 29) (.tmp 31) 27 rfl rfl rfl E5 (Own.nil _ _ _ _) (hL4.out.fr F1 zr) hopo.out (by omega) (by omega) (Al5 sz4 sz5) ?_
   intro lA lC v2 oL fL hat1
   rw [Al6,Al8] at oL
   have F2:Fr Non w4 v2:=F1.trans (Gf fL) zr
   have hnb:=hnb0.fr (Gf fL) zq
   have hr1:∀k,Ab lA=some k→w4.heap.size≤k:=fun k hk=>by rcases hat1 with e|e;(rw [e] at hk;cases hk);(rw [e] at hk;injection hk with hk;omega)
   have B2:=B0.fr F2 zq
   have X2:=X0.fr F2 zq
   have G2:=F2.cell G0 zq
   have P2:=F2.cell P0 zq
   refine hK.out _ _ ⟨B2,X2,G2,P2⟩ (fun hZ=> ?_)
   clear hZ hK K
   try simp only [Al6,Ac,List.set]
   refine Bl 7 (by kernel_rfl) rfl (fun K hK=> ?_)
   refine Dp (base:=w.heap.size+3) (.tmp 32) (.tmp 34) 27 rfl rfl rfl E5 oL (Rd.blk (n:=1) (size:=27) hnb hsz27) hone1 (by omega) (by omega) (Al5 sz4 F2.size) ?_
   intro lA2 lC2 v3 oL3 fL3 hat3
   rw [hXL] at oL3
   have F3:Fr Non w4 v3:=F2.trans fL3 (fun k hk e=>by have h9:=hr1 k e;omega)
   have B3:=B0.fr F3 zq
   have X3:=X0.fr F3 zq
   have G3:=F3.cell G0 zq
   have P3:=F3.cell P0 zq
   refine hK.out _ _ ⟨B3,X3,G3,P3⟩ (fun hZ=> ?_)
   clear hZ hK K
   try simp only [Ac,List.set]
   refine tkG 8 ⟨B3,X3,G3,P3⟩ (h:=?_)
   simp only [List.set]
   have nz:=(hcd v3 F3).bn.frozen 1
   refine Cv (by kernel_rfl) ?_
   refine oG 9 (fun K hK=> ?_)
   go_simp
   have K5:=(hcd v3 F3).set 1 (.slice lA2 (N+1) lC2)
   have oL5:=Own.setFar (i:=1) oL3 (hcd v3 F3).bn (by decide) (.slice lA2 (N+1) lC2)
   have oa5:=Own.setFar (i:=1) (owa.fr F3 zr) (hcd v3 F3).bn (by decide) (.slice lA2 (N+1) lC2)
   have o25:=Own.setFar (i:=1) (own2.fr F3 zr) (hcd v3 F3).bn (by decide) (.slice lA2 (N+1) lC2)
   refine hK.out _ _ trivial (fun hZ=> ?_)
   clear hZ hK K
   try simp only [Ac,List.set]
   refine oD ?_
   go_simp
   go_wp2_with (fail)
   go_meet
   exact ⟨rfl,lA2,lC2,K5,oL5,oa5,o25⟩
 case rest=>
 obtain ⟨rfl,lA,lC,K5,oL,owa5,own5⟩:=hcut
 clear owa own2 K4 hL4 sz4 hI4 hU4 hopo hxo
 obtain ⟨w5,hw5⟩:∃w5:World,w5=wc:=⟨_,rfl⟩
 subst hw5
 have sz5:w.heap.size+3≤w5.heap.size:=by have h1:=K5.bn.lt;have h2:=K5.nb;omega
 have hI5:=Lib.hid ((hrdI.out).fr K5.fr zr)
 go_upto_region 8 with (fail)
 have hcd:∀wz,Fr Non w5 wz→KA w wz nb CS XS zG #[.slice CA nc CC,.slice lA (N+1) lC,.slice none 0 0,.slice none 0 0,.slice none 0 0]:=fun wz hz=>K5.non hz
 have B0:=K5.bg
 have X0:=K5.bx
 have G0:w5.cell? ⟨w.heap.size,2,none⟩=some (.slice IA N IC):=(K5.bg.cell 2).trans g2.out
 have P0:w5.cell? ⟨nb,2,none⟩=some (.slice none 0 0):=K5.bn.cell 2
 have F0:Fr Non w5 w5.drew:=(Fr.refl Non w5).drew
 refine C4 (S:=fun w'=>Blk w' w.heap.size 32 CS∧Blk w' (w.heap.size+1) 44 XS∧w'.cell? ⟨w.heap.size,2,none⟩=some (.slice IA N IC)∧w'.cell? ⟨nb,2,none⟩=some (.slice none 0 0)) 10 (by kernel_rfl) ?_
 refine tkG 0 ⟨B0,X0,G0,P0⟩ (h:=tkG 1 ⟨B0,X0,G0,P0⟩ (h:=tkG 2 ⟨B0,X0,G0,P0⟩ (h:=tkG 3 ⟨B0,X0,G0,P0⟩ (h:=tkG 5 ⟨B0,X0,G0,P0⟩ (h:=?_)))))
 simp only [List.set]
 refine Bl 4 (by kernel_rfl) rfl (fun K hK=> ?_)
 refine Dp (base:=w.heap.size+3) (.tmp 38) (.tmp 40) 28 rfl rfl rfl C9 (Own.nil _ _ _ _) (hI5.out.fr F0 zr) hoid.out (by omega) (by omega) sz5 ?_
 intro iA iC v1 oI fI hat1
 rw [Al6,Al8] at oI
 have F1:Fr Non w5 v1:=F0.trans (Gf fI) zr
 have hr1:∀k,Ab iA=some k→w5.heap.size≤k:=fun k hk=>by rcases hat1 with e|e;(rw [e] at hk;cases hk);(rw [e] at hk;injection hk with hk;have hk':w5.heap.size=k:=hk;omega)
 have B1:=B0.fr F1 zq
 have X1:=X0.fr F1 zq
 have G1:=F1.cell G0 zq
 have P1:=F1.cell P0 zq
 refine hK.out _ _ ⟨B1,X1,G1,P1⟩ (fun hZ=> ?_)
 clear hZ hK K
 try simp only [Al6,Ac,List.set]
 refine Bl 6 (by kernel_rfl) rfl (fun K hK=> ?_)
 go_simp
 go_wp2_with (go_at_call 35;(with_reducible refine (kid.out _ ((hcd v1 F1).fr)).mono ?_);rintro _ v2 ⟨rfl,f6⟩;have F2:=F1.trans f6 zr;have oI2:=oI.fr f6 zr)
 have B2:=B0.fr F2 zq
 have X2:=X0.fr F2 zq
 have G2:=F2.cell G0 zq
 have P2:=F2.cell P0 zq
 refine hK.out _ _ ⟨B2,X2,G2,P2⟩ (fun hZ=> ?_)
 clear hZ hK K
 try simp only [Ac,List.set]
 refine Bl 7 (by kernel_rfl) rfl (fun K hK=> ?_)
 go_simp
 have hnb0:=Blk.new v2 38 NM.V
 have oI3:=oI2.alloc (.cells NM.V 38)
 have F3:Fr Non w5 (v2.alloc (.cells NM.V 38)):=F2.alloc _
 obtain ⟨ga,hga⟩:=Aa v2.heap.size
 rw [hga.out] at hnb0 ⊢
 generalize v2.alloc (.cells NM.V 38)=v3 at*
 have B3:=B0.fr F3 zq
 have X3:=X0.fr F3 zq
 have G3:=F3.cell G0 zq
 have P3:=F3.cell P0 zq
 refine hK.out _ _ ⟨B3,X3,G3,P3⟩ (fun hZ=> ?_)
 clear hZ hK K
 try simp only [Ac,List.set]
 refine Bl 8 (by kernel_rfl) rfl (fun K hK=> ?_)
 refine Dp (base:=w.heap.size+3) (.tmp 41) (.tmp 44) 28 rfl rfl rfl C9 oI3 (Rd.blk (n:=1) (size:=3) hnb0 rfl) (by simp [Value.oneCell']) (by omega) (by omega) (Al5 sz5 F3.size) ?_
 intro iA2 iC2 v4 oI4 fI4 hat4
 have F4:Fr Non w5 v4:=F3.trans fI4 (fun k hk e=>by have h9:=hr1 k e;omega)
 have B4:=B0.fr F4 zq
 have X4:=X0.fr F4 zq
 have G4:=F4.cell G0 zq
 have P4:=F4.cell P0 zq
 refine hK.out _ _ ⟨B4,X4,G4,P4⟩ (fun hZ=> ?_)
 clear hZ hK K
 try simp only [Ac,List.set]
 refine tkG 9 ⟨B4,X4,G4,P4⟩ (h:=?_)
 simp only [List.set]
 have nz:=(hcd v4 F4).bn.frozen 2
 refine Cv (by kernel_rfl) ?_
 refine oG 10 (fun K hK=> ?_)
 go_simp
 have K6:=(hcd v4 F4).set 2 (.slice iA2 (N+1) iC2)
 have oI6:=Own.setFar (i:=2) oI4 (hcd v4 F4).bn (by decide) (.slice iA2 (N+1) iC2)
 have oL6:=Own.setFar (i:=2) (oL.fr F4 zr) (hcd v4 F4).bn (by decide) (.slice iA2 (N+1) iC2)
 have oa6:=Own.setFar (i:=2) (owa5.fr F4 zr) (hcd v4 F4).bn (by decide) (.slice iA2 (N+1) iC2)
 have o26:=Own.setFar (i:=2) (own5.fr F4 zr) (hcd v4 F4).bn (by decide) (.slice iA2 (N+1) iC2)
 refine hK.out _ _ trivial (fun hZ=> ?_)
 clear hZ hK K
 try simp only [Ac,List.set]
 refine oD ?_
 go_simp
 generalize v4.setCell ⟨nb,2,none⟩ (.slice iA2 (N+1) iC2)=w6 at*
 change KA w w6 nb CS XS zG #[.slice CA nc CC,.slice lA (N+1) lC,.slice iA2 (N+1) iC2,.slice none 0 0,.slice none 0 0] at K6
 clear hcd K5 oL owa5 own5 oI oI2 oI3 oI4 fI fI4 hat1 hat4 hr1 F0 F1 F2 F3 F4 B0 B1 B2 B3 B4 X0 X1 X2 X3 X4 G0 G1 G2 G3 G4 P0 P1 P2 P3 P4 f6 hnb0 hga nz hI5 hoid hrdI kid
 have sz6:w.heap.size+3≤w6.heap.size:=by have h1:=K6.bn.lt;have h2:=K6.nb;omega
 have hU6:=Lib.hid ((hrdU.out).fr K6.fr zr)
 have n3:w6.cell? ⟨nb,3,none⟩=some (.slice none 0 0):=K6.bn.cell 3
 have d3:=(K6.bg.cell 3).trans g3.out
 go_upto_region 10 with (first
  |(at_builtin;go_loud (refine Bb (base:=w.heap.size+3) (.tmp 48) (.tmp 50) 29 rfl rfl rfl rfl slIi (Own.nil _ _ _ _) hU6.out houp.out (by omega) (by omega) sz6 ?_);intro uA uC v1 oU fU hat1;rw [Al6,Al8] at oU;have F1:Fr Non w6 v1:=Gf fU;have hr1:∀k,Ab uA=some k→w6.heap.size≤k:=(fun k hk=>by rcases hat1 with e|e;(rw [e] at hk;cases hk);(rw [e] at hk;injection hk with hk;omega));have hnb0:=Blk.new v1 22 #[.slice A1 M c1];have oU2:=oU.alloc (.cells #[.slice A1 M c1] 22);have F2:Fr Non w6 (v1.alloc (.cells #[.slice A1 M c1] 22)):=F1.alloc _;clear hat1 fU)
  |(at_builtin;go_loud (refine Bb (base:=w.heap.size+3) (.tmp 51) (.tmp 53) 29 rfl rfl rfl rfl slIi oU2 (Rd.blk (n:=1) (size:=1) hnb0 rfl) (by simp [Value.oneCell']) (by omega) (by omega) (Al5 sz6 F2.size) ?_);intro uA2 uC2 v2 oU3 fU3 hat3;have F3:Fr Non w6 v2:=F2.trans fU3 (fun k hk e=>by have h9:=hr1 k e;omega);have K7:=K6.non F3;have n3:v2.cell? ⟨nb,3,none⟩=some (.slice none 0 0):=K7.bn.cell 3;have z3:=K7.bn.frozen 3;clear hat3 hr1 F2 F1 oU2 oU hnb0))
 have K8:=K7.set 3 (.slice uA2 (N+1) uC2)
 have R8:KR (w.heap.size+3) (v2.setCell ⟨nb,3,none⟩ (.slice uA2 (N+1) uC2)) lA (N+1) lC (LL++XL) iA2 (N+1) iC2 (IL++NM.cells) uA2 (N+1) uC2 (UL++[.slice A1 M c1]) A1 M c1 (UP.map Qv) A2 N c2 (Cs N PS):=
  ⟨Own.setFar (oL6.fr F3 zr) K7.bn (by decide) _,Own.setFar (oI6.fr F3 zr) K7.bn (by decide) _,Own.setFar oU3 K7.bn (by decide) _,Own.setFar (oa6.fr F3 zr) K7.bn (by decide) _,Own.setFar (o26.fr F3 zr) K7.bn (by decide) _⟩
 generalize v2.setCell ⟨nb,3,none⟩ (.slice uA2 (N+1) uC2)=w8 at*
 change KA w w8 nb CS XS zG #[.slice CA nc CC,.slice lA (N+1) lC,.slice iA2 (N+1) iC2,.slice uA2 (N+1) uC2,.slice none 0 0] at K8
 clear K6 K7 oL6 oI6 oU3 oa6 o26 n3 z3 d3 F3 fU3 hU6 hrdU houp sz6
 have hA2:∀k,Ab A2=some k→k<w8.heap.size:=fun k hk=>(R8.oB.row k hk).2
 go_wp2_with (fail)
 go_loopw [10] (fun v wr=>∃(j:Nat) (nA:Option Addr) (nC:Nat) (ns:List InL),v=.int .i64 (j:Int)∧j≤N∧KA w wr nb CS XS zG #[.slice CA nc CC,.slice lA (N+1) lC,.slice iA2 (N+1) iC2,.slice uA2 (N+1) uC2,.slice nA j nC]∧KR (w.heap.size+3) wr lA (N+1) lC (LL++XL) iA2 (N+1) iC2 (IL++NM.cells) uA2 (N+1) uC2 (UL++[.slice A1 M c1]) A1 M c1 (UP.map Qv) A2 N c2 (Cs N PS)∧
  Own wr (w.heap.size+3) 112 1 nA j nC (ns.map InL.cell)∧Hid (∀y∈ns,y.own wr base)∧Hid (ns.map InL.bs=(IR.take j).map (· ++[false]))∧w8.heap.size≤wr.heap.size∧Hid (∀y∈ns,∀k,Ab y.A=some k→w8.heap.size≤k)) (fun v _=>N-(intOf v).toNat)
 case atStart=>exact ⟨0,none,0,[],rfl,by omega,K8,R8,Own.nil _ _ _ _,fun y hy=>absurd hy Al1,rfl,Al3 _,fun y hy=>absurd hy Al1⟩
 case round=>
  obtain ⟨j,nA,nC,ns,rfl,hj,K,R,oN,hown,hbs,sz8,hfar⟩:=hrel
  clear K8 R8
  have d4:=(K.bg.cell 4).trans g4.out
  have szr:w.heap.size+3≤wr.heap.size:=by have h1:=K.bn.lt;have h2:=K.nb;omega
  have hrow:=oN.row
  by_cases hlt:j<N
  ·
   have j1:(0:Int)≤j:=by omega
   have j2:(j:Int)<N:=by omega
   have j3:(j:Int).toNat=j:=by omega
   obtain ⟨n,hn⟩:∃n,l[j]? =some n:=⟨_,Am1 (by rw [hN.out];exact hlt)⟩
   obtain ⟨y,b,off,hyb,hyo,rfl,hbl,cy⟩:=hnAt.out j n hn
   have hyl:y.bs.length=N:=by rw [hyb,Fw]
   have hyl2:Hid ((y.bs++[false]).length=N+1):=by show _=_;rw [Am0,hyl];rfl
   have hcy:y.cell=.slice y.A N y.c:=Me (bs:=y.bs) hyl
   rw [hcy] at cy
   have cyr:=K.fr.cell cy zq
   have hry0:Rd w w.heap.size 1 y.A y.bs.length (y.bs.map Value.bool):=hyo.sl.rd
   rw [hyl] at hry0
   have hry:=Lib.hid (hry0.fr K.fr zr)
   have hyone:=Lib.hid (hino.out y)
   have hbs2:Hid ((IR.take (j+1)).map (· ++[false])=(IR.take j).map (· ++[false])++[y.bs++[false]]):=by
    show _=_
    rw [Ea (hns1.out j n hn),Al9,hyb]
    rfl
   have n4:wr.cell? ⟨nb,4,none⟩=some (.slice nA j nC):=K.bn.cell 4
   clear hn hyb hyo cy hry0 hcy hns1 hnAt hmore
   go_upto_region 15 with (at_builtin;go_loud (refine Bb (base:=wr.heap.size) (.tmp 63) (.tmp 68) 112 rfl rfl rfl rfl I6 (Own.nil _ _ _ _) hry.out hyone.out (by omega) (by omega) (Al3 _) ?_);intro rA rC v0 oR fR hat1;rw [Al6,Al8] at oR;have F0:Fr Non wr v0:=Gf fR;have hrr:=oR.row;clear hat1 fR)
   have G0:v0.cell? ⟨nb,4,none⟩=some (.slice nA j nC):=F0.cell n4 zq
   refine C4 (S:=fun w'=>w'.cell? ⟨nb,4,none⟩=some (.slice nA j nC)) 8 (by kernel_rfl) ?_
   refine tkG 0 G0 (h:=tkG 1 G0 (h:=tkG 2 G0 (h:=?_)))
   simp only [List.set]
   refine Bl 3 (by kernel_rfl) rfl (fun K' hK=> ?_)
   go_simp
   have hnb1:=(Blk.new v0 4 #[.bool false]).drew
   have oR2:=oR.alloc (.cells #[.bool false] 4)
   have F1:Fr Non wr (v0.alloc (.cells #[.bool false] 4)).drew:=(F0.alloc (.cells #[.bool false] 4)).drew
   replace oR2:Own (v0.alloc (.cells #[.bool false] 4)).drew wr.heap.size 4 1 rA N rC (y.bs.map Value.bool):=oR2
   obtain ⟨ga,hga⟩:=Aa v0.heap.size
   rw [hga.out] at hnb1 ⊢
   generalize (v0.alloc (.cells #[.bool false] 4)).drew=v1 at*
   have G1:=F1.cell n4 zq
   refine hK.out _ _ G1 (fun hZ=> ?_)
   clear hZ hK K'
   try simp only [Ac,List.set]
   refine Bl 4 (by kernel_rfl) rfl (fun K' hK=> ?_)
   refine Dp (base:=wr.heap.size) (.tmp 72) (.tmp 73) 112 rfl rfl rfl I6 oR2 (Rd.blk (n:=1) (size:=1) hnb1 rfl) (by simp [Value.oneCell']) (by omega) (by omega) F1.size ?_
   intro rA2 rC2 v2 oR3 fR3 hat3
   have F2:Fr Non wr v2:=F1.trans fR3 (fun k hk e=>by have h9:=(hrr k e).1;omega)
   have G2:=F2.cell n4 zq
   refine hK.out _ _ G2 (fun hZ=> ?_)
   clear hZ hK K'
   try simp only [Ac,List.set]
   refine Bl 5 (by kernel_rfl) rfl (fun K' hK=> ?_)
   go_simp
   have hnb2:=Blk.new v2 112 #[.slice rA2 (N+1) rC2]
   have oR4:=oR3.alloc (.cells #[.slice rA2 (N+1) rC2] 112)
   have F3:Fr Non wr (v2.alloc (.cells #[.slice rA2 (N+1) rC2] 112)):=F2.alloc _
   obtain ⟨gb,hgb⟩:=Aa v2.heap.size
   rw [hgb.out] at hnb2 ⊢
   generalize v2.alloc (.cells #[.slice rA2 (N+1) rC2] 112)=v3 at*
   have G3:=F3.cell n4 zq
   refine hK.out _ _ G3 (fun hZ=> ?_)
   clear hZ hK K'
   try simp only [Ac,List.set]
   refine Bl 6 (by kernel_rfl) rfl (fun K' hK=> ?_)
   have oN4:=oN.fr F3 zr
   refine Dp (base:=w.heap.size+3) (.tmp 71) (.tmp 75) 30 rfl rfl rfl slBb oN4 (Rd.blk (n:=1) (size:=1) hnb2 rfl) (by simp [Value.oneCell']) (by omega) (by omega) (Al5 szr F3.size) ?_
   intro nA2 nC2 v5 oN5 fN5 hat5
   have K5:=(K.non F3).over fN5 (fun k e=>(hrow k e).1) (fun e=>oN4.ne (K.non F3).bn (by decide) e)
   have R5:=(R.non F3).grow oN4 fN5
   have oR5:=Own.grow2 oR4 oN4 (by decide) fN5
   have hown5:Hid (∀y∈ns,y.own v5 base):=fun y hy=>InL.own.grow (RowAt.non (hown.out y hy) F3:y.own _ base) oN4 fN5
   have G4:v5.cell? ⟨nb,4,none⟩=some (.slice nA j nC):=K5.bn.cell 4
   have z45:=K5.bn.frozen 4
   refine hK.out _ _ G4 (fun hZ=> ?_)
   clear hZ hK K'
   try simp only [Ac,List.set]
   refine tkG 7 G4 (h:=?_)
   simp only [List.set]
   refine Cv (by kernel_rfl) ?_
   refine oG 8 (fun K' hK=> ?_)
   go_simp
   have K6:=K5.set 4 (.slice nA2 (j+1) nC2)
   have R6:=R5.setFar (i:=4) K5.bn (.slice nA2 (j+1) nC2)
   have oN6:=Own.setFar (i:=4) oN5 K5.bn (by decide) (.slice nA2 (j+1) nC2)
   have oR6:=Own.setFar (i:=4) oR5 K5.bn (by decide) (.slice nA2 (j+1) nC2)
   rw [Rx] at oR6
   have hnew:=Rw (base:=base) oR6 (by omega) hyl2.out
   have hcell:(InL.mk rA2 rC2 (y.bs++[false])).cell=.slice rA2 (N+1) rC2:=Me hyl2.out
   have hown6:Hid (∀z∈ns++[(⟨rA2,rC2,y.bs++[false]⟩:InL)],z.own (v5.setCell ⟨nb,4,none⟩ (.slice nA2 (j+1) nC2)) base):=by
    intro z hz
    rcases List.mem_append.1 hz with h1|h1
    · exact (hown5.out z h1).setFar K5.bn _
    ·
     rw [Al4] at h1
     rw [h1]
     exact hnew
   have hbs6:Hid ((ns++[(⟨rA2,rC2,y.bs++[false]⟩:InL)]).map InL.bs=(IR.take (j+1)).map (· ++[false])):=by
    show _=_
    rw [Al9,hbs.out,hbs2.out]
    rfl
   have sz6:w8.heap.size≤(v5.setCell ⟨nb,4,none⟩ (.slice nA2 (j+1) nC2)).heap.size:=by
    have h1:=F3.size
    have h2:=fN5.size
    simp [World.setCell]
    omega
   have hfar6:Hid (∀z∈ns++[(⟨rA2,rC2,y.bs++[false]⟩:InL)],∀k,Ab z.A=some k→w8.heap.size≤k):=by
    intro z hz k hk
    rcases List.mem_append.1 hz with h1|h1
    · exact hfar.out z h1 k hk
    ·
     rw [Al4] at h1
     rw [h1] at hk
     have:=(oR3.row k hk).1
     omega
   refine hK.out _ _ trivial (fun hZ=> ?_)
   clear hZ hK K'
   try simp only [Ac,List.set]
   refine oD ?_
   go_simp
   go_wp2_with (fail)
   go_roundw
   case rel=>exact ⟨j+1,nA2,nC2,ns++[⟨rA2,rC2,y.bs++[false]⟩],by go_num,by omega,K6,R6,by rw [Al9,List.map_cons,List.map_nil,hcell];exact oN6,hown6,hbs6,sz6,hfar6⟩
   case measure=>simp [intOf];omega
  ·
   obtain rfl:j=N:=by omega
   have hbs7:ns.map InL.bs=IR.map (· ++[false]):=by
    have h1:=hbs.out
    rwa [Am7 (by rw [hns0.out];exact Al3 _)] at h1
   have hBX:Hid (Cs j PS=(Br j PS).map Value.bool):=rfl
   have hBl:(Br j PS).length=j:=Fw _ _
   have n4:wr.cell? ⟨nb,4,none⟩=some (.slice nA j nC):=K.bn.cell 4
   have hone2:(Tryz.prog.info? 32).map (·.size)=some 5:=Dg
   clear hns1 hnAt hbs hns0 hino
   go_upto_region 16 with (fail)
   have F0:Fr Non wr wr:=Fr.refl _ _
   have G0:=n4
   refine C4 (S:=fun w'=>w'.cell? ⟨nb,4,none⟩=some (.slice nA j nC)) 8 (by kernel_rfl) ?_
   refine tkG 0 G0 (h:=tkG 1 G0 (h:=tkG 2 G0 (h:=?_)))
   simp only [List.set]
   refine Bl 3 (by kernel_rfl) rfl (fun K' hK=> ?_)
   go_simp
   have hnb1:=(Blk.new wr 4 #[.bool false]).drew
   have F1:Fr Non wr (wr.alloc (.cells #[.bool false] 4)).drew:=(F0.alloc (.cells #[.bool false] 4)).drew
   obtain ⟨ga,hga⟩:=Aa wr.heap.size
   rw [hga.out] at hnb1 ⊢
   generalize (wr.alloc (.cells #[.bool false] 4)).drew=v1 at*
   have G1:=F1.cell n4 zq
   refine hK.out _ _ G1 (fun hZ=> ?_)
   clear hZ hK K'
   try simp only [Ac,List.set]
   refine Bl 4 (by kernel_rfl) rfl (fun K' hK=> ?_)
   have oB1:=R.oB.fr F1 zr
   refine Dp (base:=w.heap.size+3) (.tmp 80) (.tmp 81) 112 rfl rfl rfl I6 oB1 (Rd.blk (n:=1) (size:=1) hnb1 rfl) (by simp [Value.oneCell']) (by omega) (by omega) (Al5 szr F1.size) ?_
   intro rA2 rC2 v2 oR3 fR3 hat3
   have K2:=(K.non F1).over fR3 (fun k e=>(R.oB.row k e).1) (fun e=>oB1.ne (K.non F1).bn (by decide) e)
   have oL2:=Own.grow2 (R.oL.fr F1 zr) oB1 (by decide) fR3
   have oI2:=Own.grow2 (R.oI.fr F1 zr) oB1 (by decide) fR3
   have oU2:=Own.grow2 (R.oU.fr F1 zr) oB1 (by decide) fR3
   have oA2:=Own.grow2 (R.oA.fr F1 zr) oB1 (by decide) fR3
   have oN2:=Own.grow2 (oN.fr F1 zr) oB1 (by decide) fR3
   have hown2:Hid (∀y∈ns,y.own v2 base):=fun y hy=>RowAt.fr (RowAt.non (hown.out y hy) F1) fR3 (fun _ k hk e=>by have h1:=hfar.out y hy k hk;have h2:=hA2 k e;omega)
   rw [hBX.out] at oR3
   have G2:v2.cell? ⟨nb,4,none⟩=some (.slice nA j nC):=K2.bn.cell 4
   refine hK.out _ _ G2 (fun hZ=> ?_)
   clear hZ hK K'
   try simp only [Ac,List.set]
   refine Bl 5 (by kernel_rfl) rfl (fun K' hK=> ?_)
   go_simp
   have hnb2:=Blk.new v2 112 #[.slice rA2 (j+1) rC2]
   have F3:Fr Non v2 (v2.alloc (.cells #[.slice rA2 (j+1) rC2] 112)):=(Fr.refl _ _).alloc _
   obtain ⟨gb,hgb⟩:=Aa v2.heap.size
   rw [hgb.out] at hnb2 ⊢
   generalize v2.alloc (.cells #[.slice rA2 (j+1) rC2] 112)=v3 at*
   have K3:=K2.non F3
   have oN3:=oN2.fr F3 zr
   have G3:v3.cell? ⟨nb,4,none⟩=some (.slice nA j nC):=K3.bn.cell 4
   have sz3:w.heap.size+3≤v3.heap.size:=by have h1:=K3.bn.lt;have h2:=K3.nb;omega
   refine hK.out _ _ G3 (fun hZ=> ?_)
   clear hZ hK K'
   try simp only [Ac,List.set]
   refine Bl 6 (by kernel_rfl) rfl (fun K' hK=> ?_)
   refine Dp (base:=w.heap.size+3) (.tmp 79) (.tmp 83) 30 rfl rfl rfl slBb oN3 (Rd.blk (n:=1) (size:=1) hnb2 rfl) (by simp [Value.oneCell']) (by omega) (by omega) sz3 ?_
   intro nA2 nC2 v5 oN5 fN5 hat5
   have K5:=K3.over fN5 (fun k e=>(oN3.row k e).1) (fun e=>oN3.ne K3.bn (by decide) e)
   have oR5:=Own.grow2 (oR3.fr F3 zr) oN3 (by decide) fN5
   have oL5:=Own.grow2 (oL2.fr F3 zr) oN3 (by decide) fN5
   have oI5:=Own.grow2 (oI2.fr F3 zr) oN3 (by decide) fN5
   have oU5:=Own.grow2 (oU2.fr F3 zr) oN3 (by decide) fN5
   have oA5:=Own.grow2 (oA2.fr F3 zr) oN3 (by decide) fN5
   have hown5:Hid (∀y∈ns,y.own v5 base):=fun y hy=>InL.own.grow (RowAt.non (hown2.out y hy) F3:y.own _ base) oN3 fN5
   have G4:v5.cell? ⟨nb,4,none⟩=some (.slice nA j nC):=K5.bn.cell 4
   have z45:=K5.bn.frozen 4
   refine hK.out _ _ G4 (fun hZ=> ?_)
   clear hZ hK K'
   try simp only [Ac,List.set]
   refine tkG 7 G4 (h:=?_)
   simp only [List.set]
   refine Cv (by kernel_rfl) ?_
   refine oG 8 (fun K' hK=> ?_)
   go_simp
   have K6:=K5.set 4 (.slice nA2 (j+1) nC2)
   have oN6:=Own.setFar (i:=4) oN5 K5.bn (by decide) (.slice nA2 (j+1) nC2)
   have oR6:=Own.setFar (i:=4) oR5 K5.bn (by decide) (.slice nA2 (j+1) nC2)
   have oL6:=Own.setFar (i:=4) oL5 K5.bn (by decide) (.slice nA2 (j+1) nC2)
   have oI6:=Own.setFar (i:=4) oI5 K5.bn (by decide) (.slice nA2 (j+1) nC2)
   have oU6:=Own.setFar (i:=4) oU5 K5.bn (by decide) (.slice nA2 (j+1) nC2)
   have oA6:=Own.setFar (i:=4) oA5 K5.bn (by decide) (.slice nA2 (j+1) nC2)
   rw [Rx] at oR6
   have hyl2:(Br j PS++[false]).length=j+1:=by rw [Am0,hBl];rfl
   have hnew:=Rw (base:=base) oR6 (by omega) hyl2
   have hcell:(InL.mk rA2 rC2 (Br j PS++[false])).cell=.slice rA2 (j+1) rC2:=Me hyl2
   have hown6:∀z∈ns++[(⟨rA2,rC2,Br j PS++[false]⟩:InL)],z.own (v5.setCell ⟨nb,4,none⟩ (.slice nA2 (j+1) nC2)) base:=by
    intro z hz
    rcases List.mem_append.1 hz with h1|h1
    · exact (hown5.out z h1).setFar K5.bn _
    ·
     rw [Al4] at h1
     rw [h1]
     exact hnew
   have hbs6:(ns++[(⟨rA2,rC2,Br j PS++[false]⟩:InL)]).map InL.bs=IR.map (· ++[false])++[Br j PS++[false]]:=by
    rw [Al9,hbs7]
    rfl
   have oN7:Own (v5.setCell ⟨nb,4,none⟩ (.slice nA2 (j+1) nC2)) (w.heap.size+3) 112 1 nA2 (j+1) nC2 ((ns++[(⟨rA2,rC2,Br j PS++[false]⟩:InL)]).map InL.cell):=by
    rw [Al9,List.map_cons,List.map_nil,hcell]
    exact oN6
   refine hK.out _ _ trivial (fun hZ=> ?_)
   clear hZ hK K'
   try simp only [Ac,List.set]
   refine oD ?_
   go_simp
   generalize v5.setCell ⟨nb,4,none⟩ (.slice nA2 (j+1) nC2)=v6 at*
   change KA w v6 nb CS XS zG #[.slice CA nc CC,.slice lA (j+1) lC,.slice iA2 (j+1) iC2,.slice uA2 (j+1) uC2,.slice nA2 (j+1) nC2] at K6
   obtain ⟨RR,hRR⟩:∃RR:Array Value,RR=#[.slice CA nc CC,.slice lA (j+1) lC,.slice iA2 (j+1) iC2,.slice uA2 (j+1) uC2,.slice nA2 (j+1) nC2]:=⟨_,rfl⟩
   have hRs:(Tryz.prog.info? 32).map (·.size)=some RR.size:=by rw [hRR];exact hone2
   have hR1:RR.all (·.oneCell')=true:=by rw [hRR];simp [Value.oneCell']
   have hRz:(zG:Array Value).size=RR.size:=by rw [hRR];rfl
   have hpost:Hid (∀wz,Fr (One (w.heap.size+2)) v6 wz→POST (.returned (.tuple #[.agg RR,.int .i64 0])) wz):=by
    intro wz hz
    have far:∀(e:TypeId) (sz n c:Nat) (A:Option Addr) (xs:List Value),Own v6 (w.heap.size+3) e sz A n c xs→Own wz (w.heap.size+3) e sz A n c xs:=fun e sz n c A xs ho=>ho.fr hz (fun k hk e'=>by have h1:=(ho.row k hk).1;have e2:k=w.heap.size+2:=e';omega)
    rw [hRR]
    refine hmore.out lA iA2 uA2 nA2 lC iC2 uC2 nC2 _ wz (K6.fr.trans hz (fun k hk e'=>absurd hk (by have e2:k=w.heap.size+2:=e';omega))) (far _ _ _ _ _ _ oL6) (far _ _ _ _ _ _ oI6) (far _ _ _ _ _ _ oU6) (far _ _ _ _ _ _ oA6) (far _ _ _ _ _ _ oN7) ?_ hbs6
    intro y hy
    refine RowAt.keepT (hown6 y hy) hz (fun k cs fr hk e'=> ?_)
    have e2:k=w.heap.size+2:=e'
    subst e2
    have hb':v6.heap[w.heap.size+2]? =some (.cells zG 32 (0,0)):=K6.br
    rw [hb'] at hk
    injection hk with hk
    injection hk with _ ht
    exact absurd ht (by decide)
   rw [← hRR] at K6
   have hlr:=Bd (P:=Tryz.prog) nb 32 Tryz.underlying32 rfl (cs:=RR) hRs
   have hst:=Ck (P:=Tryz.prog) (w.heap.size+2) 32 hRs (old:=zG) hRz hR1
   have bz:=K6.bn
   have bq:=K6.br
   clear hmore hRR
   go_wp2_with (fail)
   have hz2:=bq.setRow (cs:=RR)
   have hdd:=Lib.hid (hpost.out _ ((Fr.refl (One (w.heap.size+2)) v6).setRow (g:=w.heap.size+2) (fun _=>rfl) RR))
   (try simp only [Exit.inBlock,Exit.then])
   refine Fp (t:=32) rfl rfl hz2 rfl Tryz.underlying32 hRs rfl ?_
   exact hdd.out
end Oq
namespace Oq
attribute [local go_sem] Bool.not_false Bool.not_true
attribute [local go_sem ↓] Ci Ef
def Mg (b:Int) (w:World) (e:Ending) (w':World):Prop:=
 ∃y:OpL,e=.returned (.agg y.cells)∧y.by_=b∧y.op.ok∧y.own w' w.heap.size∧Fr Non w w'
def smL (b k d ol ro:Int) (pA:Option Addr) (ps:List NdL) (ep of:Id) (bA:Option Addr) (bs:List UInt8):OpL:=
 {OpL.zero with by_:=b,kind:=k,dev:=d,old:=ol,role:=ro,pathA:=pA,pathC:=ps.length,path:=ps,epoch:=ep,of:=of,bodyA:=bA,bodyC:=bs.length,body:=bs}
theorem Gg (p:Nat) (h:p<18446744073709551616):(NdL.mk p none 0 []).nd.ok:=⟨h,Al7 _,fun _ h=>absurd h Al1⟩
theorem z64:I64 0:=⟨by decide,by decide⟩
theorem E7:U64 0:=by decide
theorem E8 {b k d ol ro:Int} {pA bA:Option Addr} {ps:List NdL} {ep of:Id} {bs:List UInt8} (hb:I64 b) (hk:I64 k) (hd:I64 d) (ho:I64 ol) (hr:I64 ro) (hp:ps.length≤1∧∀x∈ps,x.nd.ok) (he:ep.ok) (hf:of.ok) (hbs:bs.length≤1):(smL b k d ol ro pA ps ep of bA bs).op.ok:=by
 refine ⟨hb,z64,hk,z64,⟨Al7 _,fun _ h=>absurd h Al1⟩,hd,ho,z64,hr,⟨?_,?_⟩,he,z64,?_,⟨Al7 _,fun _ h=>absurd h Al1⟩,hf,
  ⟨Al7 _,fun _ h=>absurd h Al1⟩,z64,z64,⟨Al7 _,fun _ h=>absurd h Al1⟩,E7,⟨Al7 _,fun _ h=>absurd h Al1⟩,E7,E7⟩
 ·
  show (ps.map NdL.nd).length≤1000
  rw [Am2]
  omega
 ·
  intro x hx
  obtain ⟨y,hy,rfl⟩:=List.mem_map.1 (show x∈ps.map NdL.nd from hx)
  exact hp.2 y hy
 ·
  show bs.length≤1000000
  omega
theorem Ag0 {b k d ol ro:Int} {pA bA:Option Addr} {ps:List NdL} {ep of:Id} {bs:List UInt8} {w:World} {base:Nat} (hp:Own w base 103 2 pA ps.length ps.length (ps.flatMap NdL.cells)) (hps:∀y∈ps,y.xs=[]∧y.A=none∧y.c=0) (hb:RowAt w base 5 1 bA bs.length bs.length (bs.map Bv)):(smL b k d ol ro pA ps ep of bA bs).own w base:=
 ⟨RowAt.nil _ _ _ _,RowAt.of_own hp,(fun y hy=>by obtain ⟨h1,h2,h3⟩:=hps y hy;rw [h1,h2,h3];exact RowAt.nil _ _ _ _),hb,RowAt.nil _ _ _ _,RowAt.nil _ _ _ _,RowAt.nil _ _ _ _,RowAt.nil _ _ _ _,(fun _ h=>absurd h Al1)⟩
theorem Own.blk {w:World} {base g:Nat} {t:TypeId} {size n:Nat} {cs:Array Value} (h:Blk w g t cs) (hb:base≤g) (hn:0<n) (hs:cs.size=n*size) (h1:n<9223372036854775807):Own w base t size (some ⟨g,0,none⟩) n n cs.toList:=by
 refine ⟨by rw [Am3,hs],.inr ⟨g,n,cs,rfl,hb,h,Al3 _,by unfold maxLen;omega,hs,?_⟩⟩
 rw [Am7 (by rw [Am3,hs];exact Al3 _)]
theorem RowAt.blkF {w:World} {base g:Nat} {t:TypeId} {size n:Nat} {cs:Array Value} {fz:Nat × Nat} (h:w.heap[g]? =some (.cells cs t fz)) (hb:base≤g) (hs:cs.size=n*size) (h1:n<9223372036854775807) (hz:∀j,j<n*size→w.frozen? ⟨g,j,none⟩=false):RowAt w base t size (some ⟨g,0,none⟩) n n cs.toList:=by
 have hl:=(Array.getElem?_eq_some_iff.1 h).1
 refine ⟨⟨⟨by rw [Am3,hs],.inr ⟨g,0,rfl,hl,fun j u hu=> ?_⟩⟩,⟨Al3 _,by omega⟩⟩,.inr ⟨g,cs,fz,rfl,hb,h,hz⟩⟩
 rw [Al6,cell_of_row w g j cs t fz h]
 simpa using hu
structure Ar (w v:World) (nm:Array Value) (y:OpL):Prop where
 b:Blk v w.heap.size 44 y.cells
 r:Blk v (w.heap.size+1) 44 OpL.zero.cells
 n:Blk v (w.heap.size+1+1) 38 nm
 f:Fr Non w v
 sz:w.heap.size+3≤v.heap.size
 own:y.own v (w.heap.size+2)
theorem Ar.gen {G:World→Prop} {w v:World} {nm:Array Value} {y:OpL} (s:Ar w v nm y) (k:∀v',Ar w v' nm y→G v'):G v:=k v s
theorem Ar.q {w v:World} {nm:Array Value} {y:OpL} (s:Ar w v nm y) (j:Nat) {x:Value} (h:y.cells[j]? =some x):v.cell? ⟨w.heap.size,j,none⟩=some x∧v.frozen? ⟨w.heap.size,j,none⟩=false:=⟨(s.b.cell j).trans h,s.b.frozen j⟩
theorem Ar.o {w v:World} {a0 a1 a2:Value} {y:OpL} (s:Ar w v #[a0,a1,a2] y):v.cell? ⟨w.heap.size+1+1,0,none⟩=some a0∧v.cell? ⟨w.heap.size+1+1,1,none⟩=some a1∧v.cell? ⟨w.heap.size+1+1,2,none⟩=some a2:=⟨s.n.cell 0,s.n.cell 1,s.n.cell 2⟩
theorem Ag1 {b k d ol ro b' k' d' ol' ro':Int} {pA bA:Option Addr} {ps:List NdL} {ep of ep' of':Id} {bs:List UInt8} {v:World} {B:Nat} (h:(smL b k d ol ro pA ps ep of bA bs).own v B):(smL b' k' d' ol' ro' pA ps ep' of' bA bs).own v B:=
 ⟨h.past,h.path,h.nodes,h.body,h.refs,h.guards,h.boxes,h.hist,h.seals⟩
theorem I9 {v:World} {g:Nat} {t:TypeId} {cs:Array Value} (hb:Blk v g t cs) {y:OpL} {B j:Nat} {x:Value} (h:y.own v B) (ht:t=44):y.own (v.setCell ⟨g,j,none⟩ x) B:=by
 subst ht
 exact h.keepP ((Fr.refl (One g) v).setOne j x) (Types.one hb) (by decide) (by decide) (by decide) (by decide) (by decide) (by decide) (by decide)
theorem Ar.base {w v:World} {nm:Array Value} {y y':OpL} (s:Ar w v nm y) (j:Nat) (x:Value) (h:y.cells.setIfInBounds j x=y'.cells) (ho:y'.own (v.setCell ⟨w.heap.size,j,none⟩ x) (w.heap.size+2)):Ar w (v.setCell ⟨w.heap.size,j,none⟩ x) nm y' where
 b:=h▸s.b.set j x
 r:=s.r.far (p:=⟨w.heap.size,j,none⟩) (by show w.heap.size+1≠w.heap.size;omega) x
 n:=s.n.far (p:=⟨w.heap.size,j,none⟩) (by show w.heap.size+1+1≠w.heap.size;omega) x
 f:=s.f.setNew (g:=w.heap.size) (Al3 _) j x
 sz:=by have:=s.sz;first|exact this|(simp [World.setCell];omega)
 own:=ho
theorem Ar.set {w v:World} {nm:Array Value} {b k d ol ro b' k' d' ol' ro':Int} {pA bA:Option Addr} {ps:List NdL} {ep of ep' of':Id} {bs:List UInt8} (s:Ar w v nm (smL b k d ol ro pA ps ep of bA bs)) (j:Nat) (x:Value)
  (h:(smL b k d ol ro pA ps ep of bA bs).cells.setIfInBounds j x=(smL b' k' d' ol' ro' pA ps ep' of' bA bs).cells:=by first|rfl|(simp [smL,OpL.cells,OpL.zero])):Ar w (v.setCell ⟨w.heap.size,j,none⟩ x) nm (smL b' k' d' ol' ro' pA ps ep' of' bA bs):=
 s.base j x h (Ag1 (I9 s.b s.own rfl))
theorem Ar.alloc {w v:World} {nm:Array Value} {y:OpL} (s:Ar w v nm y) (o:Obj):Ar w (v.alloc o) nm y:=
 ⟨s.b.alloc _,s.r.alloc _,s.n.alloc _,s.f.alloc _,by rw [Al2];have:=s.sz;omega,s.own.non ((Fr.refl Non v).alloc o)⟩
theorem Ar.path {w v:World} {nm:Array Value} {b k d ol ro:Int} {bA:Option Addr} {ep of:Id} {bs:List UInt8} (s:Ar w v nm (smL b k d ol ro none [] ep of bA bs)) (p:Nat) (P:Int) (hP:P=(p:Int)):
  Ar w ((v.alloc (.cells #[.int .u64 P,.slice none 0 0] 103)).setCell ⟨w.heap.size,9,none⟩ (.slice (some ⟨v.heap.size,0,none⟩) 1 1)) nm (smL b k d ol ro (some ⟨v.heap.size,0,none⟩) [⟨p,none,0,[]⟩] ep of bA bs):=by
 subst hP
 have hs:=s.sz
 have s1:=s.alloc (.cells #[.int .u64 (p:Int),.slice none 0 0] 103)
 refine s1.base 9 _ rfl (I9 s1.b ?_ rfl)
 have h5:=Own.blk (base:=w.heap.size+2) (n:=1) (size:=2) (Blk.new v 103 #[.int .u64 (p:Int),.slice none 0 0]) (by omega) (by omega) rfl (by omega)
 have h:=s1.own
 exact ⟨h.past,RowAt.of_own h5,(fun y hy=>by rw [List.mem_singleton.1 (show y∈[(⟨p,none,0,[]⟩:NdL)] from hy)];exact RowAt.nil _ _ _ _),h.body,h.refs,h.guards,h.boxes,h.hist,h.seals⟩
theorem Ar.body {w v:World} {nm:Array Value} {b k d ol ro:Int} {ep of:Id} (s:Ar w v nm (smL b k d ol ro none [] ep of none [])) (x:UInt8) (X:Int) (hX:X=(x.toNat:Int)):
  Ar w ((v.alloc (.cells #[.int .u8 X] 5)).setCell ⟨w.heap.size,14,none⟩ (.slice (some ⟨v.heap.size,0,none⟩) 1 1)) nm (smL b k d ol ro none [] ep of (some ⟨v.heap.size,0,none⟩) [x]):=by
 subst hX
 have hs:=s.sz
 have s1:=s.alloc (.cells #[.int .u8 (x.toNat:Int)] 5)
 refine s1.base 14 _ rfl (I9 s1.b ?_ rfl)
 have h5:=Own.blk (base:=w.heap.size+2) (n:=1) (size:=1) (Blk.new v 5 #[.int .u8 (x.toNat:Int)]) (by omega) (by omega) rfl (by omega)
 have h:=s1.own
 exact ⟨h.past,h.path,h.nodes,RowAt.of_own h5,h.refs,h.guards,h.boxes,h.hist,h.seals⟩
theorem Ar.bodyF {w v:World} {nm:Array Value} {b k d ol ro:Int} {ep of:Id} (s:Ar w v nm (smL b k d ol ro none [] ep of none [])) (x:UInt8) (X:Int) (hX:X=(x.toNat:Int)):
  Ar w ((v.alloc (.cells #[.int .u8 X] 5 (1,2))).setCell ⟨w.heap.size,14,none⟩ (.slice (some ⟨v.heap.size,0,none⟩) 1 1)) nm (smL b k d ol ro none [] ep of (some ⟨v.heap.size,0,none⟩) [x]):=by
 subst hX
 have hs:=s.sz
 have s1:=s.alloc (.cells #[.int .u8 (x.toNat:Int)] 5 (1,2))
 have aF:=heap_alloc_new v (.cells #[.int .u8 (x.toNat:Int)] 5 (1,2))
 have hgz:=hs
 generalize v.alloc (.cells #[.int .u8 (x.toNat:Int)] 5 (1,2))=v1 at*
 generalize v.heap.size=g at*
 have h5:RowAt v1 (w.heap.size+2) 5 1 (some ⟨g,0,none⟩) 1 1 [.int .u8 (x.toNat:Int)]:=RowAt.blkF (cs:=#[.int .u8 (x.toNat:Int)]) aF (by omega) rfl (by omega) (fun j hj=>by simp [World.frozen?,aF];omega)
 have h:=s1.own
 refine s1.base 14 _ rfl (I9 s1.b ?_ rfl)
 exact ⟨h.past,h.path,h.nodes,h5,h.refs,h.guards,h.boxes,h.hist,h.seals⟩
theorem Ag2 (b:Int) (n:Nat) (w:World) (hb:I64 b) (hn:n≤1000000):
  Calls Tryz.prog 86 #[.agg #[.int .i64 b,.int .i64 0,.int .i64 0,.int .i64 0,.slice none 0 0,.int .i64 0,.int .i64 0,.int .i64 0,.int .i64 0,.slice none 0 0,.int .i64 0,.int .i64 0,.int .u64 0,.int .i64 0,.slice none 0 0,.slice none 0 0,.int .i64 0,.int .i64 0,.int .u64 0,.slice none 0 0,.int .i64 0,.int .i64 0,.slice none 0 0,.int .u64 0,.slice none 0 0,.int .u64 0,.int .u64 0],.int .i64 (n:Int)] w (Mg b w):=by
 have hi:(Tryz.prog.info? 44).map (·.size)=some 27:=by kernel_rfl
 have s0:Ar w (((w.alloc (.cells #[.int .i64 b,.int .i64 0,.int .i64 0,.int .i64 0,.slice none 0 0,.int .i64 0,.int .i64 0,.int .i64 0,.int .i64 0,.slice none 0 0,.int .i64 0,.int .i64 0,.int .u64 0,.int .i64 0,.slice none 0 0,.slice none 0 0,.int .i64 0,.int .i64 0,.int .u64 0,.slice none 0 0,.int .i64 0,.int .i64 0,.slice none 0 0,.int .u64 0,.slice none 0 0,.int .u64 0,.int .u64 0] 44)).alloc (.cells zO 44)).alloc (.cells #[.int .i64 (1+(n:Int)%3),.int .i64 1,.int .u64 ((n:Int)/3%3)] 38)) #[.int .i64 (1+(n:Int)%3),.int .i64 1,.int .u64 ((n:Int)/3%3)] (smL b 0 0 0 0 none [] ⟨0,0,0⟩ ⟨0,0,0⟩ none []):=by
  refine ⟨((Blk.new w 44 #[.int .i64 b,.int .i64 0,.int .i64 0,.int .i64 0,.slice none 0 0,.int .i64 0,.int .i64 0,.int .i64 0,.int .i64 0,.slice none 0 0,.int .i64 0,.int .i64 0,.int .u64 0,.int .i64 0,.slice none 0 0,.slice none 0 0,.int .i64 0,.int .i64 0,.int .u64 0,.slice none 0 0,.int .i64 0,.int .i64 0,.slice none 0 0,.int .u64 0,.slice none 0 0,.int .u64 0,.int .u64 0]).alloc (.cells zO 44)).alloc (.cells #[.int .i64 (1+(n:Int)%3),.int .i64 1,.int .u64 ((n:Int)/3%3)] 38),?_,?_,(((Fr.refl Non w).alloc _).alloc _).alloc _,?_,Ag0 (Own.nil _ _ _ _) (fun y hy=>absurd hy Al1) (RowAt.nil _ _ _ _)⟩
  ·
   have r0:=(Blk.new (w.alloc (.cells #[.int .i64 b,.int .i64 0,.int .i64 0,.int .i64 0,.slice none 0 0,.int .i64 0,.int .i64 0,.int .i64 0,.int .i64 0,.slice none 0 0,.int .i64 0,.int .i64 0,.int .u64 0,.int .i64 0,.slice none 0 0,.slice none 0 0,.int .i64 0,.int .i64 0,.int .u64 0,.slice none 0 0,.int .i64 0,.int .i64 0,.slice none 0 0,.int .u64 0,.slice none 0 0,.int .u64 0,.int .u64 0] 44)) 44 zO).alloc (.cells #[.int .i64 (1+(n:Int)%3),.int .i64 1,.int .u64 ((n:Int)/3%3)] 38)
   rw [Al2] at r0
   exact r0
  ·
   have n0:=Blk.new ((w.alloc (.cells #[.int .i64 b,.int .i64 0,.int .i64 0,.int .i64 0,.slice none 0 0,.int .i64 0,.int .i64 0,.int .i64 0,.int .i64 0,.slice none 0 0,.int .i64 0,.int .i64 0,.int .u64 0,.int .i64 0,.slice none 0 0,.slice none 0 0,.int .i64 0,.int .i64 0,.int .u64 0,.slice none 0 0,.int .i64 0,.int .i64 0,.slice none 0 0,.int .u64 0,.slice none 0 0,.int .u64 0,.int .u64 0] 44)).alloc (.cells zO 44)) 38 #[.int .i64 (1+(n:Int)%3),.int .i64 1,.int .u64 ((n:Int)/3%3)]
   rw [Al2,Al2] at n0
   exact n0
  ·
   rw [Al2,Al2,Al2]
   exact Al3 _
 have kc:=Lib.hid (fun k w'=>Hq k w')
 have hm:n%8=0∨n%8=1∨n%8=2∨n%8=3∨n%8=4∨n%8=5∨n%8=6∨n%8=7:=by omega
 have hret:Hid (∀(y:OpL) (w1 wz:World),y.by_=b→y.op.ok→y.own w1 (w.heap.size+2)→Fr Non w w1→Fr (One (w.heap.size+1)) w1 wz→Mg b w (.returned (.agg y.cells)) wz):=by
  intro y w1 wz h1 h2 h3 h4 h5
  refine ⟨y,rfl,h1,h2,?_,h4.trans h5 (fun k hk e=>absurd hk (by have e2:k=w.heap.size+1:=e;omega))⟩
  have far:∀(t:TypeId) (sz m c:Nat) (A:Option Addr) (xs:List Value),RowAt w1 (w.heap.size+2) t sz A m c xs→RowAt wz w.heap.size t sz A m c xs:=fun t sz m c A xs ho=>(ho.fr h5 (fun h0 k hk e=>by
   have e2:k=w.heap.size+1:=e
   rcases ho.2 with h6|⟨k',_,_,e3,h6,_⟩
   · exact h0 h6
   ·
    rw [e3] at hk
    injection hk with hk
    have hk':k'=k:=hk
    omega)).lower (by omega)
  exact ⟨far _ _ _ _ _ _ h3.past,far _ _ _ _ _ _ h3.path,(fun z hz=>far _ _ _ _ _ _ (h3.nodes z hz)),far _ _ _ _ _ _ h3.body,far _ _ _ _ _ _ h3.refs,far _ _ _ _ _ _ h3.guards,far _ _ _ _ _ _ h3.boxes,far _ _ _ _ _ _ h3.hist,(fun z hz=>far _ _ _ _ _ _ (h3.seals z hz))⟩
 generalize Mg b w=POST at*
 go_enter Tryz.func86,Tryz.ntmps86
 go_upto_region 2 with (fail)
 generalize ((w.alloc (.cells #[.int .i64 b,.int .i64 0,.int .i64 0,.int .i64 0,.slice none 0 0,.int .i64 0,.int .i64 0,.int .i64 0,.int .i64 0,.slice none 0 0,.int .i64 0,.int .i64 0,.int .u64 0,.int .i64 0,.slice none 0 0,.slice none 0 0,.int .i64 0,.int .i64 0,.int .u64 0,.slice none 0 0,.int .i64 0,.int .i64 0,.slice none 0 0,.int .u64 0,.slice none 0 0,.int .u64 0,.int .u64 0] 44)).alloc (.cells zO 44)).alloc (.cells #[.int .i64 (1+(n:Int)%3),.int .i64 1,.int .u64 ((n:Int)/3%3)] 38)=w0 at*
 rcases hm with hm|hm|hm|hm|hm|hm|hm|hm
 focus
  have n8:(n:Int)%8=0:=by omega
  obtain ⟨q2,z2⟩:=(s0.alloc (.cells zK 3)).q 2 (x:=.int .i64 0) rfl
  go_upto_region 3 with (fail)
  refine Ar.gen (G:=fun v'=>Code.wp _ _ _ _ v') ((s0.alloc (.cells zK 3)).set (k':=8) (b':=b) (d':=0) (ol':=0) (ro':=0) (ep':=⟨0,0,0⟩) (of':=⟨0,0,0⟩) 2 (.int .i64 8)) ?_
  clear q2 z2 s0
  intro w1 s1
  obtain ⟨q16,z16⟩:=s1.q 16 (x:=.int .i64 0) rfl
  obtain ⟨q17,z17⟩:=s1.q 17 (x:=.int .i64 0) rfl
  obtain ⟨q18,z18⟩:=s1.q 18 (x:=.int .u64 0) rfl
  have c2:=(s1.q 2 (x:=.int .i64 8) rfl).1
  obtain ⟨e0,e1,e2⟩:=s1.o
  go_upto_region 21 with (fail)
  refine Ar.gen (G:=fun v'=>Code.wp _ _ _ _ v') (((s1.set (b':=b) (k':=8) (d':=0) (ol':=0) (ro':=0) (ep':=⟨0,0,0⟩) (of':=⟨1+(n:Int)%3,0,0⟩) 16 (.int .i64 (1+(n:Int)%3))).set (b':=b) (k':=8) (d':=0) (ol':=0) (ro':=0) (ep':=⟨0,0,0⟩) (of':=⟨1+(n:Int)%3,1,0⟩) 17 (.int .i64 1)).set (b':=b) (k':=8) (d':=0) (ol':=0) (ro':=0) (ep':=⟨0,0,0⟩) (of':=⟨1+(n:Int)%3,1,n/3%3⟩) 18 (.int .u64 ((n:Int)/3%3))) ?_
  clear c2 e0 e1 e2 s1 q16 z16 q17 z17 q18 z18
  intro w2 s2
  have c2:=(s2.q 2 (x:=.int .i64 8) rfl).1
  obtain ⟨e0,e1,e2⟩:=s2.o
  go_upto_region 22 with (go_at_call 57;(with_reducible refine (kc.out 8 _).mono ?_);rintro _ v ⟨rfl,rfl⟩)
  refine Ar.gen (G:=fun v'=>Code.wp _ _ _ _ v') s2 ?_
  clear c2 e0 e1 e2 s2
  intro wz sz
  have hok:(smL b 8 (0) (0) (0) none [] ⟨0,0,0⟩ ⟨1+(n:Int)%3,1,n/3%3⟩ none []).op.ok:=E8 hb ⟨by decide,by decide⟩ ⟨by omega,by omega⟩ ⟨by omega,by omega⟩ ⟨by omega,by omega⟩ ⟨by simp,(fun x hx=>absurd hx Al1)⟩ (Cz _ _ _ ⟨by omega,by omega⟩ ⟨by omega,by omega⟩ (by show _<_;omega)) (Cz _ _ _ ⟨by omega,by omega⟩ ⟨by omega,by omega⟩ (by show _<_;omega)) (by simp)
  have hby:(smL b 8 (0) (0) (0) none [] ⟨0,0,0⟩ ⟨1+(n:Int)%3,1,n/3%3⟩ none []).by_=b:=rfl
  generalize smL b 8 (0) (0) (0) none [] ⟨0,0,0⟩ ⟨1+(n:Int)%3,1,n/3%3⟩ none []=y at*
 rotate_left
 focus
  have n8:(n:Int)%8=1:=by omega
  obtain ⟨q2,z2⟩:=(s0.alloc (.cells zK 3)).q 2 (x:=.int .i64 0) rfl
  go_upto_region 3 with (fail)
  refine Ar.gen (G:=fun v'=>Code.wp _ _ _ _ v') ((s0.alloc (.cells zK 3)).set (k':=2) (b':=b) (d':=0) (ol':=0) (ro':=0) (ep':=⟨0,0,0⟩) (of':=⟨0,0,0⟩) 2 (.int .i64 2)) ?_
  clear q2 z2 s0
  intro w1 s1
  obtain ⟨q5,z5⟩:=s1.q 5 (x:=.int .i64 0) rfl
  have c2:=(s1.q 2 (x:=.int .i64 2) rfl).1
  obtain ⟨e0,e1,e2⟩:=s1.o
  go_upto_region 6 with (fail)
  refine Ar.gen (G:=fun v'=>Code.wp _ _ _ _ v') (s1.set (b':=b) (k':=2) (d':=1+(n:Int)/8%5) (ol':=0) (ro':=0) (ep':=⟨0,0,0⟩) (of':=⟨0,0,0⟩) 5 (.int .i64 (1+(n:Int)/8%5))) ?_
  clear c2 e0 e1 e2 s1 q5 z5
  intro w2 s2
  obtain ⟨q8,z8⟩:=s2.q 8 (x:=.int .i64 0) rfl
  have c2:=(s2.q 2 (x:=.int .i64 2) rfl).1
  obtain ⟨e0,e1,e2⟩:=s2.o
  go_upto_region 21 with (fail)
  refine Ar.gen (G:=fun v'=>Code.wp _ _ _ _ v') (s2.set (b':=b) (k':=2) (d':=1+(n:Int)/8%5) (ol':=0) (ro':=1+(n:Int)/40%3) (ep':=⟨0,0,0⟩) (of':=⟨0,0,0⟩) 8 (.int .i64 (1+(n:Int)/40%3))) ?_
  clear c2 e0 e1 e2 s2 q8 z8
  intro w3 s3
  have c2:=(s3.q 2 (x:=.int .i64 2) rfl).1
  obtain ⟨e0,e1,e2⟩:=s3.o
  go_upto_region 22 with (go_at_call 57;(with_reducible refine (kc.out 2 _).mono ?_);rintro _ v ⟨rfl,rfl⟩)
  obtain ⟨q9,z9⟩:=(s3.alloc (.cells #[.int .u64 (1+(n:Int)/8%90),.slice none 0 0] 103)).q 9 (x:=.slice none 0 0) rfl
  go_upto_region 24 with (fail)
  refine Ar.gen (G:=fun v'=>Code.wp _ _ _ _ v') (s3.path (1+n/8%90) (1+(n:Int)/8%90) (by omega)) ?_
  generalize w3.heap.size=gp
  clear c2 e0 e1 e2 q9 z9 s3
  intro wz sz
  have hok:(smL b 2 (1+(n:Int)/8%5) (0) (1+(n:Int)/40%3) (some ⟨gp,0,none⟩) [⟨1+n/8%90,none,0,[]⟩] ⟨0,0,0⟩ ⟨0,0,0⟩ none []).op.ok:=E8 hb ⟨by decide,by decide⟩ ⟨by omega,by omega⟩ ⟨by omega,by omega⟩ ⟨by omega,by omega⟩ ⟨by simp,(fun x hx=>by rw [Al4] at hx;subst hx;exact Gg _ (by omega))⟩ (Cz _ _ _ ⟨by omega,by omega⟩ ⟨by omega,by omega⟩ (by show _<_;omega)) (Cz _ _ _ ⟨by omega,by omega⟩ ⟨by omega,by omega⟩ (by show _<_;omega)) (by simp)
  have hby:(smL b 2 (1+(n:Int)/8%5) (0) (1+(n:Int)/40%3) (some ⟨gp,0,none⟩) [⟨1+n/8%90,none,0,[]⟩] ⟨0,0,0⟩ ⟨0,0,0⟩ none []).by_=b:=rfl
  generalize smL b 2 (1+(n:Int)/8%5) (0) (1+(n:Int)/40%3) (some ⟨gp,0,none⟩) [⟨1+n/8%90,none,0,[]⟩] ⟨0,0,0⟩ ⟨0,0,0⟩ none []=y at*
 rotate_left
 focus
  have n8:(n:Int)%8=2:=by omega
  obtain ⟨q2,z2⟩:=(s0.alloc (.cells zK 3)).q 2 (x:=.int .i64 0) rfl
  go_upto_region 3 with (fail)
  refine Ar.gen (G:=fun v'=>Code.wp _ _ _ _ v') ((s0.alloc (.cells zK 3)).set (k':=3) (b':=b) (d':=0) (ol':=0) (ro':=0) (ep':=⟨0,0,0⟩) (of':=⟨0,0,0⟩) 2 (.int .i64 3)) ?_
  clear q2 z2 s0
  intro w1 s1
  obtain ⟨q5,z5⟩:=s1.q 5 (x:=.int .i64 0) rfl
  have c2:=(s1.q 2 (x:=.int .i64 3) rfl).1
  obtain ⟨e0,e1,e2⟩:=s1.o
  go_upto_region 21 with (fail)
  refine Ar.gen (G:=fun v'=>Code.wp _ _ _ _ v') (s1.set (b':=b) (k':=3) (d':=1+(n:Int)/8%5) (ol':=0) (ro':=0) (ep':=⟨0,0,0⟩) (of':=⟨0,0,0⟩) 5 (.int .i64 (1+(n:Int)/8%5))) ?_
  clear c2 e0 e1 e2 s1 q5 z5
  intro w2 s2
  have c2:=(s2.q 2 (x:=.int .i64 3) rfl).1
  obtain ⟨e0,e1,e2⟩:=s2.o
  go_upto_region 22 with (go_at_call 57;(with_reducible refine (kc.out 3 _).mono ?_);rintro _ v ⟨rfl,rfl⟩)
  obtain ⟨q9,z9⟩:=(s2.alloc (.cells #[.int .u64 (1+(n:Int)/8%90),.slice none 0 0] 103)).q 9 (x:=.slice none 0 0) rfl
  go_upto_region 24 with (fail)
  refine Ar.gen (G:=fun v'=>Code.wp _ _ _ _ v') (s2.path (1+n/8%90) (1+(n:Int)/8%90) (by omega)) ?_
  generalize w2.heap.size=gp
  clear c2 e0 e1 e2 q9 z9 s2
  intro wz sz
  have hok:(smL b 3 (1+(n:Int)/8%5) (0) (0) (some ⟨gp,0,none⟩) [⟨1+n/8%90,none,0,[]⟩] ⟨0,0,0⟩ ⟨0,0,0⟩ none []).op.ok:=E8 hb ⟨by decide,by decide⟩ ⟨by omega,by omega⟩ ⟨by omega,by omega⟩ ⟨by omega,by omega⟩ ⟨by simp,(fun x hx=>by rw [Al4] at hx;subst hx;exact Gg _ (by omega))⟩ (Cz _ _ _ ⟨by omega,by omega⟩ ⟨by omega,by omega⟩ (by show _<_;omega)) (Cz _ _ _ ⟨by omega,by omega⟩ ⟨by omega,by omega⟩ (by show _<_;omega)) (by simp)
  have hby:(smL b 3 (1+(n:Int)/8%5) (0) (0) (some ⟨gp,0,none⟩) [⟨1+n/8%90,none,0,[]⟩] ⟨0,0,0⟩ ⟨0,0,0⟩ none []).by_=b:=rfl
  generalize smL b 3 (1+(n:Int)/8%5) (0) (0) (some ⟨gp,0,none⟩) [⟨1+n/8%90,none,0,[]⟩] ⟨0,0,0⟩ ⟨0,0,0⟩ none []=y at*
 rotate_left
 focus
  have n8:(n:Int)%8=3:=by omega
  obtain ⟨q2,z2⟩:=(s0.alloc (.cells zK 3)).q 2 (x:=.int .i64 0) rfl
  go_upto_region 3 with (fail)
  refine Ar.gen (G:=fun v'=>Code.wp _ _ _ _ v') ((s0.alloc (.cells zK 3)).set (k':=4) (b':=b) (d':=0) (ol':=0) (ro':=0) (ep':=⟨0,0,0⟩) (of':=⟨0,0,0⟩) 2 (.int .i64 4)) ?_
  clear q2 z2 s0
  intro w1 s1
  have c2:=(s1.q 2 (x:=.int .i64 4) rfl).1
  obtain ⟨e0,e1,e2⟩:=s1.o
  go_upto_region 21 with (fail)
  refine Ar.gen (G:=fun v'=>Code.wp _ _ _ _ v') s1 ?_
  clear c2 e0 e1 e2 s1
  intro w2 s2
  have c2:=(s2.q 2 (x:=.int .i64 4) rfl).1
  obtain ⟨e0,e1,e2⟩:=s2.o
  go_upto_region 22 with (go_at_call 57;(with_reducible refine (kc.out 4 _).mono ?_);rintro _ v ⟨rfl,rfl⟩)
  obtain ⟨q9,z9⟩:=(s2.alloc (.cells #[.int .u64 (1+(n:Int)/8%90),.slice none 0 0] 103)).q 9 (x:=.slice none 0 0) rfl
  go_upto_region 24 with (fail)
  refine Ar.gen (G:=fun v'=>Code.wp _ _ _ _ v') (s2.path (1+n/8%90) (1+(n:Int)/8%90) (by omega)) ?_
  generalize w2.heap.size=gp
  clear c2 e0 e1 e2 q9 z9 s2
  intro wz sz
  have hok:(smL b 4 (0) (0) (0) (some ⟨gp,0,none⟩) [⟨1+n/8%90,none,0,[]⟩] ⟨0,0,0⟩ ⟨0,0,0⟩ none []).op.ok:=E8 hb ⟨by decide,by decide⟩ ⟨by omega,by omega⟩ ⟨by omega,by omega⟩ ⟨by omega,by omega⟩ ⟨by simp,(fun x hx=>by rw [Al4] at hx;subst hx;exact Gg _ (by omega))⟩ (Cz _ _ _ ⟨by omega,by omega⟩ ⟨by omega,by omega⟩ (by show _<_;omega)) (Cz _ _ _ ⟨by omega,by omega⟩ ⟨by omega,by omega⟩ (by show _<_;omega)) (by simp)
  have hby:(smL b 4 (0) (0) (0) (some ⟨gp,0,none⟩) [⟨1+n/8%90,none,0,[]⟩] ⟨0,0,0⟩ ⟨0,0,0⟩ none []).by_=b:=rfl
  generalize smL b 4 (0) (0) (0) (some ⟨gp,0,none⟩) [⟨1+n/8%90,none,0,[]⟩] ⟨0,0,0⟩ ⟨0,0,0⟩ none []=y at*
 rotate_left
 focus
  have n8:(n:Int)%8=4:=by omega
  obtain ⟨q2,z2⟩:=(s0.alloc (.cells zK 3)).q 2 (x:=.int .i64 0) rfl
  go_upto_region 3 with (fail)
  refine Ar.gen (G:=fun v'=>Code.wp _ _ _ _ v') ((s0.alloc (.cells zK 3)).set (k':=2) (b':=b) (d':=0) (ol':=0) (ro':=0) (ep':=⟨0,0,0⟩) (of':=⟨0,0,0⟩) 2 (.int .i64 2)) ?_
  clear q2 z2 s0
  intro w1 s1
  obtain ⟨q5,z5⟩:=s1.q 5 (x:=.int .i64 0) rfl
  have c2:=(s1.q 2 (x:=.int .i64 2) rfl).1
  obtain ⟨e0,e1,e2⟩:=s1.o
  go_upto_region 6 with (fail)
  refine Ar.gen (G:=fun v'=>Code.wp _ _ _ _ v') (s1.set (b':=b) (k':=2) (d':=1+(n:Int)/8%5) (ol':=0) (ro':=0) (ep':=⟨0,0,0⟩) (of':=⟨0,0,0⟩) 5 (.int .i64 (1+(n:Int)/8%5))) ?_
  clear c2 e0 e1 e2 s1 q5 z5
  intro w2 s2
  obtain ⟨q8,z8⟩:=s2.q 8 (x:=.int .i64 0) rfl
  have c2:=(s2.q 2 (x:=.int .i64 2) rfl).1
  obtain ⟨e0,e1,e2⟩:=s2.o
  go_upto_region 21 with (fail)
  refine Ar.gen (G:=fun v'=>Code.wp _ _ _ _ v') (s2.set (b':=b) (k':=2) (d':=1+(n:Int)/8%5) (ol':=0) (ro':=1+(n:Int)/40%3) (ep':=⟨0,0,0⟩) (of':=⟨0,0,0⟩) 8 (.int .i64 (1+(n:Int)/40%3))) ?_
  clear c2 e0 e1 e2 s2 q8 z8
  intro w3 s3
  have c2:=(s3.q 2 (x:=.int .i64 2) rfl).1
  obtain ⟨e0,e1,e2⟩:=s3.o
  go_upto_region 22 with (go_at_call 57;(with_reducible refine (kc.out 2 _).mono ?_);rintro _ v ⟨rfl,rfl⟩)
  obtain ⟨q9,z9⟩:=(s3.alloc (.cells #[.int .u64 (1+(n:Int)/8%90),.slice none 0 0] 103)).q 9 (x:=.slice none 0 0) rfl
  go_upto_region 24 with (fail)
  refine Ar.gen (G:=fun v'=>Code.wp _ _ _ _ v') (s3.path (1+n/8%90) (1+(n:Int)/8%90) (by omega)) ?_
  generalize w3.heap.size=gp
  clear c2 e0 e1 e2 q9 z9 s3
  intro wz sz
  have hok:(smL b 2 (1+(n:Int)/8%5) (0) (1+(n:Int)/40%3) (some ⟨gp,0,none⟩) [⟨1+n/8%90,none,0,[]⟩] ⟨0,0,0⟩ ⟨0,0,0⟩ none []).op.ok:=E8 hb ⟨by decide,by decide⟩ ⟨by omega,by omega⟩ ⟨by omega,by omega⟩ ⟨by omega,by omega⟩ ⟨by simp,(fun x hx=>by rw [Al4] at hx;subst hx;exact Gg _ (by omega))⟩ (Cz _ _ _ ⟨by omega,by omega⟩ ⟨by omega,by omega⟩ (by show _<_;omega)) (Cz _ _ _ ⟨by omega,by omega⟩ ⟨by omega,by omega⟩ (by show _<_;omega)) (by simp)
  have hby:(smL b 2 (1+(n:Int)/8%5) (0) (1+(n:Int)/40%3) (some ⟨gp,0,none⟩) [⟨1+n/8%90,none,0,[]⟩] ⟨0,0,0⟩ ⟨0,0,0⟩ none []).by_=b:=rfl
  generalize smL b 2 (1+(n:Int)/8%5) (0) (1+(n:Int)/40%3) (some ⟨gp,0,none⟩) [⟨1+n/8%90,none,0,[]⟩] ⟨0,0,0⟩ ⟨0,0,0⟩ none []=y at*
 rotate_left
 focus
  have n8:(n:Int)%8=5:=by omega
  obtain ⟨q2,z2⟩:=(s0.alloc (.cells zK 3)).q 2 (x:=.int .i64 0) rfl
  go_upto_region 3 with (fail)
  refine Ar.gen (G:=fun v'=>Code.wp _ _ _ _ v') ((s0.alloc (.cells zK 3)).set (k':=6) (b':=b) (d':=0) (ol':=0) (ro':=0) (ep':=⟨0,0,0⟩) (of':=⟨0,0,0⟩) 2 (.int .i64 6)) ?_
  clear q2 z2 s0
  intro w1 s1
  obtain ⟨q10,z10⟩:=s1.q 10 (x:=.int .i64 0) rfl
  obtain ⟨q11,z11⟩:=s1.q 11 (x:=.int .i64 0) rfl
  obtain ⟨q12,z12⟩:=s1.q 12 (x:=.int .u64 0) rfl
  have c2:=(s1.q 2 (x:=.int .i64 6) rfl).1
  obtain ⟨e0,e1,e2⟩:=s1.o
  go_upto_region 11 with (fail)
  refine Ar.gen (G:=fun v'=>Code.wp _ _ _ _ v') (((s1.set (b':=b) (k':=6) (d':=0) (ol':=0) (ro':=0) (ep':=⟨1+(n:Int)%3,0,0⟩) (of':=⟨0,0,0⟩) 10 (.int .i64 (1+(n:Int)%3))).set (b':=b) (k':=6) (d':=0) (ol':=0) (ro':=0) (ep':=⟨1+(n:Int)%3,1,0⟩) (of':=⟨0,0,0⟩) 11 (.int .i64 1)).set (b':=b) (k':=6) (d':=0) (ol':=0) (ro':=0) (ep':=⟨1+(n:Int)%3,1,n/3%3⟩) (of':=⟨0,0,0⟩) 12 (.int .u64 ((n:Int)/3%3))) ?_
  clear c2 e0 e1 e2 s1 q10 z10 q11 z11 q12 z12
  intro w2 s2
  obtain ⟨q14,z14⟩:=(s2.alloc (.cells #[.int .u8 ((n:Int)/8%256)] 5)).q 14 (x:=.slice none 0 0) rfl
  have c2:=(s2.q 2 (x:=.int .i64 6) rfl).1
  obtain ⟨e0,e1,e2⟩:=s2.o
  go_upto_region 21 with (fail)
  refine Ar.gen (G:=fun v'=>Code.wp _ _ _ _ v') (s2.body (UInt8.ofNat (n/8)) ((n:Int)/8%256) (by rw [UInt8.toNat_ofNat'];omega)) ?_
  generalize w2.heap.size=gb
  clear c2 e0 e1 e2 s2 q14 z14
  intro w3 s3
  have c2:=(s3.q 2 (x:=.int .i64 6) rfl).1
  obtain ⟨e0,e1,e2⟩:=s3.o
  go_upto_region 22 with (go_at_call 57;(with_reducible refine (kc.out 6 _).mono ?_);rintro _ v ⟨rfl,rfl⟩)
  refine Ar.gen (G:=fun v'=>Code.wp _ _ _ _ v') s3 ?_
  clear c2 e0 e1 e2 s3
  intro wz sz
  have hok:(smL b 6 (0) (0) (0) none [] ⟨1+(n:Int)%3,1,n/3%3⟩ ⟨0,0,0⟩ (some ⟨gb,0,none⟩) [UInt8.ofNat (n/8)]).op.ok:=E8 hb ⟨by decide,by decide⟩ ⟨by omega,by omega⟩ ⟨by omega,by omega⟩ ⟨by omega,by omega⟩ ⟨by simp,(fun x hx=>absurd hx Al1)⟩ (Cz _ _ _ ⟨by omega,by omega⟩ ⟨by omega,by omega⟩ (by show _<_;omega)) (Cz _ _ _ ⟨by omega,by omega⟩ ⟨by omega,by omega⟩ (by show _<_;omega)) (by simp)
  have hby:(smL b 6 (0) (0) (0) none [] ⟨1+(n:Int)%3,1,n/3%3⟩ ⟨0,0,0⟩ (some ⟨gb,0,none⟩) [UInt8.ofNat (n/8)]).by_=b:=rfl
  generalize smL b 6 (0) (0) (0) none [] ⟨1+(n:Int)%3,1,n/3%3⟩ ⟨0,0,0⟩ (some ⟨gb,0,none⟩) [UInt8.ofNat (n/8)]=y at*
 rotate_left
 focus
  have n8:(n:Int)%8=6:=by omega
  obtain ⟨q2,z2⟩:=(s0.alloc (.cells zK 3)).q 2 (x:=.int .i64 0) rfl
  go_upto_region 3 with (fail)
  refine Ar.gen (G:=fun v'=>Code.wp _ _ _ _ v') ((s0.alloc (.cells zK 3)).set (k':=7) (b':=b) (d':=0) (ol':=0) (ro':=0) (ep':=⟨0,0,0⟩) (of':=⟨0,0,0⟩) 2 (.int .i64 7)) ?_
  clear q2 z2 s0
  intro w1 s1
  obtain ⟨q16,z16⟩:=s1.q 16 (x:=.int .i64 0) rfl
  obtain ⟨q17,z17⟩:=s1.q 17 (x:=.int .i64 0) rfl
  obtain ⟨q18,z18⟩:=s1.q 18 (x:=.int .u64 0) rfl
  have c2:=(s1.q 2 (x:=.int .i64 7) rfl).1
  obtain ⟨e0,e1,e2⟩:=s1.o
  go_upto_region 14 with (fail)
  refine Ar.gen (G:=fun v'=>Code.wp _ _ _ _ v') (((s1.set (b':=b) (k':=7) (d':=0) (ol':=0) (ro':=0) (ep':=⟨0,0,0⟩) (of':=⟨1+(n:Int)%3,0,0⟩) 16 (.int .i64 (1+(n:Int)%3))).set (b':=b) (k':=7) (d':=0) (ol':=0) (ro':=0) (ep':=⟨0,0,0⟩) (of':=⟨1+(n:Int)%3,1,0⟩) 17 (.int .i64 1)).set (b':=b) (k':=7) (d':=0) (ol':=0) (ro':=0) (ep':=⟨0,0,0⟩) (of':=⟨1+(n:Int)%3,1,n/3%3⟩) 18 (.int .u64 ((n:Int)/3%3))) ?_
  clear c2 e0 e1 e2 s1 q16 z16 q17 z17 q18 z18
  intro w2 s2
  obtain ⟨q14,z14⟩:=(s2.alloc (.cells #[.int .u8 43] 5 (1,2))).q 14 (x:=.slice none 0 0) rfl
  have hcv:=fun (w:World) (C:Array Value) (n c:Nat)=>Lib.run_convert_bytes_const (P:=Tryz.prog) w 39 5 C n c Tryz.underlying39 Tryz.underlying5
  have c2:=(s2.q 2 (x:=.int .i64 7) rfl).1
  obtain ⟨e0,e1,e2⟩:=s2.o
  go_upto_region 21 with (fail)
  refine Ar.gen (G:=fun v'=>Code.wp _ _ _ _ v') (s2.bodyF (43) (43) rfl) ?_
  generalize w2.heap.size=gb
  clear c2 e0 e1 e2 s2 q14 z14
  intro w3 s3
  have c2:=(s3.q 2 (x:=.int .i64 7) rfl).1
  obtain ⟨e0,e1,e2⟩:=s3.o
  go_upto_region 22 with (go_at_call 57;(with_reducible refine (kc.out 7 _).mono ?_);rintro _ v ⟨rfl,rfl⟩)
  refine Ar.gen (G:=fun v'=>Code.wp _ _ _ _ v') s3 ?_
  clear c2 e0 e1 e2 s3
  intro wz sz
  have hok:(smL b 7 (0) (0) (0) none [] ⟨0,0,0⟩ ⟨1+(n:Int)%3,1,n/3%3⟩ (some ⟨gb,0,none⟩) [43]).op.ok:=E8 hb ⟨by decide,by decide⟩ ⟨by omega,by omega⟩ ⟨by omega,by omega⟩ ⟨by omega,by omega⟩ ⟨by simp,(fun x hx=>absurd hx Al1)⟩ (Cz _ _ _ ⟨by omega,by omega⟩ ⟨by omega,by omega⟩ (by show _<_;omega)) (Cz _ _ _ ⟨by omega,by omega⟩ ⟨by omega,by omega⟩ (by show _<_;omega)) (by simp)
  have hby:(smL b 7 (0) (0) (0) none [] ⟨0,0,0⟩ ⟨1+(n:Int)%3,1,n/3%3⟩ (some ⟨gb,0,none⟩) [43]).by_=b:=rfl
  generalize smL b 7 (0) (0) (0) none [] ⟨0,0,0⟩ ⟨1+(n:Int)%3,1,n/3%3⟩ (some ⟨gb,0,none⟩) [43]=y at*
 rotate_left
 focus
  have n8:(n:Int)%8=7:=by omega
  obtain ⟨q2,z2⟩:=(s0.alloc (.cells zK 3)).q 2 (x:=.int .i64 0) rfl
  go_upto_region 3 with (fail)
  refine Ar.gen (G:=fun v'=>Code.wp _ _ _ _ v') ((s0.alloc (.cells zK 3)).set (k':=13) (b':=b) (d':=0) (ol':=0) (ro':=0) (ep':=⟨0,0,0⟩) (of':=⟨0,0,0⟩) 2 (.int .i64 13)) ?_
  clear q2 z2 s0
  intro w1 s1
  obtain ⟨q16,z16⟩:=s1.q 16 (x:=.int .i64 0) rfl
  obtain ⟨q17,z17⟩:=s1.q 17 (x:=.int .i64 0) rfl
  obtain ⟨q18,z18⟩:=s1.q 18 (x:=.int .u64 0) rfl
  have c2:=(s1.q 2 (x:=.int .i64 13) rfl).1
  obtain ⟨e0,e1,e2⟩:=s1.o
  go_upto_region 17 with (fail)
  refine Ar.gen (G:=fun v'=>Code.wp _ _ _ _ v') (((s1.set (b':=b) (k':=13) (d':=0) (ol':=0) (ro':=0) (ep':=⟨0,0,0⟩) (of':=⟨1+(n:Int)%3,0,0⟩) 16 (.int .i64 (1+(n:Int)%3))).set (b':=b) (k':=13) (d':=0) (ol':=0) (ro':=0) (ep':=⟨0,0,0⟩) (of':=⟨1+(n:Int)%3,1,0⟩) 17 (.int .i64 1)).set (b':=b) (k':=13) (d':=0) (ol':=0) (ro':=0) (ep':=⟨0,0,0⟩) (of':=⟨1+(n:Int)%3,1,n/3%3⟩) 18 (.int .u64 ((n:Int)/3%3))) ?_
  clear c2 e0 e1 e2 s1 q16 z16 q17 z17 q18 z18
  intro w2 s2
  obtain ⟨q5,z5⟩:=s2.q 5 (x:=.int .i64 0) rfl
  have c2:=(s2.q 2 (x:=.int .i64 13) rfl).1
  obtain ⟨e0,e1,e2⟩:=s2.o
  go_upto_region 18 with (fail)
  refine Ar.gen (G:=fun v'=>Code.wp _ _ _ _ v') (s2.set (b':=b) (k':=13) (d':=1+(n:Int)/8%5) (ol':=0) (ro':=0) (ep':=⟨0,0,0⟩) (of':=⟨1+(n:Int)%3,1,n/3%3⟩) 5 (.int .i64 (1+(n:Int)/8%5))) ?_
  clear c2 e0 e1 e2 s2 q5 z5
  intro w3 s3
  obtain ⟨q6,z6⟩:=s3.q 6 (x:=.int .i64 0) rfl
  have c2:=(s3.q 2 (x:=.int .i64 13) rfl).1
  obtain ⟨e0,e1,e2⟩:=s3.o
  go_upto_region 21 with (fail)
  refine Ar.gen (G:=fun v'=>Code.wp _ _ _ _ v') (s3.set (b':=b) (k':=13) (d':=1+(n:Int)/8%5) (ol':=1+(n:Int)/40%5) (ro':=0) (ep':=⟨0,0,0⟩) (of':=⟨1+(n:Int)%3,1,n/3%3⟩) 6 (.int .i64 (1+(n:Int)/40%5))) ?_
  clear c2 e0 e1 e2 s3 q6 z6
  intro w4 s4
  have c2:=(s4.q 2 (x:=.int .i64 13) rfl).1
  obtain ⟨e0,e1,e2⟩:=s4.o
  go_upto_region 22 with (go_at_call 57;(with_reducible refine (kc.out 13 _).mono ?_);rintro _ v ⟨rfl,rfl⟩)
  obtain ⟨q9,z9⟩:=(s4.alloc (.cells #[.int .u64 (1+(n:Int)/8%90),.slice none 0 0] 103)).q 9 (x:=.slice none 0 0) rfl
  go_upto_region 24 with (fail)
  refine Ar.gen (G:=fun v'=>Code.wp _ _ _ _ v') (s4.path (1+n/8%90) (1+(n:Int)/8%90) (by omega)) ?_
  generalize w4.heap.size=gp
  clear c2 e0 e1 e2 q9 z9 s4
  intro wz sz
  have hok:(smL b 13 (1+(n:Int)/8%5) (1+(n:Int)/40%5) (0) (some ⟨gp,0,none⟩) [⟨1+n/8%90,none,0,[]⟩] ⟨0,0,0⟩ ⟨1+(n:Int)%3,1,n/3%3⟩ none []).op.ok:=E8 hb ⟨by decide,by decide⟩ ⟨by omega,by omega⟩ ⟨by omega,by omega⟩ ⟨by omega,by omega⟩ ⟨by simp,(fun x hx=>by rw [Al4] at hx;subst hx;exact Gg _ (by omega))⟩ (Cz _ _ _ ⟨by omega,by omega⟩ ⟨by omega,by omega⟩ (by show _<_;omega)) (Cz _ _ _ ⟨by omega,by omega⟩ ⟨by omega,by omega⟩ (by show _<_;omega)) (by simp)
  have hby:(smL b 13 (1+(n:Int)/8%5) (1+(n:Int)/40%5) (0) (some ⟨gp,0,none⟩) [⟨1+n/8%90,none,0,[]⟩] ⟨0,0,0⟩ ⟨1+(n:Int)%3,1,n/3%3⟩ none []).by_=b:=rfl
  generalize smL b 13 (1+(n:Int)/8%5) (1+(n:Int)/40%5) (0) (some ⟨gp,0,none⟩) [⟨1+n/8%90,none,0,[]⟩] ⟨0,0,0⟩ ⟨1+(n:Int)%3,1,n/3%3⟩ none []=y at*
 all_goals
  have hone:=Cr y
  have hsz:(Tryz.prog.info? 44).map (·.size)=some y.cells.size:=hi
  have bz:=sz.b
  have rz:=sz.r
  have hd:=Lib.hid (fun wq hq=>hret.out y wz wq hby hok sz.own sz.f hq)
  clear hret hok hby sz
  generalize y.cells=CS at*
  have hl:=Bd (P:=Tryz.prog) w.heap.size 44 Tryz.underlying44 rfl hsz
  have hst:=Ck (P:=Tryz.prog) (w.heap.size+1) 44 hsz (old:=OpL.zero.cells) (by have h:=hi;rw [hsz] at h;injection h with h;rw [h];rfl) hone
  go_wp2_with (fail)
  have hz2:=rz.setRow (cs:=CS)
  have hdd:=Lib.hid (hd.out _ ((Fr.refl (One (w.heap.size+1)) wz).setRow (g:=w.heap.size+1) (fun _=>rfl) CS))
  (try simp only [Exit.inBlock,Exit.then])
  refine Dq (t:=44) rfl rfl hz2 rfl Tryz.underlying44 hsz rfl ?_
  exact hdd.out
end Oq
end
section
open Go.RowKit
namespace Oq
def Ja (d a v:Int):Op:={base d 1 1 a [] [⟨5,[]⟩] with need:=v}
theorem Ag3 {d a:Int} (hd:1≤d∧d≤12) (ha:0≤a∧a≤2147483647):Pre d 1 1 a [] [⟨5,[]⟩]:=by
 refine ⟨⟨by omega,by omega⟩,hd,⟨by omega,by omega⟩,ha,⟨by simp,by simp,List.Pairwise.nil,by simp⟩,⟨by simp,?_,.inr rfl⟩⟩
 intro x hx
 rw [Al4] at hx
 subst hx
 exact ⟨⟨by decide,by decide⟩,by simp,by simp⟩
theorem Ag4 {d a v:Int} (hd:1≤d∧d≤12) (ha:0≤a∧a≤2147483647) (hv:0≤v∧v≤20):(Ja d a v).chk=0:=
 N1 (Ag3 hd ha) (by unfold inR;simp;omega)
theorem Ag5 {cards:List Cd} {d a v:Int} {c:Cd} (hd:1≤d∧d≤12) (ha:0≤a∧a≤2147483647) (hv:0≤v∧v≤20) (hc:Bk cards d=some c) (hs:c.s=Sg.pub (sec Bc d.toNat)):Aj cards [] (sgn (Ja d a v))=0:=by
 refine Ha (c:=c) (Ag4 hd ha hv) rfl (by simp) hc hs (.inr rfl) rfl ?_ ?_ ?_
 ·
  unfold clash
  rw [List.any_eq_false]
  intro q _
  simp [Cb,Ja,base]
 ·
  show (0:Int)≤a
  exact ha.1
 ·
  unfold Az
  show (decide ((1:Int)≤0)||(decide ((1:Int)<1)&&_))=false
  rfl
theorem R4 {cards:List Cd} {l:List Pn} (h:Rows cards l) (hok:∀n∈l,n.o.ok∧n.id.ok) {id:Id} (hp:(plc l id).isSome=true):id.ok∧1≤id.s∧id.s≤2147483647:=by
 cases hq:plc l id with
 |none=>rw [hq] at hp;cases hp
 |some i=>
  obtain ⟨n,hn,e⟩:=Bz hq
  have k:=h.ok i n hn
  have h1:=hok n (Am4 hn)
  have h2:=Rv k.chk
  have h3:id.s=n.o.sq:=by
   rw [← e,k.id]
   rfl
  exact ⟨e▸h1.2,by omega,by omega⟩
theorem Ag6 {cards:List Cd} {l:List Pn} (h:Rows cards l) (ids:List Id):0≤late l ids∧late l ids≤2147483647:=by
 have hat:∀n∈l,n.o.at_≤2147483647:=by
  intro n hn
  obtain ⟨i,hi⟩:=List.getElem?_of_mem hn
  have h1:=(chk_ok.1 (h.ok i n hi).chk).2.2.1
  unfold Op.numsB at h1
  simp only [Am5] at h1
  have h3:=h1.1.2
  unfold inR at h3
  simp only [Am5,decide_eq_true_eq] at h3
  exact h3.2
 refine ⟨?_,V7 l _ (by omega) hat ids⟩
 unfold late
 have mono:∀(r:List Id) (t:Int),t≤r.foldl (fun t id=>max t (Bn l id)) t:=by
  intro r
  induction r with
  |nil=>intro t;exact Int.le_refl _
  |cons y r ih=>intro t;exact Int.le_trans (Int.le_max_left _ _) (ih _)
 exact mono ids 0
theorem R7 {l:List Pn} {above ids:List Id}:∀(k:Nat) (id:Id),id∈Ce l above ids k→id∈ids∧(plc l id).isSome=true∧Bm above id=false
 |0,id,h=>absurd h Al1
 |k+1,id,h=>by
  have ih:=R7 (l:=l) (above:=above) (ids:=ids) k id
  unfold Ce at h
  split at h
  ·
   rename_i y hy
   split at h
   ·
    rename_i hc
    simp only [Am5,Bool.not_eq_true'] at hc
    rcases List.mem_append.1 h with h1|h1
    · exact ih h1
    ·
     rw [Al4] at h1
     rw [h1]
     exact ⟨Am4 hy,hc.1.1,hc.1.2⟩
   · exact ih h
  · exact ih h
theorem Ag7 {l:List Pn} {ids:List Id} {id:Id} (h:id∈E4 l ids):id∈ids∧(plc l id).isSome=true∧Bm (Cq l ids) id=false:=
 R7 _ id ((Da _).subset h)
theorem Ag8 (l:List Pn) (ids:List Id):(E4 l ids).length≤ids.length:=by
 unfold E4
 rw [E3]
 exact Ma _ _ _ _
theorem R9 {α:Type} [DecidableEq α]:∀{l m:List α},l.Nodup→(∀x∈l,x∈m)→l.length≤m.length
 |[],_,_,_=>Al7 _
 |a::l,m,h,hs=>by
  have ha:=hs a (List.mem_cons_self)
  have hn:=List.nodup_cons.1 h
  have ih:=R9 (l:=l) (m:=m.erase a) hn.2 (fun x hx=>by
   have h1:=hs x (List.mem_cons_of_mem _ hx)
   have h2:x≠a:=fun e=>hn.1 (e▸hx)
   exact (List.mem_erase_of_ne h2).2 h1)
  rw [List.length_erase_of_mem ha] at ih
  have hp:=List.length_pos_of_mem ha
  show l.length+1≤_
  omega
theorem Ag9 {cards:List Cd} {l:List Pn} (_h:Rows cards l) {cs:List Id} (hc:Ec l cs):cs.length≤l.length:=by
 have hs:∀id∈cs,id∈l.map Pn.id:=by
  intro id hid
  have h1:=hc.2 id hid
  cases hq:plc l id with
  |none=>rw [hq] at h1;cases h1
  |some i=>
   obtain ⟨n,hn,e⟩:=Bz hq
   rw [← e]
   exact List.mem_map_of_mem (Am4 hn)
 have:=R9 hc.1 hs
 rwa [Am2] at this
theorem Rows.idAt {cards:List Cd} {l:List Pn} (h:Rows cards l) {i:Nat} {n:Pn} (hi:l[i]? =some n):n.id.b=n.o.by_∧n.id.s=n.o.sq:=by
 rw [(h.ok i n hi).id]
 exact ⟨rfl,rfl⟩
theorem Rows.nodup {cards:List Cd} {l:List Pn} (h:Rows cards l):(l.map Pn.id).Nodup:=by
 rw [List.Nodup,List.pairwise_iff_getElem]
 intro i j hi hj hij e
 rw [Am8,Am8] at e
 rw [Am2] at hi hj
 have k1:=(h.ok i _ (Am1 hi)).plc
 have k2:=(h.ok j _ (Am1 hj)).plc
 rw [e,k2] at k1
 injection k1 with k1
 omega
theorem Ah0 (g:Gph) (p:Nat→Bool) (k:Nat):C5 g.nodes p k=Bi g.pns p k:=by
 unfold C5 Bi Gph.pns
 congr 1
 funext i
 rw [Am9,An0]
 rfl
theorem up_eq (g:Gph) (id:Id) (q:Nat):g.up id q=upB g.pns id q:=by
 unfold Gph.up upB Gph.pns
 rw [Es]
 split
 ·
  rename_i i hi
  rw [hi]
  dsimp only
  rw [Am9,An0]
  rfl
 ·
  rename_i hi
  rw [hi]
theorem Ah1 (g:Gph) (ids:List Id):g.ups ids=Ao g.pns ids:=by
 funext q
 unfold Gph.ups Ao
 congr 1
 funext id
 exact up_eq g id q
theorem Ah2 {l:List Pn} {p:Nat→Bool} {id:Id}:id∈Bi l p l.length↔∃i m,p i=true∧l[i]? =some m∧m.id=id:=by
 constructor
 ·
  intro h
  obtain ⟨i,m,_,h1,h2,h3⟩:=Mb l p l.length id h
  exact ⟨i,m,h1,h2,h3⟩
 ·
  rintro ⟨i,m,h1,h2,h3⟩
  unfold Bi
  refine List.mem_filterMap.2 ⟨i,List.mem_range.2 (List.getElem?_eq_some_iff.1 h2).1,?_⟩
  rw [if_pos h1,h2]
  exact congrArg some h3
theorem Sa {g:Gph} {l:List Pn} (hl:g.pns=l) {ids out:List Id} (hn:g.nodes.length=l.length) (hp:out.Perm (C5 g.nodes (g.ups ids) g.nodes.length)) (hr:RowW out):out=Am (Bi l (Ao l ids) l.length):=by
 rw [Ah0,Ah1,hl,hn] at hp
 exact Gr hr hp
end Oq
end
end Go.Proofs.YtafonabghnogaaaGreatDoor
